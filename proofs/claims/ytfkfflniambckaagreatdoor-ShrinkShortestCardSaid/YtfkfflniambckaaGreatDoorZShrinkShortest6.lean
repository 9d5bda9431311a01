/-
  Part 6 of 9 of the proof of ShrinkShortest: what it leans on. No conditions.
-/
import Derived.Test.YtfkfflniambckaaGreatDoorZShrinkShortest5
set_option maxRecDepth 100000
set_option maxHeartbeats 4000000
namespace Go.Proofs.YtfkfflniambckaaGreatDoor
end Go.Proofs.YtfkfflniambckaaGreatDoor
namespace Go.Fw
open Go.Proofs.YtfkfflniambckaaGreatDoor Go.Proofs Go.RowKit Tryz
theorem x1a.single{α:Type}{R:List Nat→World→List Value→α→Prop}{size g:Nat}{M:List Nat}{w:World}{cs:List Value}{x:α}(hl:cs.length=size)(h:R (g::M) w cs x):x1a R size M w (some g) cs (.slice (some ⟨g,0,none⟩) 1 1) [x]:=by
 refine⟨[cs],Z,by simp[hl],⟨by simp[hl],.inr ⟨g,1,Z,Z,Nat.le_refl _,by unfold maxLen;omega,by simp[hl],?_⟩⟩,fun i y hi=>?_⟩
 ·subst hl;simp
 ·cases i with
  | zero=>cases hi;exact⟨cs,Z,h⟩
  | succ i=>simp at hi
theorem L6c.is{p:h0a}{m:Int}{c:G0a}(hg:L6c p m c)(hm:m=0∨m=1∨m=2):(m=0∧v5a c)∨m=1∨m=2:=by
 rcases hm with h|h|h
 ·exact .inl ⟨h,hg.2 h⟩
 ·exact .inr (.inl h)
 ·exact .inr (.inr h)
theorem f0c{p:h0a}{m:Int}{c:G0a}{x:c0a}:(i0b p m c x).2=0↔x∈J0a p m c:=by
 by_cases h:x∈J0a p m c
 ·rw[F3a h];exact⟨fun _=>h,fun _=>rfl⟩
 ·rw[h3a h];exact⟨fun z=>absurd z (by simp),fun z=>absurd z h⟩
theorem InP.addL{p:h0a}{w0 w:World}{cs:List Value}{L:List Ent}{l:List Nat}(h:InP p [] w0 cs)(S:St [] w0 w L)(hn:∀g∈l,w0.heap.size≤g)(hl:∀g∈l,g<w.heap.size):InP p l w cs :=
 ⟨(h.rd.more fun g hg=>.inr (hn g hg)).keep (S.keep0 _),h.ok,(h.msk.more fun g hg=>.inr (hn g hg)).keep (S.keep0 _),hl⟩
theorem k8b(p:h0a)(m:Int)(hm:m=0∨m=1∨m=2)(run:List c0a)(w0:World)(cs:List Value)(vr:Value)(hI:InP p [] w0 cs)(n0:w5a [] w0 vr run)(hlen:run.length≤120):
 N0a prog 25 #[.agg cs.toArray,.int .i64 m,vr] w0 fun v w'=>(∃vl,v=.tuple #[vl,.int .i64 (W8b p m run),.int .i64 (((L2a p m run).length:Int)-1)]∧x2d [] w' vl (L2a p m run))∧Below w0.heap.size w0 w':=by
 obtain⟨Ac,nc,cc,Am,nm,cm,Al,nl,cl,At,nt,ct,rfl,-⟩:=hI.rd.open_;obtain⟨Ar,nr,cr,rfl⟩:=n0.form;obtain⟨_,-,_⟩:=n0.len;have hp:=hI.ok;have S:=St.refl w0;have a2:=o5a p m run;refine a0a func25 Z ntmps25 Z ?_;refine wO0 Z U (m0a S Z ?_);intro g3 w3 S3 X3 G3;refine lO S3.k [.w 0] Z ⟨⟨Z,Z⟩,U⟩ (x0a S3 w8b Z Z (t6a p [] _ _ (hI.rd.keep (S3.keep0 [])) (by simp) (z4b hI.ok)) ?_);rintro b2 i2 ⟨e1,e2,_,rfl,hv⟩ L0 W1;obtain rfl:=hv.2 hI.ok;refine lB0 Z U (fun c1=>by exact absurd Z c1) (fun c1=>?_);refine lB0 Z U (fun G1=>by exfalso;omega) fun G1=>?_;refine lB0 Z U (fun H1=>by exfalso;omega) fun H1=>?_;refine lB0 Z U (fun I1=>by exfalso;omega) fun I1=>?_;refine lO L0.k [.w 0] Z ⟨⟨Z,Z⟩,U⟩ (x0a L0 o1d Z Z (k9b p [] _ _ (hI.keep (L0.keep0 []))) ?_);rintro d2 O1 ⟨_,rfl,hX⟩ v1 X1;have KX:=z0a.refl [] O1;obtain⟨Ym,U1,zm,Ya,R1,za,Yb,T1,zb,rfl,-⟩:=hX.open_;refine j0a v1 r4a Z Z ?_;intro f0 g2 u1 z1 s1;have o0:=Nat.le_trans KX.size s1;replace KX:=KX.trans z1
 first|refine e0a (kk:=0) (vs:=[_,_,_]) u1 o2a Z Z Z Z Z Z Z ?_
 intro Q1 r0 N0;dsimp only[n0a,List.set] at r0;replace KX:=KX.fresh N0 (by first|exact o0);refine lO r0.k [.w 0] Z ⟨⟨Z,by rfl⟩,U⟩ (g0a r0 Y5a (vs:=[.agg _]) (cs:=[_,_,_]) Z Z Z Z Z Z ?_);intro I0 p1 x1 A1 t1;have E0:=Nat.le_trans KX.size t1;replace KX:=KX.trans A1;have g1:D0a (I0::[f0]) p1 (f1a p) _:=(hX.more (fun x hx=>by simp only[List.mem_cons,List.not_mem_nil,or_false] at hx;rcases hx with rfl|rfl;exact .inr E0;exact .inr o0)).keep KX.of_nil;have J0:x1a A4a 3 [f0] p1 (some I0) _ (.slice (some ⟨I0,0,none⟩) 1 1) [f1a p]:=x1a.single Z g1;refine lC0 Z U (wL (fun μk D ε w=>D=[]∧∃k:Nat,∃c:G0a,∃G:Option Nat,∃H0:List Value,∃v:Value,∃Um:Option Addr,∃um:Nat,∃tm:Nat,∃Ua:Option Addr,∃ua:Nat,∃ta:Nat,∃Ub:Option Addr,∃ub:Nat,∃tb:Nat,(k+μk=(run.length))∧((L2a p m run)[k]?=some c)∧(D0a (G.toList++[f0]) w c [.slice Um um tm,.slice Ua ua ta,.slice Ub ub tb])∧(x1a A4a 3 [f0] w G H0 v ((L2a p m run).take (k+1)))∧St [] w0 w ([(some f0,38,[.slice Um um tm,.slice Ua ua ta,.slice Ub ub tb]),(some g3,27,[.slice Ac nc cc,.slice Am nm cm,.slice Al nl cl,.slice At nt ct])]++[(G,38,H0)])∧Sl ε [(1,.int .i64 m),(2,.slice Ar nr cr),(3,.pointer (some ⟨g3,0,none⟩)),(12,.pointer (some ⟨f0,0,none⟩)),(13,v),(14,.int .i64 k)]) (μ:=(run.length)) ⟨Z,0,f1a p,some I0,_,.slice (some ⟨I0,0,none⟩) 1 1,Ym,U1,zm,Ya,R1,za,Yb,T1,zb,by omega,Z,g1,J0,(x1.perm (List.perm_append_comm (l₁:=[_]))),Z⟩ ?_);rintro μk D ε w ⟨rfl,k,c,G,H0,v,Um,um,tm,Ua,ua,ta,Ub,ub,tb,_,K0,hX,m0,S,eZ⟩;refine wK eZ ?_;have KB:=z0a.refl [] w;refine wB0 Z U (fun J1=>?_) fun J1=>?_
 ·refine lCn 7 S.k [] Z U (wX (fun D ε w=>D=[]∧∃q0:Nat,∃ys:List Value,∃x:c0a,(run[k]?=some x)∧(D0a (G.toList++[f0]) w (i0b p m c x).1 ys)∧(x1a A4a 3 [f0] w G H0 v ((L2a p m run).take (k+1)))∧St [] w0 w ([(some q0,38,ys),(some f0,38,[.slice Um um tm,.slice Ua ua ta,.slice Ub ub tb]),(some g3,27,[.slice Ac nc cc,.slice Am nm cm,.slice Al nl cl,.slice At nt ct])]++[(G,38,H0)])∧Sl ε [(1,.int .i64 m),(2,.slice Ar nr cr),(3,.pointer (some ⟨g3,0,none⟩)),(12,.pointer (some ⟨f0,0,none⟩)),(13,v),(14,.int .i64 k),(15,.pointer (some ⟨q0,0,none⟩)),(16,.int .i64 (i0b p m c x).2)]) ?_ ?_)
  ·obtain⟨x,x0⟩:∃x,run[k]?=some x:=⟨run[k]'(by omega),List.getElem?_eq_getElem _⟩;have hg:=y7a hp (List.mem_of_getElem? K0);have d1:∀g∈G.toList++[f0],w0.heap.size≤g:=fun g hg=>by
    rcases List.mem_append.1 hg with h|h
    ·exact g1c S 2 Z g h
    ·rw[List.mem_singleton.1 h];simpa using S.new 0 Z
   have f1:∀g∈G.toList++[f0],g<w.heap.size:=fun g hg=>by
    rcases List.mem_append.1 hg with h|h
    ·exact Q7a S (k:=2) Z g h
    ·rw[List.mem_singleton.1 h];exact S.lt 0 Z
   have Z1:=S.size;refine b2d b0a (fun i=>[0,1,2,3,4,5,6,8,9,10,13].contains i) 11 7 [11,0,1,2,3,4,5,6,7,8,9,10,12,13] [0,1,2,3,4,5,6,7,11,8,9,10,12,13] (by kernel_rfl) (x3d S) ?_ ?_
   ·have d0:=S.drew;have i0:z0a [] w w.drew:=j2a _ _;generalize w.drew=Z0 at d0 i0 ⊢;replace KB:=KB.trans i0;have a0:=i0;refine V5c ⟨d0,a0⟩ Z Z Z ?_;refine j0a d0 r4a Z Z ?_;intro q0 N1 g0 A0 B0;have C0:=Nat.le_trans KB.size B0;have c0:=Nat.le_trans a0.size B0;replace KB:=KB.trans A0;replace a0:=a0.trans A0;refine w0a ⟨Z,?_⟩;refine E6a ⟨g0.tail,a0⟩ Z Z Z ?_;refine u1a m2a Z (fun w1 hw=>hw.1.cells 1 Z) Z Z ?_;refine f0a ?_;refine E6a ⟨g0.tail,a0⟩ Z Z Z ?_;refine h1a (hv:=Z) (v:=.int .i64 _) Z ?_;refine f0a ?_;refine E6a ⟨g0.tail,a0⟩ Z Z Z ?_;refine u1a Q0a Z (fun w1 hw=>hw.1.cells 0 Z) Z Z ?_;refine f0a ?_;refine E6a ⟨g0.tail,a0⟩ Z Z Z ?_;refine h1a (hv:=Z) (v:=.slice _ _ _) Z ?_;refine f0a ?_;refine E6a ⟨g0.tail,a0⟩ Z Z Z ?_;refine h1a (hv:=Z) (v:=.int .i64 _) Z ?_;refine f0a ?_;refine E6a ⟨g0.tail,a0⟩ Z Z Z ?_;obtain⟨x2,D1,K1,E1,y0,P0,s0,R0,t0,u0⟩:=RdS.get (n0) (k) (by omega);obtain⟨rfl,T0,U0,V0⟩:=id u0;obtain rfl:=Option.some.inj (x0.symm.trans y0);refine p0a b2a.slT Z (by assumption) Z Z ?_;refine f0a ?_;refine E6a ⟨g0.tail,a0⟩ Z Z Z ?_;refine u1a q9a Z (fun w1 hw=>t0.keep (hw.1.keep0 _) s0) (by rfl) Z ?_;refine f0a ?_;refine V5c ⟨g0.tail,a0⟩ Z Z Z ?_;refine x0a g0 r6c Z Z (f5b p c m x (hg.is hm) (q0::(G.toList++[f0])) _ _ _ (hI.addL g0 (fun g hg=>by rcases List.mem_cons.1 hg with rfl|hg;omega;exact d1 g hg) (fun g hg=>by rcases List.mem_cons.1 hg with rfl|hg;exact g0.lt 0 Z;exact Nat.lt_of_lt_of_le (f1 g hg) KB.size)) ((hX.more (fun g hg=>by rcases List.mem_cons.1 hg with rfl|hg;exact .inr C0;exact .inl hg)).keep KB.of_nil) hg.1) ?_;rintro M1 q1 ⟨ys,rfl,hY⟩ p0 G0;replace KB:=KB.trans G0;replace a0:=a0.trans G0;obtain⟨Va,va,W0,Vb,vb,X0,Vc,vc,Y0,rfl,-⟩:=hY.open_;refine w0a ⟨Z,?_⟩;refine E6a ⟨p0.tail,a0⟩ Z Z Z ?_;refine h1a (hv:=Z) (v:=.tuple _) Z ?_;refine f0a ?_;refine E6a ⟨p0.tail,a0⟩ Z Z Z ?_;refine P5a Z Z Z ?_;refine f0a ?_;refine E6a ⟨p0.tail,a0⟩ Z Z Z ?_;refine P5a Z Z Z ?_;refine f0a ?_;refine V5c ⟨p0.tail,a0⟩ Z Z Z ?_;refine e0a (kk:=0) (vs:=[_,_,_]) p0 o2a Z Z Z Z Z Z Z ?_;intro z0 b0 e0;dsimp only[n0a,List.set] at b0;replace KB:=KB.fresh e0 (by exact c0);replace a0:=a0.fresh e0 (by exact c0);replace hY:=hY.keep (e0.mono (by simp));refine w0a ⟨Z,?_⟩;refine E6a ⟨b0.tail,a0⟩ Z Z Z ?_;refine H3a (hv:=Z) (v:=.int .i64 _) Z ?_;refine f0a ?_;refine X0c ⟨b0.tail,a0⟩ ?_;refine fP0 Z U ⟨Z,(q0),(_),(x),(x0),((by exact hY.less (fun g hg=>List.mem_cons_of_mem _ hg))),(m0.keep S1a KB.of_nil),b0,Z⟩
   have d0:=S.drew;have i0:z0a [] w w.drew:=j2a _ _;generalize w.drew=Z0 at d0 i0 ⊢;replace KB:=KB.trans i0;have a0:=i0;refine E6a ⟨d0,a0⟩ Z Z Z ?_;refine u1a m2a Z (fun w1 hw=>hw.1.cells 1 Z) Z Z ?_;refine f0a ?_;refine E6a ⟨d0,a0⟩ Z Z Z ?_;refine h1a (hv:=Z) (v:=.int .i64 _) Z ?_;refine f0a ?_;refine E6a ⟨d0,a0⟩ Z Z Z ?_;refine u1a Q0a Z (fun w1 hw=>hw.1.cells 0 Z) Z Z ?_;refine f0a ?_;refine E6a ⟨d0,a0⟩ Z Z Z ?_;refine h1a (hv:=Z) (v:=.slice _ _ _) Z ?_;refine f0a ?_;refine E6a ⟨d0,a0⟩ Z Z Z ?_;refine h1a (hv:=Z) (v:=.int .i64 _) Z ?_;refine f0a ?_;refine E6a ⟨d0,a0⟩ Z Z Z ?_;obtain⟨x2,D1,K1,E1,y0,P0,s0,R0,t0,u0⟩:=RdS.get (n0) (k) (by omega);obtain⟨rfl,T0,U0,V0⟩:=id u0;obtain rfl:=Option.some.inj (x0.symm.trans y0);refine p0a b2a.slT Z (by assumption) Z Z ?_;refine f0a ?_;refine E6a ⟨d0,a0⟩ Z Z Z ?_;refine u1a q9a Z (fun w1 hw=>t0.keep (hw.1.keep0 _) s0) (by rfl) Z ?_;refine f0a ?_;refine V5c ⟨d0,a0⟩ Z Z Z ?_;refine x0a d0 r6c Z Z (f5b p c m x (hg.is hm) (G.toList++[f0]) _ _ _ (hI.addL d0 d1 (fun g hg=>Nat.lt_of_lt_of_le (f1 g hg) KB.size)) (hX.keep KB.of_nil) hg.1) ?_;rintro M1 q1 ⟨ys,rfl,hY⟩ p0 G0;replace KB:=KB.trans G0;replace a0:=a0.trans G0;have KC:=z0a.refl [] q1;obtain⟨Va,va,W0,Vb,vb,X0,Vc,vc,Y0,rfl,-⟩:=hY.open_;refine w0a ⟨Z,?_⟩;refine V5c ⟨p0,a0⟩ Z Z Z ?_;refine j0a p0 r4a Z Z ?_;intro q0 N1 g0 A0 B0;have c0:=Nat.le_trans a0.size B0;have D0:=Nat.le_trans KC.size B0;replace KB:=KB.trans A0;replace a0:=a0.trans A0;replace KC:=KC.trans A0;refine w0a ⟨Z,?_⟩;refine E6a ⟨g0.tail,a0⟩ Z Z Z ?_;refine h1a (hv:=Z) (v:=.tuple _) Z ?_;refine f0a ?_;refine E6a ⟨g0.tail,a0⟩ Z Z Z ?_;refine P5a Z Z Z ?_;refine f0a ?_;refine E6a ⟨g0.tail,a0⟩ Z Z Z ?_;refine P5a Z Z Z ?_;refine f0a ?_;refine V5c ⟨g0.tail,a0⟩ Z Z Z ?_;refine e0a (kk:=0) (vs:=[_,_,_]) g0 o2a Z Z Z Z Z Z Z ?_;intro z0 b0 e0;dsimp only[n0a,List.set] at b0;replace KB:=KB.fresh e0 (by exact c0);replace a0:=a0.fresh e0 (by exact c0);replace KC:=KC.fresh e0 (by exact D0);refine w0a ⟨Z,?_⟩;refine E6a ⟨b0.tail,a0⟩ Z Z Z ?_;refine H3a (hv:=Z) (v:=.int .i64 _) Z ?_;refine f0a ?_;refine X0c ⟨b0.tail,a0⟩ ?_;refine fP0 Z U ⟨Z,(q0),(_),(x),(x0),((by exact hY.keep KC.of_nil)),(m0.keep S1a KB.of_nil),b0,Z⟩
  rintro D ε w ⟨rfl,q0,ys,x,x0,hY,m0,S,eZ⟩;refine wK eZ ?_;obtain⟨Va,va,W0,Vb,vb,X0,Vc,vc,Y0,rfl,-⟩:=hY.open_;have KY:=z0a.refl [f0] w;have m1:=f0c (p:=p) (m:=m) (c:=c) (x:=x);have hg:=y7a hp (List.mem_of_getElem? K0);refine wB0 Z U (fun O0=>?_) fun O0=>?_
  ·refine lOn 5 S.k [] Z U (y0a Z ?_);refine lOn 1 S.k [] Z U (q0a Z ?_);refine lR0 Z U (O3b Z ?_);refine⟨?_,S.fin⟩;have S0:x∉J0a p m c:=fun z=>O0 (m1.2 z);have hl:=U0b K0 x0 S0;have e1:W8b p m run=110:=by unfold W8b;rw[if_neg (by omega)]
   have e2:(((L2a p m run).length:Int)-1)=k:=by omega
   refine⟨v,by rw[e1,e2],?_⟩;have h1:=x1a.rd (M:=[f0]) S1a m0 S (k:=3) Z (fun g hg hh=>by subst hg;rw[List.mem_singleton] at hh;exact S.ne 1 3 Z Z (by decide) hh.symm) (by rw[List.length_take];omega);rw[List.take_of_length_le (by omega)] at h1;exact RdS.lessW h1 (by simp) (A4a.less (by simp))
  have j1:=m1.1 O0;have n1:=w7a K0 x0 j1;rw[F3a j1] at hY;refine lO0 Z U (z1a Q0a Z (S.cells 0 Z) Z Z ?_)
  first|refine e0a (kk:=1) (vs:=[_,_,_]) S o2a Z Z Z Z Z Z Z ?_
  intro o1 j0 F0;dsimp only[n0a,List.set] at j0;replace KY:=KY.fresh2 F0 (by exact .inr (by simp));refine lOn 3 j0.k [] Z U (y0a Z ?_);refine z1a Q0a Z (j0.cells 1 Z) Z Z ?_;refine g0a j0 Y5a (vs:=[.agg _]) (cs:=[_,_,_]) Z Z Z Z Z Z ?_;intro Y1 j2 b1 B1 V1;replace KY:=KY.trans (B1.of_nil);have i1:=hY.keep (KY.mono (by simp));refine B0a (hll:=(by rw[List.length_take];omega)) S1a (k:=4) (M2:=[f0]) (e1:=doC p m c x) b1 Y5a Z (m0.keep S1a (KY.mono (by simp))) Z Z (b1.cells 0 Z) i1 Z ?_;intro f2 a1 F1 P1 y1 v0 C1 r1;have Q0:D0a (a1.toList++[f0]) P1 (doC p m c x) [.slice Va va W0,.slice Vb vb X0,.slice Vc vc Y0]:=by
   have h1:=i1.more (M':=a1.toList++(G.toList++[f0])) (fun g hg=>(List.mem_append.1 hg).elim (fun h=>(r1 g h).imp (List.mem_append_left _) id) .inl);exact(h1.keep (C1.mono (fun g hg=>by simp[hg]))).less (fun g hg=>by simp at hg ⊢;rcases hg with h|h<;>simp[h])
  refine q0a Z ?_;refine lP0 Z ⟨by omega,U⟩ ⟨μk-1,by omega,Z,(k+1),(doC p m c x),(_),(_),(_),(_),(_),(_),(_),(_),(_),(_),(_),(_),(by omega),?_,?_,?_,y1.tail.tail,Z⟩
  ·exact n1
  ·exact Q0
  ·rw[a1a n1];exact v0
 refine lOn 7 S.k [] Z U (y0a Z ?_);refine lOn 2 S.k [] Z U (q0a Z ?_);refine lR0 Z U (O3b Z ?_);refine⟨?_,S.fin⟩;have hl:=g1a K0;have e1:W8b p m run=0:=by unfold W8b;rw[if_pos (by omega)]
 have e2:(((L2a p m run).length:Int)-1)=nr:=by omega
 refine⟨v,by rw[e1,e2],?_⟩;have h1:=x1a.rd (M:=[f0]) S1a m0 S (k:=2) Z (fun g hg hh=>by subst hg;rw[List.mem_singleton] at hh;exact S.ne 0 2 Z Z (by decide) hh.symm) (by rw[List.length_take];omega);rw[List.take_of_length_le (by omega)] at h1;exact RdS.lessW h1 (by simp) (A4a.less (by simp))
theorem M9b{p:h0a}{d:G0a}:h4c p ⟨-1,k2c,noC,d⟩ (-1) (-1) (-1) 0 where
 hby:=Z
 hown:=Z
 hborn:=Z
 hlock h:=by simp at h
 lim:=by omega
 mod h:=by cases h
 thr h:=by simp at h
theorem C5b{p:h0a}{d:G0a}(hq:s3a d=true):f4a p ⟨-1,k2c,noC,d⟩=L3a p ⟨-1,k2c,noC,d⟩ p.locks.length++p2a p ⟨-1,k2c,noC,d⟩ p.threads.length:=by
 unfold f4a C5a e3a;rw[if_neg (by simp),if_pos hq,if_pos hq];rfl
theorem v7b(p:h0a):s3a (f1a p)=true:=C2b fun b hb=>by
 simp only[f1a,List.mem_map] at hb;obtain⟨_,_,rfl⟩:=hb;rfl
theorem u9b(p:h0a)(m:Int)(hm:m=0∨m=1∨m=2)(run:List c0a)(w0:World)(cs:List Value)(vr:Value)(hI:InP p [] w0 cs)(f0:w5a [] w0 vr run)(hlen:run.length≤120):
 N0a prog 24 #[.agg cs.toArray,.int .i64 m,vr] w0 fun v w'=>(∃vl,v=.tuple #[vl,.int .i64 (W8b p m run)]∧y8b [] w' vl (c3a p m run))∧Below w0.heap.size w0 w':=by
 obtain⟨Ac,nc,cc,Am,nm,cm,Al,nl,cl,At,nt,ct,rfl,-⟩:=hI.rd.open_;obtain⟨Ar,nr,cr,rfl⟩:=f0.form;obtain⟨_,-,_⟩:=f0.len;have hp:=hI.ok;have S:=St.refl w0;have r1:=o5a p m run;have q1:0<(L2a p m run).length:=Nat.succ_pos _;refine a0a func24 Z ntmps24 Z ?_;refine wO0 Z U (m0a S Z ?_);intro g3 w3 S3 X3 G3;refine lO S3.k [.w 0] Z ⟨⟨Z,Z⟩,U⟩ (x0a S3 S6c Z Z (k8b p m hm run _ _ _ (hI.keep (S3.keep0 [])) (f0.keep (S3.keep0 [])) hlen) ?_);rintro s1 o0 ⟨vl,rfl,hL⟩ Y0 m1;have KL:=z0a.refl [] o0;obtain⟨Ax,nx,cx,rfl⟩:=hL.form;obtain⟨_,-,_⟩:=hL.len;refine lB0 Z U (fun c1=>by exfalso;omega) fun c1=>?_;refine lC0 Z U (u8c b0a (fun i=>[0,1,2,3,5].contains i) [0,1,2,3,4,5] (Cl _ _ _ _) (Cl.start Y0) ?_);rintro y1 ⟨g0,i0⟩;refine M1a ⟨g0,i0⟩ Z Z Z ?_;refine u1a m2a Z (fun w1 hw=>hw.1.cells 0 Z) Z Z ?_;refine f0a ?_;refine M1a ⟨g0,i0⟩ Z Z Z ?_;refine h1a (hv:=Z) (v:=.slice _ _ _) Z ?_;refine f0a ?_;refine M1a ⟨g0,i0⟩ Z Z Z ?_;obtain⟨_,_,_,_,O0,_,_,_,I0,q0⟩:=RdS.get ((RdS.keepW hL KL (A4a.keep KL))) (0) (by omega);obtain⟨_,_,_,_,_,_,_,_,_,rfl,_⟩:=D0a.open_ q0;obtain rfl:=Option.some.inj (O0.symm.trans (show(L2a p m run)[0]?=some (f1a p) from rfl));refine p0a Y5a.slT Z (by assumption) Z Z ?_;refine f0a ?_;refine M1a ⟨g0,i0⟩ Z Z Z ?_;refine u1a Q0a Z (fun w1 hw=>I0.keep hw.2 List.not_mem_nil) (by rfl) Z ?_;refine f0a ?_;refine h9a ⟨g0,i0⟩ Z Z Z Z ?_;refine N2a B0b Z Z (F0b p _ (h2b hp) _ _ _ _ M9b [] _ _ _ (hI.keep (g0.keep0 [])) ((D0a.keep (M:=[]) i0.of_nil q0))) ?_;rintro g1 v1 ⟨⟨x0,B0,e0,d0⟩,Q0⟩;have z0:=e4b d0 (g0.later Q0) g0;have j0:=i0.trans (z0a.of_below Q0);have E0:∀g∈x0.toList,o0.heap.size≤g:=fun g hg=>by
  have z1:=(d0 g (by cases x0<;>simp at hg ⊢;exact hg.symm)).1;have z2:=i0.size;omega
 replace KL:=j0;rw[←C5b (v7b p)] at e0;refine w0a ⟨Z,?_⟩;refine M1a ⟨z0.tail,j0⟩ Z Z Z ?_;refine H3a Z ?_;refine f0a ?_;refine C6a ⟨z0.tail,j0⟩ ?_;refine fC0 Z U ?_;refine wL (fun μi D ε w=>D=[]∧∃i:Nat,∃G:Option Nat,∃u0:List Value,∃v:Value,(i+μi=(((L2a p m run).length-1)))∧(x1a (fun _ _=>T4a) 5 [] w0 G u0 v (L4a p run (L2a p m run) (i+1)))∧(z0a [] o0 w)∧(∀g∈G.toList,o0.heap.size≤g)∧St [] w0 w ([(some g3,27,[.slice Ac nc cc,.slice Am nm cm,.slice Al nl cl,.slice At nt ct])]++[(G,59,u0)])∧Sl ε [(2,.slice Ar nr cr),(3,.pointer (some ⟨g3,0,none⟩)),(8,.slice Ax nx cx),(9,.int .i64 (W8b p m run)),(10,.int .i64 (((L2a p m run).length:Int)-1)),(11,v),(12,.int .i64 i)]) (μ:=(((L2a p m run).length-1))) ⟨Z,0,x0,B0,g1,by omega,(by rw[d7a,u5b (show(L2a p m run)[0]?=some (f1a p) from rfl)];exact e0),KL,E0,(z0.perm (List.perm_append_comm (l₁:=[_]))),Z⟩ ?_;rintro μi D ε w ⟨rfl,i,G,u0,v,_,t0,KL,hG,S,eZ⟩;refine wK eZ (wB0 Z U (fun d1=>?_) fun d1=>?_)
 ·have T0:∀x∈G.toList,x∈([]:List Nat)∨o0.heap.size≤x:=fun x hx=>.inr (hG x hx);have U0:RdS G.toList w 3 (A4a G.toList w) (.slice Ax nx cx) (L2a p m run):=RdS.keepW (RdS.moreW hL (by omega) T0 (fun _ _=>D0a.more T0)) KL.of_nil (A4a.keep KL.of_nil);obtain⟨c,_,_,_,v0,C0,F0,_,J0,r0⟩:=RdS.get U0 i (by omega);obtain⟨_,_,_,_,_,_,_,_,_,rfl,-⟩:=D0a.open_ r0;obtain⟨d,_,_,_,W0,D0,G0,_,K0,s0⟩:=RdS.get U0 (i+1) (by omega);obtain⟨_,_,_,_,_,_,_,_,_,rfl,-⟩:=D0a.open_ s0;cases Option.some.inj (C0.symm.trans D0);refine lC0 Z U (C8b b0a (fun i=>[0,1,2,3,4,5,6,7,8,9,10,11,12,13,14,15,18].contains i) [0,1,2,3,4,5,6,7,8,9,10,11,12,13,14,15,16,17,18] (clF (A:=[_]) (R:=[(G,59,u0)]) S G.toList) ?_);have a0:=S.drew;have S0:z0a [] w w.drew:=j2a _ _;generalize w.drew=A1 at a0 S0 ⊢;have b0:z0a (G.toList) _ _:=S0.of_nil;refine M1a ⟨St.front (A:=[_]) a0,b0⟩ Z Z Z ?_;refine h1a Z ?_;refine f0a ?_;refine M1a ⟨St.front (A:=[_]) a0,b0⟩ Z Z Z ?_;refine u1a m2a Z (fun w1 hw=>hw.1.cells 0 Z) Z Z ?_;refine f0a ?_;refine M1a ⟨St.front (A:=[_]) a0,b0⟩ Z Z Z ?_;refine h1a (hv:=Z) (v:=.slice _ _ _) Z ?_;refine f0a ?_;refine M1a ⟨St.front (A:=[_]) a0,b0⟩ Z Z Z ?_;refine h1a (hv:=Z) (v:=.int .i64 _) Z ?_;refine f0a ?_;refine M1a ⟨St.front (A:=[_]) a0,b0⟩ Z Z Z ?_;refine p0a Y5a.slT Z (by assumption) Z Z ?_;refine f0a ?_;refine M1a ⟨St.front (A:=[_]) a0,b0⟩ Z Z Z ?_;refine u1a Q0a Z (fun w1 hw=>J0.keep hw.2 F0) (by rfl) Z ?_;refine f0a ?_;refine M1a ⟨St.front (A:=[_]) a0,b0⟩ Z Z Z ?_;refine h1a (hv:=Z) (v:=.slice _ _ _) Z ?_;refine f0a ?_;refine M1a ⟨St.front (A:=[_]) a0,b0⟩ Z Z Z ?_;refine h1a (hv:=Z) (v:=.int .i64 _) Z ?_;refine f0a ?_;refine M1a ⟨St.front (A:=[_]) a0,b0⟩ Z Z Z ?_;refine o0d Z Z (by unfold i64;omega) Z ?_;refine f0a ?_;refine M1a ⟨St.front (A:=[_]) a0,b0⟩ Z Z Z ?_;refine p0a Y5a.slT Z (by assumption) Z Z ?_;refine f0a ?_;refine M1a ⟨St.front (A:=[_]) a0,b0⟩ Z Z Z ?_;refine u1a Q0a Z (fun w1 hw=>K0.keep hw.2 G0) (by rfl) Z ?_;refine f0a ?_;refine M1a ⟨St.front (A:=[_]) a0,b0⟩ Z Z Z ?_;refine h1a (hv:=Z) (v:=.slice _ _ _) Z ?_;refine f0a ?_;refine M1a ⟨St.front (A:=[_]) a0,b0⟩ Z Z Z ?_;refine h1a (hv:=Z) (v:=.int .i64 _) Z ?_;refine f0a ?_;refine M1a ⟨St.front (A:=[_]) a0,b0⟩ Z Z Z ?_;obtain⟨x,_,_,_,P0,_,H0,_,L0,N0⟩:=RdS.get (f0) (i) (by omega);obtain⟨rfl,_⟩:=id N0;have hg:=y7a hp (List.mem_of_getElem? v0);have V0:x∈J0a p m c:=Classical.byContradiction fun z=>by have:=U0b v0 P0 z;omega
  obtain rfl:d=doC p m c x:=Option.some.inj (W0.symm.trans (w7a v0 P0 V0));have he:h3b run (L2a p m run) (i+1)=⟨i,x,c,doC p m c x⟩:=by
   have z:=F8b (k:=i+1) (by rw[show(((i+1:Nat):Int)-1).toNat=i by omega];exact P0) (by rw[show(((i+1:Nat):Int)-1).toNat=i by omega];exact v0) W0;rw[show(((i+1:Nat):Int)-1)=i by omega] at z;exact z
  refine p0a b2a.slT Z (by assumption) Z Z ?_;refine f0a ?_;refine M1a ⟨St.front (A:=[_]) a0,b0⟩ Z Z Z ?_;refine u1a q9a Z (fun w1 hw=>L0.keep (hw.1.keep0 _) H0) (by rfl) Z ?_;refine f0a ?_;refine M1a ⟨St.front (A:=[_]) a0,b0⟩ Z Z Z ?_;refine h1a (hv:=Z) (v:=.int .i64 _) Z ?_;refine f0a ?_;refine h9a ⟨St.front (A:=[_]) a0,b0⟩ Z Z Z Z ?_;refine x0a a0 y1d Z Z (c7b p ⟨i,x,c,doC p m c x⟩ (N0c hp hg.1 V0) (by show(0:Int)≤i;omega) [] _ _ _ _ (hI.keep (a0.keep0 [])) (D0a.less (M':=[]) (by simp) (D0a.keep (M:=G.toList) b0 r0)) (D0a.less (M':=[]) (by simp) (D0a.keep (M:=G.toList) b0 s0))) ?_;rintro t1 x1 p0 R0 Z0;have c0:=b0.trans (Z0.mono (by simp));obtain⟨_,_,_,rfl⟩:=p0.form;refine w0a ⟨Z,?_⟩;refine h9a ⟨St.front (A:=[_]) R0,c0⟩ Z Z Z Z ?_;have p1:=k9a (e:=(⟨i,x,c,doC p m c x⟩:EvD)) hp;have f1:=m6a (run:=run) (l:=L2a p m run) hp (i+1);refine K2a k1a (M2:=[]) (k:=1) R0 p1a Z t0 Z Z p0 (by omega) Z ?_;intro u1 j1 b1 i1 A0 n0 a1 X0;have n1:=c0.size;have o1:=KL.size;have m0:=c0.trans a1;have y0:z0a [] o0 i1:=KL.freshL m0 (fun g hg=>.inl (hG g hg));refine w0a ⟨Z,?_⟩;refine M1a ⟨St.front (A:=[_]) A0,m0⟩ Z Z Z ?_;refine H3a Z ?_;refine f0a ?_;refine C6a ⟨St.front (A:=[_]) A0,m0⟩ ?_;refine fP0 Z ⟨by omega,U⟩ ⟨μi-1,by omega,Z,(i+1),(_),(_),(_),(by omega),?_,?_,?_,A0,Z⟩
  ·rw[d7a,he];exact n0
  ·exact y0
  ·exact fun g hg=>(X0 g hg).elim (hG g) (fun h=>by omega)
 refine lOn 7 S.k [] Z U (y0a Z ?_);refine lOn 1 S.k [] Z U (q0a Z ?_);refine lR0 Z U (r9b Z ?_);refine⟨⟨v,Z,?_⟩,S.fin⟩;have f1:=m6a (run:=run) (l:=L2a p m run) hp (i+1);have h1:y8b [] w v (L4a p run (L2a p m run) (i+1)):=x1a.rd k1a (M:=[]) t0 S (k:=1) Z (fun _ _=>List.not_mem_nil) (by omega);rw[show i+1=(L2a p m run).length by omega] at h1;exact h1
theorem a0c(p:h0a)(m:Int)(hm:m=0∨m=1∨m=2)(run:List c0a)(w0:World)(cs:List Value)(vr:Value)(hI:InP p [] w0 cs)(a0:w5a [] w0 vr run)(hlen:run.length≤120):
 N0a prog 26 #[.agg cs.toArray,.int .i64 m,vr] w0 fun v w'=>v=.bool (decide (c3a p m run≠[]))∧Below w0.heap.size w0 w':=by
 obtain⟨_,_,_,_,_,_,_,_,_,_,_,_,rfl,-⟩:=hI.rd.open_;obtain⟨_,_,_,rfl⟩:=a0.form;have S:=St.refl w0;refine a0a func26 Z ntmps26 Z ?_;refine wO0 Z U (m0a S Z ?_);intro g3 w3 S3 X3 G3;refine lO S3.k [.w 0] Z ⟨⟨Z,Z⟩,U⟩ (x0a S3 Q0d Z Z (u9b p m hm run _ _ _ (hI.keep (S3.keep0 [])) (a0.keep (S3.keep0 [])) hlen) ?_);rintro f0 g0 ⟨_,rfl,hL⟩ b0 e0;obtain⟨_,_,_,rfl⟩:=hL.form;obtain⟨c0,-,-⟩:=hL.len;refine lB0 Z U (fun d0=>?_) fun d0=>?_
 ·refine lR0 Z U (r0a Z ?_);refine⟨?_,b0.fin⟩;rw[decide_eq_true (show c3a p m run≠[] from fun z=>by rw[z] at c0;simp at c0;omega)];done
 refine lR0 Z U (r0a Z ?_);refine⟨?_,b0.fin⟩;rw[decide_eq_false (fun z:c3a p m run≠[]=>z (List.length_eq_zero_iff.1 (by omega)))];done
section
variable {p:h0a} {m:Int}
def u8a(p:h0a)(m:Int)(run:List c0a):Prop:=(L2a p m run).length=run.length+1
def N0b(p:h0a)(m:Int)(run:List c0a):G0a:=(L2a p m run).getD run.length (f1a p)
def N8b(p:h0a)(m:Int)(run:List c0a):List (List c0a):=(J0a p m (N0b p m run)).map fun x=>run++[x]
def o8a(p:h0a)(m:Int)(L:List (List c0a))(i:Nat):List (List c0a):=(L.take i).flatMap (N8b p m)
theorem V3c:u8a p m []:=Z
theorem B5b{run:List c0a}(h:u8a p m run):(L2a p m run)[run.length]?=some (N0b p m run):=by
 have a0:run.length<(L2a p m run).length:=by unfold u8a at h;omega
 unfold N0b;rw[getD_some (List.getElem?_eq_getElem a0)];exact List.getElem?_eq_getElem a0
theorem x5b(run:List c0a)(x:c0a):L2a p m run=(L2a p m (run++[x])).take (run.length+1):=by
 have:=s9a (p:=p) (m:=m) (run++[x]) run.length
 rwa [List.take_left] at this
theorem Y9b{run:List c0a}{x:c0a}(h:u8a p m (run++[x])):u8a p m run:=by
 unfold u8a at h ⊢;rw[x5b run x,List.length_take,h,List.length_append];simp
theorem L3c{run:List c0a}{x:c0a}(h:u8a p m run):(L2a p m (run++[x]))[run.length]?=some (N0b p m run):=by
 have h1:=B5b h;rw[x5b run x,List.getElem?_take,if_pos (by omega)] at h1;exact h1
theorem m5b{run:List c0a}{x:c0a}(h:u8a p m run):u8a p m (run++[x])↔x∈J0a p m (N0b p m run):=by
 have h1:=L3c (x:=x) h;have hx:(run++[x])[run.length]?=some x:=by simp
 have a0:=o5a p m (run++[x]);constructor
 ·intro he;refine Classical.byContradiction fun hn=>?_;have:=U0b h1 hx hn;unfold u8a at he;rw[this,List.length_append] at he;simp at he
 ·intro b0;have:=g1a (w7a h1 hx b0);unfold u8a;rw[List.length_append] at a0 ⊢;simp only[List.length_cons,List.length_nil] at a0 ⊢;omega
def I1c(p:h0a)(m:Int)(k:Nat)(L:List (List c0a)):Prop:=(∀r∈L,r.length=k∧u8a p m r)∧∀r,u8a p m r→r.length=k→r∈L
def i6b(p:h0a)(m:Int)(k:Nat):Prop:=∀r,u8a p m r→r.length<k→c3a p m r=[]
theorem s7c:I1c p m 0 [[]]:=⟨fun r hr=>by rw[List.mem_singleton] at hr;subst hr;exact⟨Z,V3c⟩,fun r _ h=>by rw[List.length_eq_zero_iff.1 h];simp⟩
theorem D3c{k:Nat}{L:List (List c0a)}(h:I1c p m k L):I1c p m (k+1) (L.flatMap (N8b p m)):=by
 refine⟨fun r hr=>?_,fun r he hl=>?_⟩
 ·obtain⟨q,hq,hr⟩:=List.mem_flatMap.1 hr;obtain⟨x,hx,rfl⟩:=List.mem_map.1 hr;obtain⟨h1,h2⟩:=h.1 q hq;exact⟨by rw[List.length_append,h1];rfl,(m5b h2).2 hx⟩
 ·rcases List.eq_nil_or_concat r with rfl|⟨q,x,rfl⟩
  ·simp at hl
  ·rw[List.concat_eq_append] at he hl ⊢;have h1:=Y9b he;rw[List.length_append] at hl;exact List.mem_flatMap.2 ⟨q,h.2 q h1 (by simpa using hl),List.mem_map.2 ⟨x,(m5b h1).1 he,Z⟩⟩
theorem j9b:i6b p m 0:=fun r _ h=>by omega
theorem Y8b{k:Nat}{L:List (List c0a)}(h:I1c p m k L)(hc:i6b p m k)(hn:∀r∈L,c3a p m r=[]):i6b p m (k+1):=fun r he hl=>by
 rcases Nat.lt_or_ge r.length k with hk|hk
 ·exact hc r he hk
 ·exact hn r (h.2 r he (by omega))
theorem e2c{run:List c0a}(hc:i6b p m run.length)(hw:c3a p m run≠[]):p6b p m run=true∧M3a p m run=some run :=
 L5c hw fun r hl he=>hc r he hl
theorem G9b{L:List (List c0a)}{i:Nat}{run:List c0a}(h:L[i]?=some run):o8a p m L (i+1)=o8a p m L i++N8b p m run:=by
 unfold o8a;rw[List.take_add_one,h];simp
theorem o3c{L:List (List c0a)}{i:Nat}(h:L.length≤i):o8a p m L i=L.flatMap (N8b p m):=by unfold o8a;rw[List.take_of_length_le h]
theorem g3b{run:List c0a}{j:Nat}{x:c0a}(h:(J0a p m (N0b p m run))[j]?=some x):(N8b p m run).take (j+1)=(N8b p m run).take j++[run++[x]]:=by
 have hx:(N8b p m run)[j]?=some (run++[x]):=by unfold N8b;rw[List.getElem?_map,h];rfl
 rw[List.take_add_one,hx];rfl
theorem E9c(run:List c0a):(N8b p m run).length=(J0a p m (N0b p m run)).length:=by unfold N8b;simp
end
def s3c(M:List Nat)(w:World)(cs:List Value)(l:List c0a):Prop:=∃v,cs=[v]∧w5a M w v l
theorem n5a:T7a s3c 1 where
 len h:=by obtain⟨_,rfl,_⟩:=h;rfl
 one h u hu:=by
  obtain⟨v,rfl,hr⟩:=h;obtain⟨_,_,_,rfl⟩:=hr.form;simp at hu;subst hu;rfl
 keep hk h:=by obtain⟨v,h1,h2⟩:=h;exact⟨v,h1,RdS.keep h2 hk⟩
 more hm h:=by obtain⟨v,h1,h2⟩:=h;exact⟨v,h1,RdS.more h2 (by omega) hm⟩
theorem s3c.keep{M:List Nat}{w w':World}(hk:z0a M w w'):∀cs a,s3c M w cs a→s3c M w' cs a:=fun _ _ h=>n5a.keep hk h
inductive I2a where
 | nil
 | op (i:Nat) (t:I2a)
 | two (a b:I2a)
section
variable {P:Program} {r:Option Nat} {N:Nat} {l:List Oper} {C:World→Prop} {pur:Nat→Bool} {K:List Deferred→Env→World→Prop} {D:List Deferred}
def WT(P:Program)(r:Option Nat)(N:Nat)(l:List Oper)(C:World→Prop)(pur:Nat→Bool)(K:List Deferred→Env→World→Prop)(D:List Deferred):I2a→Env→World→Prop
 | .nil,e,w=>C w∧K D e w
 | .op i t,e,w=>C w∧∃o,l[i]?=some o∧U1b N o ∧
  ((pur i=true∧∃d v,o.dst=some d∧PV P l C o e v∧WT P r N l C pur K D t (upd e d v) w) ∨
   (pur i=false∧WL P r N l.toArray [o] (fun D' e' w'=>D'=D∧WT P r N l C pur K D t e' w') D e w))
 | .two a b,e,w=>WT P r N l C pur K D a e w∧WT P r N l C pur K D b e w
theorem WT.inC:∀{t:I2a} {e:Env} {w:World},WT P r N l C pur K D t e w→C w
 | .nil,_,_,h=>h.1
 | .op _ _,_,_,h=>h.1
 | .two _ _,_,_,h=>WT.inC h.1
def I2a.del(i:Nat):I2a→I2a
 | .nil=>.nil
 | .op j t=>if j=i then t else .op j (t.del i)
 | .two a b=>.two (a.del i) (b.del i)
def frA(l:List Oper)(pur:Nat→Bool)(i:Nat):I2a→Bool
 | .nil=>false
 | .op j t=>j==i||(N4a l pur j i&&frA l pur i t)
 | .two a b=>frA l pur i a&&frA l pur i b
def frO(l:List Oper)(pur:Nat→Bool)(i:Nat):I2a→Bool
 | .nil=>false
 | .op j t=>j==i||(pur j&&N4a l pur j i&&frO l pur i t)
 | .two a b=>frO l pur i a||frO l pur i b
def I2a.sel(l:List Oper)(pur:Nat→Bool)(i:Nat):I2a→I2a
 | .nil=>.nil
 | .op j t=>if j=i then t else .op j (t.sel l pur i)
 | .two a b=>bif frO l pur i a then a.sel l pur i else b.sel l pur i
theorem WT.quiet(a0:X3a l=true){i:Nat}(c0:pur i=true):∀(t:I2a) (e:Env) (w:World),frA l pur i t=true→(∀i,N≤i→e i=undef)→WT P r N l C pur K D t e w →
 ∃o d v,l[i]?=some o∧U1b N o∧o.dst=some d∧PV P l C o e v∧WT P r N l C pur K D (t.del i) (upd e d v) w
 | .nil,_,_,hf,_,_=>by simp[frA] at hf
 | .two a b,e,w,hf,hz,h=>by
   simp only[frA,Bool.and_eq_true] at hf;obtain⟨o,d,v,h1,h2,h3,h4,h5⟩:=WT.quiet a0 c0 a e w hf.1 hz h.1;obtain⟨o',d',v',g1,_,g3,g4,g5⟩:=WT.quiet a0 c0 b e w hf.2 hz h.2;obtain rfl:o'=o:=Option.some.inj (g1.symm.trans h1);obtain rfl:d'=d:=Option.some.inj (g3.symm.trans h3);obtain rfl:v'=v:=PV.uniq h.1.inC g4 h4;exact⟨o',d',v',h1,h2,h3,h4,h5,g5⟩
 | .op j t,e,w,hf,hz,h=>by
   obtain⟨hC,p,hp,b0,h⟩:=h;by_cases f0:j=i
   ·subst f0;rcases h with⟨_,d,v,hd,hv,h⟩|⟨i0,_⟩
    ·exact⟨p,d,v,hp,b0,hd,hv,by simpa[I2a.del] using h⟩
    ·rw[c0] at i0;cases i0
   ·have hq:N4a l pur j i=true∧frA l pur i t=true:=by simpa[frA,f0] using hf
    have e0:(I2a.op j t).del i=.op j (t.del i):=by simp[I2a.del,f0]
    rw[e0];rcases h with⟨g0,c,u,hc,hu,h⟩|⟨g0,h⟩
    ·obtain⟨o,d,v,ho,hN,hd,hv,h2⟩:=WT.quiet a0 c0 t (upd e c u) w hq.2 (J1a (b0 c hc) hz) h;have hI:=f5a hq.1 hp ho;refine⟨o,d,v,ho,hN,hd,hv.congr (C0a a0 ho).1 (fun s hs=>I1a (hI.q c hc) hs),hC,p,hp,b0,.inl ⟨g0,c,u,hc,hu.congr (C0a a0 hp).1 (fun s hs=>(I1a (hI.p d hd) hs).symm),?_⟩⟩;rw[←Q2a _ _ _ (hI.dst c d hc hd)];exact h2
    ·have h0:=M2a (e:=e) (e1:=e) b0 (C0a a0 hp).1 (C0a a0 hp).2 hz (fun _ _=>rfl) h;obtain⟨_,u1,w1,_,p0,_,h1⟩:=o8b b0 hz h0;rw[←p0] at h1;obtain⟨o,d,v0,ho,hN,hd,q0,h2⟩:=WT.quiet a0 c0 t (X9a e p.dst u1) w1 hq.2 (X4a b0 hz) h1;have hI:=f5a hq.1 hp ho;have d0:PV P l C o e v0:=q0.congr (C0a a0 ho).1 (fun s hs=>Y4a hI.q hs);refine⟨o,d,v0,ho,hN,hd,d0,hC,p,hp,b0,.inr ⟨g0,?_⟩⟩;have h3:=M2a (e:=upd e d v0) (e1:=e) b0 (C0a a0 hp).1 (C0a a0 hp).2 hz (fun s hs=>I1a (hI.p d hd) hs) h;unfold WL at *;refine fun a Q hs hD he hK=>h3 a Q hs hD he (fun a' w' o0 hh=>hK a' w' o0 ?_);obtain⟨u,hu,j0,h4⟩:=hh;refine⟨j0,?_⟩;obtain⟨o',d',v,n0,_,m0,hv,h5⟩:=WT.quiet a0 c0 t (X9a e p.dst u) w' hq.2 (X4a b0 hz) h4;obtain rfl:o'=o:=Option.some.inj (n0.symm.trans ho);obtain rfl:d'=d:=Option.some.inj (m0.symm.trans hd);have hv':PV P l C o' e v:=hv.congr (C0a a0 ho).1 (fun s hs=>Y4a hI.q hs);obtain rfl:v=v0:=PV.uniq hC hv' d0;have e1:upd (X9a e p.dst u) d' v=X9a (upd e d' v) p.dst u:=by
      have:=f9a e (p:=p) (q:=o') u v hI.dst;rw[hd] at this;exact this
     rw[hu,←e1];exact h5
theorem WT.loud(a0:X3a l=true){i:Nat}(d0:pur i=false):∀(t:I2a) (e:Env) (w:World),frO l pur i t=true→(∀i,N≤i→e i=undef)→WT P r N l C pur K D t e w →
 ∃o,l[i]?=some o∧U1b N o∧WL P r N l.toArray [o] (fun D' e' w'=>D'=D∧∃v,e'=X9a e o.dst v∧WT P r N l C pur K D (t.sel l pur i) e' w') D e w
 | .nil,_,_,hf,_,_=>by simp[frO] at hf
 | .two a b,e,w,hf,hz,h=>by
   simp only[frO,Bool.or_eq_true] at hf;cases ha:frO l pur i a with
   | true =>
     have:=WT.loud a0 d0 a e w ha hz h.1;simpa[I2a.sel,ha] using this
   | false =>
     have:=WT.loud a0 d0 b e w (hf.resolve_left (by rw[ha];simp)) hz h.2;simpa[I2a.sel,ha] using this
 | .op j t,e,w,hf,hz,h=>by
   obtain⟨_,p,hp,c0,h⟩:=h;by_cases f0:j=i
   ·subst f0;rcases h with⟨i0,_⟩|⟨_,h⟩
    ·rw[d0] at i0;cases i0
    ·refine⟨p,hp,c0,?_⟩;have b0:(I2a.op j t).sel l pur j=t:=by simp[I2a.sel]
     rw[b0];have h2:=M2a (e:=e) (e1:=e) c0 (C0a a0 hp).1 (C0a a0 hp).2 hz (fun _ _=>rfl) h;unfold WL at *;exact fun a Q hs hD he hK=>h2 a Q hs hD he (fun a' w' g0 ⟨v,h1,h3,h4⟩=>hK a' w' g0 ⟨h3,v,h1,by rw[h1];exact h4⟩)
   ·have hq:(pur j=true∧N4a l pur j i=true)∧frO l pur i t=true:=by simpa[frO,f0] using hf
    have b0:(I2a.op j t).sel l pur i=.op j (t.sel l pur i):=by simp[I2a.sel,f0]
    rw[b0];rcases h with⟨e0,c,u,hc,hu,h⟩|⟨e0,_⟩
    ·obtain⟨o,ho,hN,h2⟩:=WT.loud a0 d0 t (upd e c u) w hq.2 (J1a (c0 c hc) hz) h;have hI:=f5a hq.1.2 hp ho;refine⟨o,ho,hN,?_⟩;have h3:=M2a (e:=e) (e1:=upd e c u) hN (C0a a0 ho).1 (C0a a0 ho).2 (J1a (c0 c hc) hz) (fun s hs=>(I1a (hI.q c hc) hs).symm) h2;unfold WL at *;refine fun a Q hs hD he hK=>h3 a Q hs hD he (fun a' w' g0 hh=>hK a' w' g0 ?_);obtain⟨v,h1,h4,_,_,h6⟩:=hh;refine⟨h4,v,h1,?_⟩;rw[h1];refine⟨h6.inC,p,hp,c0,.inl ⟨e0,c,u,hc,hu.congr (C0a a0 hp).1 (fun s hs=>(Y4a hI.p hs).symm),?_⟩⟩;have e1:X9a (upd e c u) o.dst v=upd (X9a e o.dst v) c u:=by
      have:=f9a e (p:=p) (q:=o) u v hI.dst;rw[hc] at this;exact this
     rw[←e1];exact h6
    ·rw[hq.1.1] at e0;cases e0
def I2a.paths:I2a→List (List Nat)
 | .nil=>[[]]
 | .op i t=>t.paths.map (i::·)
 | .two a b=>a.paths++b.paths
theorem I2a.paths_ne:∀t:I2a,∃π,π∈t.paths
 | .nil=>⟨[],by simp[I2a.paths]⟩
 | .op i t=>by obtain⟨π,h⟩:=t.paths_ne;exact⟨i::π,List.mem_map.2 ⟨π,h,Z⟩⟩
 | .two a b=>by obtain⟨π,h⟩:=a.paths_ne;exact⟨π,List.mem_append_left _ h⟩
theorem I2a.paths_del{i:Nat}:∀(t:I2a) (ρ:List Nat),ρ∈(t.del i).paths→∃π∈t.paths,ρ=π.erase i
 | .nil,ρ,h=>⟨[],by simp[I2a.paths],by simpa[I2a.del,I2a.paths] using h⟩
 | .two a b,ρ,h=>by
   rcases List.mem_append.1 h with h|h
   ·obtain⟨π,h1,h2⟩:=a.paths_del ρ h;exact⟨π,List.mem_append_left _ h1,h2⟩
   ·obtain⟨π,h1,h2⟩:=b.paths_del ρ h;exact⟨π,List.mem_append_right _ h1,h2⟩
 | .op j t,ρ,h=>by
   by_cases hj:j=i
   ·subst hj;simp only[I2a.del,if_pos] at h;exact⟨j::ρ,List.mem_map.2 ⟨ρ,h,Z⟩,by simp⟩
   ·simp only[I2a.del,if_neg hj,I2a.paths] at h;obtain⟨ρ',h2,rfl⟩:=List.mem_map.1 h;obtain⟨π,h1,rfl⟩:=t.paths_del ρ' h2;exact⟨j::π,List.mem_map.2 ⟨π,h1,Z⟩,by rw[List.erase_cons_tail (by simpa using hj)]⟩
theorem I2a.paths_sel{i:Nat}:∀(t:I2a) (ρ:List Nat),ρ∈(t.sel l pur i).paths→∃π∈t.paths,ρ=π.erase i
 | .nil,ρ,h=>⟨[],by simp[I2a.paths],by simpa[I2a.sel,I2a.paths] using h⟩
 | .two a b,ρ,h=>by
   cases ha:frO l pur i a with
   | true =>
     simp only[I2a.sel,ha,cond_true] at h;obtain⟨π,h1,h2⟩:=a.paths_sel ρ h;exact⟨π,List.mem_append_left _ h1,h2⟩
   | false =>
     simp only[I2a.sel,ha,cond_false] at h;obtain⟨π,h1,h2⟩:=b.paths_sel ρ h;exact⟨π,List.mem_append_right _ h1,h2⟩
 | .op j t,ρ,h=>by
   by_cases hj:j=i
   ·subst hj;simp only[I2a.sel,if_pos] at h;exact⟨j::ρ,List.mem_map.2 ⟨ρ,h,Z⟩,by simp⟩
   ·simp only[I2a.sel,if_neg hj,I2a.paths] at h;obtain⟨ρ',h2,rfl⟩:=List.mem_map.1 h;obtain⟨π,h1,rfl⟩:=t.paths_sel ρ' h2;exact⟨j::π,List.mem_map.2 ⟨π,h1,Z⟩,by rw[List.erase_cons_tail (by simpa using hj)]⟩
def t2d(l:List Oper)(pur:Nat→Bool)(j i:Nat):Bool:=(y4a l i).contains j||N4a l pur j i||(!pur j&&!pur i)
def pwT(l:List Oper)(pur:Nat→Bool):List Nat→Bool
 | []=>true
 | j::π=>π.all (t2d l pur j)&&pwT l pur π
theorem V6c:∀{π:List Nat},pwT l pur π=true→π.Pairwise fun j i=>t2d l pur j i=true
 | [],_=>.nil
 | j::π,h=>by
   simp only[pwT,Bool.and_eq_true,List.all_eq_true] at h;exact .cons h.1 (V6c h.2)
def I2a.nxts(pur:Nat→Bool):I2a→List Nat
 | .nil=>[]
 | .op j t=>bif pur j then t.nxts pur else[j]
 | .two a b=>a.nxts pur++b.nxts pur
def Z5b(l:List Oper)(pur:Nat→Bool)(acc:List Nat)(t:I2a):Bool:=(List.range l.length).all fun i=>pur i||acc.contains i||(t.nxts pur).contains i||(y4a l i).any fun j=>!pur j&&!acc.contains j
def D4b(l:List Oper)(pur:Nat→Bool):List Nat→I2a→Bool
 | _,.nil=>true
 | acc,.op j t=>bif pur j then D4b l pur acc t else Z5b l pur (j::acc) t&&D4b l pur (j::acc) t
 | acc,.two a b=>D4b l pur acc a&&D4b l pur acc b
def h6c(l:List Oper)(pur:Nat→Bool)(t:I2a):Bool :=
 X3a l&&((List.range l.length).all fun i=>(q1a l i).all fun j=>decide (j<i))&&(t.paths.all fun π=>c0c l.length π&&pwT l pur π)&&Z5b l pur [] t&&D4b l pur [] t
theorem n7a{i:Nat}(hi:pur i=true):∀t:I2a,(t.del i).nxts pur=t.nxts pur
 | .nil=>rfl
 | .two a b=>by simp[I2a.del,I2a.nxts,n7a hi a,n7a hi b]
 | .op j t=>by
   by_cases hj:j=i
   ·subst hj;simp[I2a.del,I2a.nxts,hi]
   ·simp only[I2a.del,if_neg hj,I2a.nxts];rw[n7a hi t]
theorem c9a{i:Nat}(hi:pur i=true):∀(t:I2a) (a0:List Nat),D4b l pur a0 t=true→D4b l pur a0 (t.del i)=true
 | .nil,_,h=>h
 | .two a b,a0,h=>by
   simp only[I2a.del,D4b,Bool.and_eq_true] at h ⊢;exact⟨c9a hi a a0 h.1,c9a hi b a0 h.2⟩
 | .op j t,a0,h=>by
   by_cases hj:j=i
   ·subst hj;simpa[I2a.del,D4b,hi] using h
   ·simp only[I2a.del,if_neg hj,D4b] at h ⊢;cases hp:pur j with
    | true=>rw[hp] at h;exact c9a hi t a0 h
    | false =>
      rw[hp] at h;simp only[cond_false,Bool.and_eq_true] at h ⊢;exact⟨by have:=h.1;unfold Z5b at this ⊢;rw[n7a hi t];exact this,c9a hi t _ h.2⟩
theorem u0b{i:Nat}(hi:pur i=false):∀(t:I2a) (a0:List Nat),frO l pur i t=true→D4b l pur a0 t=true→Z5b l pur (i::a0) (t.sel l pur i)=true∧D4b l pur (i::a0) (t.sel l pur i)=true
 | .nil,_,hf,_=>by simp[frO] at hf
 | .two a b,a0,hf,h=>by
   simp only[frO,Bool.or_eq_true] at hf;simp only[D4b,Bool.and_eq_true] at h;cases ha:frO l pur i a with
   | true=>simp only[I2a.sel,ha,cond_true];exact u0b hi a a0 ha h.1
   | false=>simp only[I2a.sel,ha,cond_false];exact u0b hi b a0 (hf.resolve_left (by rw[ha];simp)) h.2
 | .op j t,a0,hf,h=>by
   by_cases hj:j=i
   ·subst hj;simp only[I2a.sel,if_pos,D4b,hi,cond_false,Bool.and_eq_true] at h ⊢;exact h
   ·have hq:(pur j=true∧N4a l pur j i=true)∧frO l pur i t=true:=by simpa[frO,hj] using hf
    simp only[D4b,hq.1.1,cond_true] at h;have:=u0b hi t a0 hq.2 h;simp only[I2a.sel,if_neg hj,D4b,hq.1.1,cond_true];refine⟨?_,this.2⟩;have h1:=this.1;unfold Z5b at h1 ⊢;simpa[I2a.nxts,hq.1.1] using h1
theorem q4b{i:Nat}:∀t:I2a,(∀π∈t.paths,i∈π∧∀A B,π=A++i::B→i∉A→∀j∈A,N4a l pur j i=true)→frA l pur i t=true
 | .nil,h=>by have:=(h [] (by simp[I2a.paths])).1;cases this
 | .two a b,h=>by
   simp only[frA,Bool.and_eq_true];exact⟨q4b a fun π hπ=>h π (List.mem_append_left _ hπ),q4b b fun π hπ=>h π (List.mem_append_right _ hπ)⟩
 | .op j t,h=>by
   by_cases hj:j=i
   ·simp[frA,hj]
   ·have a0:∀π∈t.paths,i∈π:=fun π hπ=>by
     have:=(h (j::π) (List.mem_map.2 ⟨π,hπ,Z⟩)).1;rcases List.mem_cons.1 this with h|h
     ·exact absurd h.symm hj
     ·exact h
    have hq:N4a l pur j i=true:=by
     obtain⟨π,hπ⟩:=t.paths_ne;obtain⟨A,B,he,hA⟩:=List.eq_append_cons_of_mem (a0 π hπ);exact(h (j::π) (List.mem_map.2 ⟨π,hπ,Z⟩)).2 (j::A) B (by rw[he];rfl) (by simp[hA];exact fun e=>hj e.symm) j (by simp)
    simp only[frA,Bool.or_eq_true,Bool.and_eq_true];refine .inr ⟨hq,q4b t fun π hπ=>⟨a0 π hπ,fun A B he hA k hk=>?_⟩⟩;exact(h (j::π) (List.mem_map.2 ⟨π,hπ,Z⟩)).2 (j::A) B (by rw[he];rfl) (by simp[hA];exact fun e=>hj e.symm) k (by simp[hk])
theorem t3b{i:Nat}(hi:pur i=false):∀t:I2a,i∈t.nxts pur→(∀π∈t.paths,∀A B,π=A++i::B→∀j∈A,pur j=true→N4a l pur j i=true)→frO l pur i t=true∧∃π∈t.paths,i∈π
 | .nil,hn,_=>by simp[I2a.nxts] at hn
 | .two a b,hn,h=>by
   rcases List.mem_append.1 hn with hn|hn
   ·obtain⟨h1,π,h2,h3⟩:=t3b hi a hn fun π hπ=>h π (List.mem_append_left _ hπ);exact⟨by simp[frO,h1],π,List.mem_append_left _ h2,h3⟩
   ·obtain⟨h1,π,h2,h3⟩:=t3b hi b hn fun π hπ=>h π (List.mem_append_right _ hπ);exact⟨by simp[frO,h1],π,List.mem_append_right _ h2,h3⟩
 | .op j t,hn,h=>by
   cases hp:pur j with
   | false =>
     have:i=j:=by simpa[I2a.nxts,hp] using hn
     subst this;obtain⟨π,hπ⟩:=t.paths_ne;exact⟨by simp[frO],i::π,List.mem_map.2 ⟨π,hπ,Z⟩,by simp⟩
   | true =>
     obtain⟨h1,π,h2,h3⟩:=t3b hi t (by simpa[I2a.nxts,hp] using hn) fun π hπ A B he k hk a0=>h (j::π) (List.mem_map.2 ⟨π,hπ,Z⟩) (j::A) B (by rw[he];rfl) k (by simp[hk]) a0;obtain⟨A,B,he⟩:=List.append_of_mem h3;have hq:=h (j::π) (List.mem_map.2 ⟨π,h2,Z⟩) (j::A) B (by rw[he];rfl) j (by simp) hp;exact⟨by simp[frO,hp,hq,h1],j::π,List.mem_map.2 ⟨π,h2,Z⟩,by simp[h3]⟩
theorem WT.done:∀{t:I2a} {e:Env} {w:World},(∀π∈t.paths,π=[])→WT P r N l C pur K D t e w→K D e w
 | .nil,_,_,_,h=>h.2
 | .op i t,_,_,hp,_=>by
   obtain⟨π,hπ⟩:=t.paths_ne;have:=hp (i::π) (List.mem_map.2 ⟨π,hπ,Z⟩);cases this
 | .two a b,_,_,hp,h=>WT.done (fun π hπ=>hp π (List.mem_append_left _ hπ)) h.1
structure Y5c (l:List Oper) (pur:Nat→Bool) (t:I2a) (f:Nat→Bool) (acc:List Nat):Prop where
 nd:∀π∈t.paths,π.Nodup
 full:∀π∈t.paths,∀i,i∈π↔(i<l.length∧f i=false)
 ord:∀π∈t.paths,π.Pairwise fun j i=>t2d l pur j i=true
 here_:Z5b l pur acc t=true
 sub:D4b l pur acc t=true
 got:∀i,i∈acc→f i=true
 out:∀i,pur i=false→f i=true→i∈acc
theorem Y5c.ahead{t:I2a}{f:Nat→Bool}{a0:List Nat}(h:Y5c l pur t f a0)(b0:∀i,f i=true→∀j∈q1a l i,f j=true){i:Nat}(c0:∀j∈q1a l i,f j=true){π:List Nat}(hπ:π∈t.paths){A B:List Nat}(he:π=A++i::B){j:Nat}(hj:j∈A)(hq:pur j=true∨pur i=true):N4a l pur j i=true:=by
 have h1:=h.ord π hπ;rw[he,List.pairwise_append] at h1;have h2:=h1.2.2 j hj i (by simp);have h3:=(h.full π hπ j).1 (by rw[he];simp[hj]);unfold t2d at h2;simp only[Bool.or_eq_true,List.contains_eq_mem,decide_eq_true_eq,Bool.and_eq_true,Bool.not_eq_true'] at h2;rcases h2 with(h2|h2)|h2
 ·have:=i3a b0 _ _ c0 j h2;rw[h3.2] at this;cases this
 ·exact h2
 ·rcases hq with hq|hq
  ·rw[hq] at h2;cases h2.1
  ·rw[hq] at h2;cases h2.2
theorem Y5c.erase{t t':I2a}{f:Nat→Bool}{b0 a0:List Nat}{i:Nat}(h:Y5c l pur t f b0)(hp:∀ρ∈t'.paths,∃π∈t.paths,ρ=π.erase i)(h1:Z5b l pur a0 t'=true)(h2:D4b l pur a0 t'=true)(h3:∀j,j∈a0→j∈b0∨j=i)(h4:∀j,j∈b0∨(j=i∧pur i=false)→j∈a0):Y5c l pur t' (fun j=>f j||j==i) a0 where
 nd ρ hρ:=by obtain⟨π,hπ,rfl⟩:=hp ρ hρ;exact(h.nd π hπ).erase i
 full ρ hρ j:=by
  obtain⟨π,hπ,rfl⟩:=hp ρ hρ;rw[(h.nd π hπ).mem_erase_iff,h.full π hπ j];simp only[Bool.or_eq_false_iff,beq_eq_false_iff_ne];exact⟨fun z=>⟨z.2.1,z.2.2,z.1⟩,fun z=>⟨z.2.2,z.1,z.2.1⟩⟩
 ord ρ hρ:=by obtain⟨π,hπ,rfl⟩:=hp ρ hρ;exact(h.ord π hπ).sublist List.erase_sublist
 here_:=h1
 sub:=h2
 got j hj:=by
  rcases h3 j hj with z|rfl
  ·simp[h.got j z]
  ·simp
 out j hj hf:=by
  simp only[Bool.or_eq_true,beq_iff_eq] at hf;rcases hf with z|rfl
  ·exact h4 j (.inl (h.out j hj z))
  ·exact h4 j (.inr ⟨Z,hj⟩)
theorem D0d{id:Nat}{n t:List Deferred→Env→World→Prop}{b:Nat→List Deferred→Env→World→Prop}{e:Env}{w:World}(hm:P.follows .mixedOrders=true)(pur:Nat→Bool)(T:I2a)(hok:h6c l pur T=true)(C:World→Prop)
 (hW:WT P r N l C pur n D T e w.drew):W P r N (.region id l.toArray true) ⟨n,b,t⟩ D e w:=by
 unfold h6c at hok;simp only[Bool.and_eq_true] at hok;obtain⟨⟨⟨⟨n0,u0⟩,y0⟩,v0⟩,B0⟩:=hok;have a0:=fun π (hπ:π∈T.paths)=>List.all_eq_true.1 y0 π hπ;have hz:(∀i,N≤i→e i=undef)→W P r N (.region id l.toArray true) ⟨n,b,t⟩ D e w:=by
  intro hz;refine m6b hm u0 (fun f e w=>(∀i,N≤i→e i=undef)∧(∀i,f i=true→∀j∈q1a l i,f j=true)∧∃t c0,Y5c l pur t f c0∧WT P r N l C pur n D t e w) ⟨hz,by simp,T,[],⟨fun π hπ=>?_,fun π hπ i=>?_,fun π hπ=>?_,v0,B0,by simp,by simp⟩,hW⟩ ?_ ?_
  ·have:=a0 π hπ;unfold c0c at this;simp only[Bool.and_eq_true] at this;exact t8a this.1.1.1
  ·have:=a0 π hπ;unfold c0c at this;simp only[Bool.and_eq_true] at this;refine⟨fun h=>⟨by simpa using List.all_eq_true.1 this.1.2 i h,Z⟩,fun h=>by simpa using List.all_eq_true.1 this.1.1.2 i (List.mem_range.2 h.1)⟩
  ·have:=a0 π hπ;simp only[Bool.and_eq_true] at this;exact V6c this.2
  ·rintro f e w i o ⟨hz,f0,t,c0,hA,hT⟩ ho q0 i0;have r0:i<l.length:=(List.getElem?_eq_some_iff.1 ho).1;have d0:∀k,(f k||k==i)=true→∀j∈q1a l k,(f j||j==i)=true:=by
    intro k hk j hj;simp only[Bool.or_eq_true,beq_iff_eq] at hk ⊢;rcases hk with hk|rfl
    ·exact .inl (f0 k hk j hj)
    ·exact .inl (i0 j hj)
   cases b0:pur i with
   | true =>
     have g0:frA l pur i t=true:=q4b t fun π hπ=>⟨(hA.full π hπ i).2 ⟨r0,q0⟩,fun A B he _ j hj=>hA.ahead f0 i0 hπ he hj (.inr b0)⟩
     obtain⟨o',d,v,m0,hN,hd,hv,h5⟩:=WT.quiet n0 b0 t e w g0 hz hT;obtain rfl:o'=o:=Option.some.inj (m0.symm.trans ho);have e0:Y5c l pur (t.del i) (fun j=>f j||j==i) c0:=hA.erase (I2a.paths_del t) (by have:=hA.here_;unfold Z5b at this ⊢;rw[n7a b0 t];exact this) (c9a b0 t c0 hA.sub) (fun j hj=>.inl hj) (fun j hj=>hj.elim (fun z=>z) (fun z=>by rw[b0] at z;cases z.2));have s0:=hT.inC;rcases hv with⟨p0,hv⟩|⟨p0,rfl⟩
     ·unfold WL;intro a Q hs hD he hK;simp only[wpListIn];have o0:Region.wanted o' (yielded l.toArray a.tmps)=true:=by rw[t1a,he];exact p0
      simp only[o0,if_true];refine⟨F0a _ _ _,?_⟩;rw[Oper.semAt_eq _ _ _ (C0a n0 ho).2,s2a,he,hv w s0,Oper.uponIn_value];refine hK _ _ (by rw[B4a,hs]) ⟨by rw[A2a,hD],?_⟩;rw[hd,m1a v (by rw[hs];exact hN d hd),he];exact⟨J1a (hN d hd) hz,d0,_,_,e0,h5⟩
     ·unfold WL;intro a Q hs hD he hK;simp only[wpListIn];have o0:Region.wanted o' (yielded l.toArray a.tmps)=false:=by rw[t1a,he];exact p0
      simp only[o0];refine⟨F0a _ _ _,?_⟩;refine hK _ _ (by rw[B4a,hs]) ⟨by rw[A2a,hD],?_⟩;rw[hd,m1a undef (by rw[hs];exact hN d hd),he];exact⟨J1a (hN d hd) hz,d0,_,_,e0,h5⟩
   | false =>
     have x0:i∈t.nxts pur:=by
      have h1:=List.all_eq_true.1 hA.here_ i (List.mem_range.2 r0);simp only[Bool.or_eq_true,b0,Bool.false_eq_true,false_or,List.contains_eq_mem,decide_eq_true_eq,List.any_eq_true,Bool.and_eq_true,Bool.not_eq_true',decide_eq_false_iff_not] at h1;rcases h1 with(h1|h1)|⟨j,h1,h2,h3⟩
      ·have:=hA.got i h1;rw[q0] at this;cases this
      ·exact h1
      ·exact absurd (hA.out j h2 (i3a f0 _ _ i0 j h1)) h3
     obtain⟨g0,-⟩:=t3b (l:=l) b0 t x0 fun π hπ A B he j hj z0=>hA.ahead f0 i0 hπ he hj (.inl z0);obtain⟨o',m0,hN,h5⟩:=WT.loud n0 b0 t e w g0 hz hT;obtain rfl:o'=o:=Option.some.inj (m0.symm.trans ho);have h6:=u0b b0 t c0 g0 hA.sub;have e0:Y5c l pur (t.sel l pur i) (fun j=>f j||j==i) (i::c0):=hA.erase (I2a.paths_sel t) h6.1 h6.2 (fun j hj=>by rcases List.mem_cons.1 hj with h|h;exact .inr h;exact .inl h) (fun j hj=>by rcases hj with h|h;simp[h];simp[h.1]);unfold WL at *;refine fun a Q hs hD he hK=>h5 a Q hs hD he (fun a' w' A0 hh=>hK a' w' A0 ?_);obtain⟨t0,v,hv,h7⟩:=hh;exact⟨t0,by rw[hv];exact X4a hN hz,d0,_,_,e0,h7⟩
  ·rintro f e w ⟨_,_,t,c0,hA,hT⟩ j0;refine WT.done (fun π hπ=>?_) hT;rw[List.eq_nil_iff_forall_not_mem];intro i hi;have:=(hA.full π hπ i).1 hi;rw[j0 i this.1] at this;cases this.2
 unfold W at *;intro a hs hd he;refine hz (fun i hi=>?_) a hs hd he;rw[←he];simp only[Y0a,Array.getD_eq_getD_getElem?];rw[Array.getElem?_eq_none (by omega)];rfl
variable {e:Env} {w:World}
theorem s0c(hC:C w)(h:K D e w):WT P r N l C pur K D .nil e w:=⟨hC,h⟩
theorem z6c{a b:I2a}(h1:WT P r N l C pur K D a e w)(h2:WT P r N l C pur K D b e w):WT P r N l C pur K D (.two a b) e w:=⟨h1,h2⟩
theorem w0d{i:Nat}{t:I2a}{o:Oper}(hC:C w)(ho:l[i]?=some o)(hp:pur i=true)(hv:V0c o.op=true)(h:QL P N l.toArray C [o] (fun e'=>WT P r N l C pur K D t e' w) e):WT P r N l C pur K D (.op i t) e w:=by
 unfold QL at h;obtain⟨pa,hl,hq,hk⟩:=h;obtain⟨d,v,h1,h2,h3,h4⟩:=hq 0 o Z;obtain rfl:pa=[(d,v)]:=by
  match pa,hl,h1 with
  | [x],_,h1=>simpa using h1
 refine⟨hC,o,ho,fun d' a0=>by rw[h2] at a0;cases a0;exact h3,.inl ⟨hp,d,v,h2,?_,hk⟩⟩;rcases h4 with⟨h5,h6⟩|h5
 ·refine .inl ⟨h5,fun w hw=>?_⟩;rcases h6 w hw with h7|⟨f,args,h7,_⟩
  ·exact h7
  ·obtain⟨_,hv'⟩:=e6a hv h7;cases hv'
 ·exact .inr h5
theorem y5b{i:Nat}{t:I2a}{o:Oper}(hC:C w)(ho:l[i]?=some o)(hp:pur i=false)(hN:(o.dst.all fun d=>Nat.ble (d+1) N)=true)
 (h:WL P r N l.toArray [o] (fun D' e' w'=>D'=D∧WT P r N l C pur K D t e' w') D e w):WT P r N l C pur K D (.op i t) e w :=
 ⟨hC,o,ho,fun d hd=>by rw[hd] at hN;exact Nat.le_of_ble_eq_true (by simpa using hN),.inr ⟨hp,h⟩⟩
end
theorem St.apartO{M:List Nat}{w0 w:World}{L:List Ent}(S:St M w0 w L){i j:Nat}{G G':Option Nat}{t t':TypeId}{cs a0:List Value}(hi:L[i]?=some (G,t,cs))(hj:L[j]?=some (G',t',a0))(b0:i<j):∀g,G=some g→g∉G'.toList:=fun g hg hh=>by
 obtain⟨h1,e1⟩:=List.getElem?_eq_some_iff.1 hi;obtain⟨h2,e2⟩:=List.getElem?_eq_some_iff.1 hj;have h:=List.pairwise_iff_getElem.1 S.apart i j h1 h2 b0 g (by rw[e1];exact hg);rw[e2] at h;refine h ?_;cases G'<;>simp at hh ⊢;exact hh.symm
theorem p9a(p:h0a)(m:Int)(hm:0≤m∧m≤255)(w0:World)(cs:List Value)(hP:C1a [] w0 p cs)(hN:c4b p)(hK:Y3a [] w0):
 N0a prog 7 #[.agg cs.toArray,.int .u8 m] w0 fun v w'=>v=.bool true∧Below w0.heap.size w0 w':=by
 obtain⟨Ac,nc,cc,Am,nm,cm,Al,nl,cl,At,nt,ct,rfl,-⟩:=hP.open_;have S:=St.refl w0;refine a0a func7 Z ntmps7 Z ?_;refine wO0 Z U (m0a S Z ?_);intro g2 w2 S2 X2 G2;refine lO0 Z U (i0a S2 Y0d Z Z (q0c _ (hK.keep (S2.keep0 []))) ?_);intro U3 O1 K3;refine lO0 Z U (X2c Tryz.underlying5 Tryz.underlying3 Z Z ?_);rw[s4a (by unfold i64;omega)];refine W2d Z Z (by omega) (by omega) Z ?_;obtain⟨k3,z3⟩:∃k,k=m % 3:=⟨_,Z⟩;rw[←z3];have D1:k3=0∨k3=1∨k3=2:=by omega
 refine lO O1.k [.w 0] Z ⟨⟨Z,Z⟩,U⟩ (P0c O1 W1d Z Z (v9b p [] [] _ _ _ (hP.keep (O1.keep0 [])) (by simp) hN a2a) (fun L2 C3 P1 p3=>?_) (fun C3 P1 p3=>?_))
 ·have A1:∀{w L},St [] w0 w L→InP p [] w _:=fun S=>⟨hP.keep (S.keep0 []),L2.1,hK.keep (S.keep0 []),by simp⟩
  have hp:=L2.1;have n2:=hp.nthreads;refine lO0 Z U (g0a P1 c0b (vs:=[.slice _ _ _]) (cs:=[_]) Z Z Z Z Z Z ?_);intro t3 M1 C2 L3 J3;have P2:RdS [] M1 1 (s3c [] M1) (.slice (some ⟨t3,0,none⟩) 1 1) [[]]:=Y1b (hg:=List.not_mem_nil) (c:=[_]) (C2.cells 0 Z) Z ⟨_,Z,a2a⟩;obtain⟨wA,U2⟩:∃x,x=M1:=⟨_,Z⟩;have j3:z0a [] wA M1:=U2▸z0a.refl _ _;rw[←U2] at P2;refine lC0 Z U (wL (fun μk D ε w=>D=[]∧∃k:Nat,∃wq:World,∃AL:Option Addr,∃nL:Nat,∃cL:Nat,∃L:List (List c0a),(k+μk=(5))∧(RdS [] wq 1 (s3c [] wq) (.slice AL nL cL) L)∧(z0a [] wq w)∧(I1c p k3 k L)∧(i6b p k3 k)∧(L.length≤300)∧St [] w0 w [(some g2,27,[.slice Ac nc cc,.slice Am nm cm,.slice Al nl cl,.slice At nt ct])]∧Sl ε [(2,.pointer (some ⟨g2,0,none⟩)),(5,.int .i64 k3),(6,.slice AL nL cL),(26,.int .i64 k)]) (μ:=(5)) ⟨Z,0,wA,_,_,_,[[]],by omega,P2,j3,s7c,j9b,by simp,C2.tail,Z⟩ ?_);rintro μk D ε w ⟨rfl,k,wq,AL,nL,cL,L,_,Q2,KL,W0,R2,_,S,eZ⟩;refine wK eZ (wB0 Z U (fun u3=>?_) fun u3=>?_)
  ·obtain⟨wB,P3⟩:∃x,x=w:=⟨_,Z⟩;have O3:=Q2.len.1;refine lC0 Z U (wL (fun μi D ε w=>D=[]∧∃i:Nat,∃G:Option Nat,∃J1:List Value,∃v:Value,(i+μi=(L.length))∧(x1a s3c 1 [] w G J1 v (o8a p k3 L i))∧(∀r∈L.take i,c3a p k3 r=[])∧((o8a p k3 L i).length≤300)∧(∀g∈G.toList,wq.heap.size≤g)∧(z0a [] wq w)∧St [] w0 w ([(some g2,27,[.slice Ac nc cc,.slice Am nm cm,.slice Al nl cl,.slice At nt ct])]++[(G,41,J1)])∧Sl ε [(2,.pointer (some ⟨g2,0,none⟩)),(5,.int .i64 k3),(7,v),(26,.int .i64 k),(28,.slice AL nL cL),(29,.int .i64 nL),(30,.int .i64 i)]) (μ:=(L.length)) ⟨Z,0,none,[],.slice none 0 0,by omega,x1a.nil,by simp,by simp[o8a],by simp,KL,(S.nils (R:=[(none,41,[])]) (by simp)),Z⟩ ?_);rintro μi D ε w ⟨rfl,i,G,J1,v,_,X0,T2,y3,hG,KL,S,eZ⟩;refine wK eZ (wB0 Z U (fun v3=>?_) fun v3=>?_)
   ·have O2:∀x∈G.toList,x∈([]:List Nat)∨wq.heap.size≤x:=fun x hx=>.inr (hG x hx);obtain⟨run,q3,A3,_,C0,W1,Z1,_,V0,q2⟩:=RdS.get ((RdS.keepW (RdS.moreW Q2 (by omega) O2 (fun _ _=>n5a.more O2)) KL.of_nil (s3c.keep KL.of_nil))) (i) (by omega);obtain⟨vr,rfl,s2⟩:=q2;have Y0:w5a [] w vr run:=RdS.less s2 (by simp);obtain⟨Ar,nr,cr,rfl⟩:=Y0.form;have o2:=W0.1 run (d0a C0);obtain⟨wI,V2⟩:∃x,x=w:=⟨_,Z⟩;have KR:z0a [] wI w:=V2▸z0a.refl _ _;have P0:=X0;rw[←V2] at Y0 s2 P0;refine lO (S.k.b V0) [.x q3 A3,.f 0 0] Z ⟨Z,⟨W1,by omega⟩,U⟩ (z1a m2a Z (S.cells 0 Z) Z Z ?_);refine lO0 Z U (A0a S G1d Z Z (a0c p k3 D1 run _ _ _ (A1 S) (Y0.keep KR) (by omega)) (fun V1 D3 R0 f1=>?_) (fun V1 D3 R0 f1=>?_))
    ·replace V0:=V0.keep (f1.of_nil) Z1;replace KL:=KL.trans f1;replace KR:=KR.trans f1;have C1:=e2c (o2.1▸R2) (of_decide_eq_true V1);refine lO0 Z U (z1a m2a Z (R0.cells 0 Z) Z Z ?_);refine lO0 Z U (x0a R0 D2b Z Z (m4b (hlen:=(by omega)) p k3 D1 run run C1.2 [] _ _ _ (A1 R0) (Y0.keep KR)) ?_);rintro Q3 E3 ⟨_,_,_,rfl,hB⟩ Q1 E2;replace KL:=KL.trans E2;replace KR:=KR.trans E2;have KB:=z0a.refl [] E3;refine lO0 Z U (z1a m2a Z (Q1.cells 0 Z) Z Z ?_);refine lO0 Z U (i0a Q1 U7b Z Z (b4a (p7a (hlen:=(by omega)) p k3 D1 run [] _ _ _ (A1 Q1) (Y0.keep KR)) C1.1) ?_);intro V3 n3 R1;replace KL:=KL.trans R1;replace KR:=KR.trans R1;replace KB:=KB.trans R1;refine lB0 Z U (fun N2=>?_) (fun N2=>by exact absurd Z N2);refine lO0 Z U (i0a n3 o0c Z Z (b4a (V0b run run [] _ _ _ (hB.keep KB) (Y0.keep KR)) (decide_eq_true Z)) ?_);intro W3 o3 F2;replace KL:=KL.trans F2;replace KR:=KR.trans F2;exact lT Z U Z ⟨Z,o3.fin⟩
    replace KL:=KL.trans f1;replace KR:=KR.trans f1;refine lO0 Z U (z1a m2a Z (R0.cells 0 Z) Z Z ?_);refine lO0 Z U (x0a R0 S6c Z Z (k8b p k3 D1 run _ _ _ (A1 R0) (Y0.keep KR) (by omega)) ?_);rintro R3 F3 ⟨_,rfl,hC⟩ D2 H2;replace KL:=KL.trans H2;replace KR:=KR.trans H2;have KC:=z0a.refl [] F3;obtain⟨_,Z2,_,rfl⟩:=hC.form;obtain⟨_,-,-⟩:=hC.len;have N3:(L2a p k3 run).length=run.length+1:=o2.2;have N0:=B5b o2.2;have j2:=y7a hp (List.mem_of_getElem? N0);refine lCn 11 D2.k [] Z U ?_;obtain⟨d,_,_,_,Y2,_,_,_,b2,E1⟩:=RdS.get (RdS.keepW hC KC (A4a.keep KC)) (((Z2:Int)-1).toNat) (by omega);obtain⟨_,_,_,_,_,_,_,_,_,rfl,-⟩:=D0a.open_ E1;obtain rfl:d=N0b p k3 run:=by
     rw[show((Z2:Int)-1).toNat=run.length by omega] at Y2;exact Option.some.inj (Y2.symm.trans N0)
    refine u8c b0a (fun i=>[0,1,2,3,5,6,7,10].contains i) [0,1,2,3,4,5,6,7,8,9,10] (Cl _ _ _ _) (Cl.start D2) ?_;rintro H3 ⟨e0,d0⟩;replace KL:=KL.trans d0;replace KR:=KR.trans d0;refine M1a ⟨e0,d0⟩ Z Z Z ?_;refine u1a m2a Z (fun w1 hw=>hw.1.cells 0 Z) Z Z ?_;refine f0a ?_;refine M1a ⟨e0,d0⟩ Z Z Z ?_;refine h1a (hv:=Z) (v:=.int .i64 _) Z ?_;refine f0a ?_;refine M1a ⟨e0,d0⟩ Z Z Z ?_;refine h1a (hv:=Z) (v:=.slice _ _ _) Z ?_;refine f0a ?_;refine M1a ⟨e0,d0⟩ Z Z Z ?_;refine h1a (hv:=Z) (v:=.slice _ _ _) Z ?_;refine f0a ?_;refine h9a ⟨e0,d0⟩ Z Z Z Z ?_;refine B0c Y5a.slT Z Z ?_;refine w0a ⟨Z,?_⟩;refine M1a ⟨e0,d0⟩ Z Z Z ?_;refine X6c Z Z (by unfold i64;omega) Z ?_;refine f0a ?_;refine M1a ⟨e0,d0⟩ Z Z Z ?_;refine p0a Y5a.slT Z (by assumption) Z Z ?_;refine f0a ?_;refine M1a ⟨e0,d0⟩ Z Z Z ?_;refine u1a Q0a Z (fun w1 hw=>b2.keep hw.2 List.not_mem_nil) (by rfl) Z ?_;refine f0a ?_;refine h9a ⟨e0,d0⟩ Z Z Z Z ?_;refine x0a e0 R6c Z Z (W6a p (N0b p k3 run) k3 (j2.is D1) [] G.toList _ _ _ (A1 e0) (D0a.keep (M:=[]) d0 E1) j2.1 (Q7a e0 (k:=1) Z)) ?_;rintro S3 d1 f2 S0 T1;have z0:=d0.trans T1;replace KL:=KL.trans T1;replace KR:=KR.trans T1;have s0:=z0a.refl G.toList d1;have KI:z0a G.toList wI d1:=KR.of_nil;obtain⟨Ach,a3,s3,rfl⟩:=f2.form;obtain⟨_,-,_⟩:=f2.len;have i2:=T2a hp j2.1 k3 p.threads.length (Nat.le_refl _);rw[q6a] at i2;refine w0a ⟨Z,?_⟩;refine h9a ⟨S0,z0⟩ Z Z Z Z ?_;refine B0c b2a.slT Z Z ?_;refine w0a ⟨Z,?_⟩;refine M1a ⟨S0,z0⟩ Z Z Z ?_;refine h1a (hv:=Z) (v:=.int .i64 _) Z ?_;refine f0a ?_;refine C6a ⟨S0,z0⟩ ?_;refine fC0 Z U (wL (fun μj D ε w=>D=[]∧∃j:Nat,∃G2:Option Nat,∃cs2:List Value,∃v2:Value,(j+μj=((J0a p k3 (N0b p k3 run)).length))∧(x1a s3c 1 [] w G2 cs2 v2 (o8a p k3 L i++(N8b p k3 run).take j))∧(∀g∈G2.toList,wq.heap.size≤g)∧(∀g∈G2.toList,d1.heap.size≤g∨g∈G.toList)∧(z0a [] wq w)∧(z0a G.toList d1 w)∧(z0a G.toList wI w)∧St [] w0 w ([(some g2,27,[.slice Ac nc cc,.slice Am nm cm,.slice Al nl cl,.slice At nt ct])]++[(G2,41,cs2)])∧Sl ε [(2,.pointer (some ⟨g2,0,none⟩)),(5,.int .i64 k3),(7,v2),(9,.slice Ar nr cr),(26,.int .i64 k),(28,.slice AL nL cL),(29,.int .i64 nL),(30,.int .i64 i),(74,.slice Ach a3 s3),(75,.int .i64 a3),(76,.int .i64 j)]) (μ:=((J0a p k3 (N0b p k3 run)).length)) ⟨Z,0,G,J1,v,by omega,(by simpa using P0.keep n5a KR.of_nil),hG,(fun g hg=>.inr hg),KL,s0,KI,S0,Z⟩ ?_);rintro μj D ε w ⟨rfl,j,G2,cs2,v2,_,A0,U0,F0,KL,s0,KI,S,eZ⟩;refine wK eZ ?_;have KX:=z0a.refl [] w;refine wB0 Z U (fun w3=>?_) fun w3=>?_
    ·obtain⟨x,r3,B3,_,t2,X1,_,m2,d2,r2⟩:=RdS.get ((f2.keep s0)) (j) (by omega);obtain⟨rfl,a1,b1,c1⟩:=id r2;refine lO (S.k.b d2) [.x r3 B3,.v 0] Z ⟨⟨Z,m2⟩,⟨X1,by omega⟩,U⟩ (j0a S f2b Z Z ?_);intro M3 T3 m3 I1 H1;have m1:=Nat.le_trans KL.size H1;have Q0:=Nat.le_trans s0.size H1;have j1:=Nat.le_trans KI.size H1;have n1:=Nat.le_trans KX.size H1;replace KL:=KL.trans I1;replace KX:=KX.trans I1;replace s0:=s0.trans (I1.of_nil);replace KI:=KI.trans (I1.of_nil)
     first|refine e0a (kk:=0) (vs:=[_,_,_]) m3 H1b Z Z Z Z Z Z Z ?_
     intro p0 x0 r0;dsimp only[n0a,List.set] at x0;replace KL:=KL.fresh r0 (by exact m1);replace KX:=KX.fresh r0 (by exact n1);replace s0:=s0.fresh2 r0 (by exact .inl Q0);replace KI:=KI.fresh2 r0 (by exact .inl j1);have Z0:w5a (G.toList++G2.toList) p0 (.slice Ar nr cr) run:=(RdS.more s2 (by omega) (fun g hg=>(List.mem_append.1 hg).elim .inl (fun h=>(F0 g h).elim (fun z=>.inr (by have:=KR.size;omega)) .inl))).keep (KI.mono (fun g hg=>List.mem_append_left _ hg));have B0:=A0.keep n5a (w':=p0) KX.of_nil;have ZL:=KL.size;have ZC:=s0.size;have ZR:=KR.size;refine lC0 Z U (D0d b0a (fun i=>[0,2,4,9].contains i) (.op 0 (.op 2 (.op 4 (.two (.op 1 (.two (.op 3 (.op 5 (.op 6 (.op 7 (.op 8 (.op 9 .nil)))))) (.op 5 (.op 3 (.op 6 (.op 7 (.op 8 (.op 9 .nil)))))))) (.op 5 (.op 1 (.op 3 (.op 6 (.op 7 (.op 8 (.op 9 .nil))))))))))) (by kernel_rfl) (clF (A:=[_,_]) (R:=[(G2,41,cs2)]) x0 G2.toList) ?_);have j0:=x0.drew;have t1:z0a [] p0 p0.drew:=j2a _ _;generalize p0.drew=I3 at j0 t1 ⊢;have o0:z0a (G2.toList) _ _:=t1.of_nil;refine w0d ⟨(St.front (A:=[_,_]) j0),o0⟩ Z Z Z ?_;refine h1a Z ?_;refine f0a ?_;refine w0d ⟨(St.front (A:=[_,_]) j0),o0⟩ Z Z Z ?_;refine h1a (hv:=Z) (v:=.slice _ _ _) Z ?_;refine f0a ?_;refine w0d ⟨(St.front (A:=[_,_]) j0),o0⟩ Z Z Z ?_;refine u1a q9a Z (fun w1 hw=>hw.1.cells 0 Z) Z Z ?_;refine f0a ?_;refine z6c ?_ ?_
     ·refine y5b ⟨(St.front (A:=[_,_]) j0),o0⟩ Z Z Z ?_;refine C7a j0 b2a Z ?_;intro K1 G3 T0 U1 N1;have q0:=Nat.le_trans o0.size N1;have f0:=o0.trans U1.of_nil;refine w0a ⟨Z,?_⟩;refine z6c ?_ ?_
      ·refine y5b ⟨(St.front (A:=[_,_,_]) T0).tail,f0⟩ Z Z Z ?_;have u1:=f0.size;have F1:=Z0.keep (f0.mono (fun g hg=>List.mem_append_right _ hg));refine K2a N1a (M2:=[]) (k:=0) T0 b2a Z (x1a.new (g:=K1)) Z Z F1 (by simp;omega) Z ?_;intro b3 x2 x1 f3 E0 I0 o1 i1;rw[List.nil_append] at I0;have m0:=f0.freshL o1 (fun g hg=>.inl (by simp at hg;subst hg;exact q0));refine w0a ⟨Z,?_⟩;refine y5b ⟨(St.front (A:=[_,_,_]) E0).tail,m0⟩ Z Z Z ?_;refine g0a E0 b2a (vs:=[.agg _]) (cs:=[_,_,_]) Z Z Z Z Z Z ?_;intro J2 g3 G0 p1 y2;have c0:=m0.trans (p1.mono (by simp));refine w0a ⟨Z,?_⟩;refine y5b ⟨(St.front (A:=[_,_,_,_]) G0).tail.tail,c0⟩ Z Z Z ?_;refine B0a N1a (k:=1) (M2:=[]) (e1:=x) G0 b2a Z I0 Z Z (G0.cells 0 Z) ⟨Z,a1,b1,c1⟩ Z ?_;intro d3 z2 y1 h3 K0 J0 q1 u2;have n0:=c0.freshL q1 (fun g hg=>.inl (by rcases i1 g hg with h|h;(simp at h;subst h;exact q0);exact Nat.le_trans u1 h));obtain⟨g1,v1,rfl⟩:=J0.form;refine w0a ⟨Z,?_⟩;refine y5b ⟨(St.front (A:=[_,_,_,_]) K0).tail.tail,n0⟩ Z Z Z ?_;refine g0a K0 c0b (vs:=[.slice _ _ _]) (cs:=[_]) Z Z Z Z Z Z ?_;intro K2 G1 i0 r1 A2;have a0:=n0.trans (r1.mono (by simp));refine w0a ⟨Z,?_⟩;refine y5b ⟨(St.front (A:=[_,_,_,_,_]) i0).tail.tail.tail,a0⟩ Z Z Z ?_;have I2:=a0.size;have hE:w5a (G2.toList++[]) G1 (.slice g1 (run++[x]).length v1) (run++[x]):=by
        rw[List.append_nil];exact x1a.rd N1a (M:=G2.toList) J0 i0 (k:=2) Z (i0.apartO (i:=2) (j:=5) Z Z (by omega)) (by simp;omega)
       refine B0a (hll:=(by rw[List.length_append,List.length_take];omega)) n5a (k:=5) (M2:=[]) (e1:=run++[x]) i0 c0b Z (B0.keep n5a (a0.mono (by simp))) Z Z (i0.cells 0 Z) ⟨_,Z,hE⟩ Z ?_;intro e3 B2 z1 D0 y0 g0 s1 H0;have b0:=a0.trans s1;have v0:z0a [] wq D0:=KL.freshL b0 (fun g hg=>.inl (U0 g hg));have t0:z0a G.toList d1 D0:=s0.freshL b0 F0;have u0:z0a G.toList wI D0:=KI.freshL b0 (fun g hg=>(F0 g hg).imp (fun h=>by have:=S0.size;omega) id);refine w0a ⟨Z,?_⟩;refine w0d ⟨(St.front (A:=[_,_,_,_,_]) y0).tail.tail.tail,b0⟩ Z Z Z ?_;refine H3a Z ?_;refine f0a ?_;refine s0c ⟨(St.front (A:=[_,_,_,_,_]) y0).tail.tail.tail,b0⟩ ?_;refine fP0 Z ⟨by omega,U⟩ ⟨μj-1,by omega,Z,(j+1),(_),(_),(_),(by omega),?_,?_,?_,(v0),(t0),(u0),y0.tail.tail.tail.tail,Z⟩
       ·rw[g3b t2,←List.append_assoc];exact g0
       ·exact fun g hg=>(H0 g hg).elim (U0 g) (fun h=>by omega)
       ·exact fun g hg=>(H0 g hg).elim (F0 g) (fun h=>.inl (by omega))
      refine y5b ⟨(St.front (A:=[_,_,_]) T0).tail,f0⟩ Z Z Z ?_;refine g0a T0 b2a (vs:=[.agg _]) (cs:=[_,_,_]) Z Z Z Z Z Z ?_;intro J2 g3 G0 p1 y2;have c0:=f0.trans (p1.mono (by simp));refine w0a ⟨Z,?_⟩;refine y5b ⟨(St.front (A:=[_,_,_,_]) G0).tail.tail,c0⟩ Z Z Z ?_;have u1:=c0.size;have F1:=Z0.keep (c0.mono (fun g hg=>List.mem_append_right _ hg));refine K2a N1a (M2:=[]) (k:=1) G0 b2a Z (x1a.new (g:=K1)) Z Z F1 (by simp;omega) Z ?_;intro b3 x2 x1 f3 E0 I0 o1 i1;rw[List.nil_append] at I0;have m0:=c0.freshL o1 (fun g hg=>.inl (by simp at hg;subst hg;exact q0));refine w0a ⟨Z,?_⟩;refine y5b ⟨(St.front (A:=[_,_,_,_]) E0).tail.tail,m0⟩ Z Z Z ?_;refine B0a N1a (k:=1) (M2:=[]) (e1:=x) E0 b2a Z I0 Z Z (E0.cells 0 Z) ⟨Z,a1,b1,c1⟩ Z ?_;intro d3 z2 y1 h3 K0 J0 q1 u2;have n0:=m0.freshL q1 (fun g hg=>.inl (by rcases i1 g hg with h|h;(simp at h;subst h;exact q0);exact Nat.le_trans u1 h));obtain⟨g1,v1,rfl⟩:=J0.form;refine w0a ⟨Z,?_⟩;refine y5b ⟨(St.front (A:=[_,_,_,_]) K0).tail.tail,n0⟩ Z Z Z ?_;refine g0a K0 c0b (vs:=[.slice _ _ _]) (cs:=[_]) Z Z Z Z Z Z ?_;intro K2 G1 i0 r1 A2;have a0:=n0.trans (r1.mono (by simp));refine w0a ⟨Z,?_⟩;refine y5b ⟨(St.front (A:=[_,_,_,_,_]) i0).tail.tail.tail,a0⟩ Z Z Z ?_;have I2:=a0.size;have hE:w5a (G2.toList++[]) G1 (.slice g1 (run++[x]).length v1) (run++[x]):=by
       rw[List.append_nil];exact x1a.rd N1a (M:=G2.toList) J0 i0 (k:=2) Z (i0.apartO (i:=2) (j:=5) Z Z (by omega)) (by simp;omega)
      refine B0a (hll:=(by rw[List.length_append,List.length_take];omega)) n5a (k:=5) (M2:=[]) (e1:=run++[x]) i0 c0b Z (B0.keep n5a (a0.mono (by simp))) Z Z (i0.cells 0 Z) ⟨_,Z,hE⟩ Z ?_;intro e3 B2 z1 D0 y0 g0 s1 H0;have b0:=a0.trans s1;have v0:z0a [] wq D0:=KL.freshL b0 (fun g hg=>.inl (U0 g hg));have t0:z0a G.toList d1 D0:=s0.freshL b0 F0;have u0:z0a G.toList wI D0:=KI.freshL b0 (fun g hg=>(F0 g hg).imp (fun h=>by have:=S0.size;omega) id);refine w0a ⟨Z,?_⟩;refine w0d ⟨(St.front (A:=[_,_,_,_,_]) y0).tail.tail.tail,b0⟩ Z Z Z ?_;refine H3a Z ?_;refine f0a ?_;refine s0c ⟨(St.front (A:=[_,_,_,_,_]) y0).tail.tail.tail,b0⟩ ?_;refine fP0 Z ⟨by omega,U⟩ ⟨μj-1,by omega,Z,(j+1),(_),(_),(_),(by omega),?_,?_,?_,(v0),(t0),(u0),y0.tail.tail.tail.tail,Z⟩
      ·rw[g3b t2,←List.append_assoc];exact g0
      ·exact fun g hg=>(H0 g hg).elim (U0 g) (fun h=>by omega)
      ·exact fun g hg=>(H0 g hg).elim (F0 g) (fun h=>.inl (by omega))
     refine y5b ⟨(St.front (A:=[_,_]) j0),o0⟩ Z Z Z ?_;refine g0a j0 b2a (vs:=[.agg _]) (cs:=[_,_,_]) Z Z Z Z Z Z ?_;intro J2 g3 G0 p1 y2;have c0:=o0.trans (p1.mono (by simp));refine w0a ⟨Z,?_⟩;refine y5b ⟨(St.front (A:=[_,_,_]) G0).tail,c0⟩ Z Z Z ?_;refine C7a G0 b2a Z ?_;intro K1 G3 T0 U1 N1;have q0:=Nat.le_trans c0.size N1;have f0:=c0.trans U1.of_nil;refine w0a ⟨Z,?_⟩;refine y5b ⟨(St.front (A:=[_,_,_,_]) T0).tail.tail,f0⟩ Z Z Z ?_;have u1:=f0.size;have F1:=Z0.keep (f0.mono (fun g hg=>List.mem_append_right _ hg));refine K2a N1a (M2:=[]) (k:=0) T0 b2a Z (x1a.new (g:=K1)) Z Z F1 (by simp;omega) Z ?_;intro b3 x2 x1 f3 E0 I0 o1 i1;rw[List.nil_append] at I0;have m0:=f0.freshL o1 (fun g hg=>.inl (by simp at hg;subst hg;exact q0));refine w0a ⟨Z,?_⟩;refine y5b ⟨(St.front (A:=[_,_,_,_]) E0).tail.tail,m0⟩ Z Z Z ?_;refine B0a N1a (k:=0) (M2:=[]) (e1:=x) E0 b2a Z I0 Z Z (E0.cells 1 Z) ⟨Z,a1,b1,c1⟩ Z ?_;intro d3 z2 y1 h3 K0 J0 q1 u2;have n0:=m0.freshL q1 (fun g hg=>.inl (by rcases i1 g hg with h|h;(simp at h;subst h;exact q0);exact Nat.le_trans u1 h));obtain⟨g1,v1,rfl⟩:=J0.form;refine w0a ⟨Z,?_⟩;refine y5b ⟨(St.front (A:=[_,_,_,_]) K0).tail.tail,n0⟩ Z Z Z ?_;refine g0a K0 c0b (vs:=[.slice _ _ _]) (cs:=[_]) Z Z Z Z Z Z ?_;intro K2 G1 i0 r1 A2;have a0:=n0.trans (r1.mono (by simp));refine w0a ⟨Z,?_⟩;refine y5b ⟨(St.front (A:=[_,_,_,_,_]) i0).tail.tail.tail,a0⟩ Z Z Z ?_;have I2:=a0.size;have hE:w5a (G2.toList++[]) G1 (.slice g1 (run++[x]).length v1) (run++[x]):=by
      rw[List.append_nil];exact x1a.rd N1a (M:=G2.toList) J0 i0 (k:=1) Z (i0.apartO (i:=1) (j:=5) Z Z (by omega)) (by simp;omega)
     refine B0a (hll:=(by rw[List.length_append,List.length_take];omega)) n5a (k:=5) (M2:=[]) (e1:=run++[x]) i0 c0b Z (B0.keep n5a (a0.mono (by simp))) Z Z (i0.cells 0 Z) ⟨_,Z,hE⟩ Z ?_;intro e3 B2 z1 D0 y0 g0 s1 H0;have b0:=a0.trans s1;have v0:z0a [] wq D0:=KL.freshL b0 (fun g hg=>.inl (U0 g hg));have t0:z0a G.toList d1 D0:=s0.freshL b0 F0;have u0:z0a G.toList wI D0:=KI.freshL b0 (fun g hg=>(F0 g hg).imp (fun h=>by have:=S0.size;omega) id);refine w0a ⟨Z,?_⟩;refine w0d ⟨(St.front (A:=[_,_,_,_,_]) y0).tail.tail.tail,b0⟩ Z Z Z ?_;refine H3a Z ?_;refine f0a ?_;refine s0c ⟨(St.front (A:=[_,_,_,_,_]) y0).tail.tail.tail,b0⟩ ?_;refine fP0 Z ⟨by omega,U⟩ ⟨μj-1,by omega,Z,(j+1),(_),(_),(_),(by omega),?_,?_,?_,(v0),(t0),(u0),y0.tail.tail.tail.tail,Z⟩
     ·rw[g3b t2,←List.append_assoc];exact g0
     ·exact fun g hg=>(H0 g hg).elim (U0 g) (fun h=>by omega)
     ·exact fun g hg=>(H0 g hg).elim (F0 g) (fun h=>.inl (by omega))
    obtain⟨A9,c9,rfl⟩:=A0.form;have a2:(N8b p k3 run).take j=N8b p k3 run:=List.take_of_length_le (by rw[E9c];omega);have L0:o8a p k3 L (i+1)=o8a p k3 L i++(N8b p k3 run).take j:=by rw[G9b C0,a2]
    refine lOn 8 S.k [] Z U (y0a (hv:=Z) (v:=.slice _ _ _) Z ?_);refine lB0 Z U (fun x3=>?_) fun x3=>?_
    ·exact lT Z U Z ⟨Z,S.fin⟩
    refine lP0 Z ⟨by omega,U⟩ ⟨μi-1,by omega,Z,(i+1),(_),(_),(_),(by omega),?_,?_,?_,?_,(KL),S,Z⟩
    ·rw[L0];exact A0
    ·intro r hr;rw[a1a C0] at hr;rcases List.mem_append.1 hr with h|h
     ·exact T2 r h
     ·rw[List.mem_singleton.1 h];exact Classical.byContradiction fun z=>(of_decide_eq_false V1) z
    ·rw[L0];omega
    ·exact U0
   obtain⟨A9,c9,rfl⟩:=X0.form;have B1:RdS [] w 1 (s3c [] w) (.slice A9 (o8a p k3 L i).length c9) (o8a p k3 L i):=x1a.rd n5a (M:=[]) X0 S (k:=1) Z (fun _ _=>List.not_mem_nil) (by omega);obtain⟨i3,W2⟩:∃x,x=w:=⟨_,Z⟩;have Y1:z0a [] i3 w:=W2▸z0a.refl _ _;rw[←W2] at B1;have O0:=D3c W0;have p2:∀r∈L,c3a p k3 r=[]:=fun r hr=>T2 r (by rw[List.take_of_length_le (by omega)];exact hr);refine lOn 7 S.k [] Z U (y0a (hv:=Z) (v:=.slice _ _ _) Z ?_);refine q0a (hv:=Z) (v:=.slice _ _ _) Z ?_;refine lP0 Z ⟨by omega,U⟩ ⟨μk-1,by omega,Z,(k+1),(i3),(_),(_),(_),((o8a p k3 L i)),(by omega),?_,?_,?_,?_,?_,(St.front (A:=[_]) S),Z⟩
   ·exact B1
   ·exact Y1
   ·rw[←o3c (show L.length≤i by omega)] at O0;exact O0
   ·exact Y8b W0 R2 p2
   ·exact y3
  exact lT Z U Z ⟨Z,S.fin⟩
 exact lT Z U Z ⟨Z,P1.fin⟩
end Go.Fw
