/-
  Part 6 of 9 of the proof of ShrinkMatchesReference: what it leans on. No conditions.
-/
import Derived.Test.YtgjenhndpfcjkaaGreatDoorZShrinkMatchesReference5
set_option maxRecDepth 100000
set_option maxHeartbeats 4000000
namespace Go.Proofs.YtgjenhndpfcjkaaGreatDoor
end Go.Proofs.YtgjenhndpfcjkaaGreatDoor
namespace Go.Fw
open Go.Proofs.YtgjenhndpfcjkaaGreatDoor Go.Proofs Go.RowKit Tryz
theorem E3a.rdI2{M':List Nat}{w0 w:World}{L:List Ent}{k:Nat}{G:Option Nat}{el n:Nat}{cs:LV}{v:Value}{M:List Nat}{l:List Int}(hR:E3a G 1 n cs v (l.map (Value.int .i64)))(S:St M' w0 w L)(hk:L[k]?=some (G,el,cs))
 (hM:∀g,G=some g→g∉M) (hl:∀x∈l,i64 x) (a0:l.length≤140737488355328):RdI M w v l:=by
 have hn:n=l.length:=by have:=hR.1;simp at this;omega
 subst hn;refine hR.rd S hk hM Z a0 (fun i x hi=>?_);have b0:i<l.length:=(List.getElem?_eq_some_iff.1 hi).1;have hx:l[i]=x:=(List.getElem?_eq_some_iff.1 hi).2;have e1:((l.map (Value.int .i64)).drop (i*1)).take 1=[.int .i64 x]:=by
  rw[Nat.mul_one,List.drop_eq_getElem_cons (by simpa using b0)];simp[hx]
 rw[e1];exact⟨Z,Z,hl x (List.mem_of_getElem? hi)⟩
theorem A1a.rdG2{α:Type}{R:List Nat→World→LV→α→Prop}{size:Nat}{M M':List Nat}{w0 w:World}{L:List Ent}{k el:Nat}{G:Option Nat}{cs:LV}{v:Value}{l:List α}(h:A1a R size M w G cs v l)(S:St M' w0 w L)(hk:L[k]?=some (G,el,cs))(hM:∀g,G=some g→g∉M)(hl:l.length≤1000000):RdS M w size (R (G.toList++M) w) v l:=by
 obtain⟨css,h1,h2,⟨_,hr⟩,h4⟩:=h;rcases hr with⟨rfl,rfl,h0⟩|⟨g,b0,rfl,rfl,q1,q2,q3,q4⟩
 ·exact⟨none,0,0,Z,by omega,by omega,by unfold maxLen;omega,by omega,fun h=>absurd h (by omega)⟩
 ·refine⟨_,_,_,Z,Z,q1,q2,by omega,fun _=>⟨g,0,Z,hM g Z,fun i x hi=>?_⟩⟩;obtain⟨c,h5,h6⟩:=h4 i x hi;refine⟨c,h2 c (List.mem_of_getElem? h5),fun j u hj=>?_,h6⟩;have hf:=u4c css i c h2 h5 j u hj;have a0:i*size+j<l.length*size:=by
   have:=(List.getElem?_eq_some_iff.1 hf).1;rw[u5a css h2,h1] at this;exact this
  rw[←q4,List.getElem?_take,if_pos a0] at hf;have:=S.cell k hk hf;simpa using this
theorem A3b{α:Type}{b:List α}{i j:Nat}{x:α}(hx:b[j]?=some x)(a0:j≠i):(b.take (j+1)).eraseIdx i=(b.take j).eraseIdx i++[x]:=by
 have hl:=(List.getElem?_eq_some_iff.1 hx).1;rw[O0a hx];rcases Nat.lt_or_ge i j with h|h
 ·rw[List.eraseIdx_append_of_lt_length (by rw[List.length_take];omega)]
 ·rw[List.eraseIdx_of_length_le (by simp;omega),List.eraseIdx_of_length_le (by rw[List.length_take];omega)]
theorem j0c{α:Type}{b:List α}{j:Nat}{x:α}(hx:b[j]?=some x):(b.take (j+1)).eraseIdx j=(b.take j).eraseIdx j:=by
 have hl:=(List.getElem?_eq_some_iff.1 hx).1;rw[O0a hx,List.eraseIdx_append_of_length_le (by rw[List.length_take];omega),List.length_take,show j-min j b.length=0 by omega,List.eraseIdx_of_length_le (l:=b.take j) (by rw[List.length_take];omega)];simp
theorem c5c(p:g0a)(hp:q1a p)(c:E0a)(M:List Nat)(w0:World)(hM:∀g∈M,g<w0.heap.size)(xs:LV)(hX:B0a M w0 c xs)(hf:U5a p c):
 M0a prog 255 #[.agg xs.toArray] w0 fun v w'=>(∃Am nm cm Aa na ca gb vs,v=.agg #[.slice Am nm cm,.slice Aa na ca,.slice (some ⟨gb,0,none⟩) c.buf.length c.buf.length]∧z0a w' (gb,189,vs)∧w0.heap.size≤gb∧vs.length=c.buf.length ∧
  RdI (gb::M) w' (.slice Am nm cm) c.mem∧RdI (gb::M) w' (.slice Aa na ca) c.at_∧∀(k:Nat) (b:List J0a),c.buf[k]?=some b→∃u,vs[k]?=some u∧W5c (gb::M) w' u b)∧Below w0.heap.size w0 w' :=
 (B6b p hp c M w0 hM xs hX hf).mono fun v w' ⟨⟨Gm,Ga,f0,e0,vm,va,gb,b0,vs,hv,Rm,Ra,S,hR⟩,hB⟩=>by
   obtain⟨Am,nm,cm,rfl⟩:=Rm.form;obtain⟨Aa,na,ca,rfl⟩:=Ra.form;have f1:=hf.mem.len;have f2:=hf.nat;have n1:=hp.ncells;have n2:=hp.nthreads;have a0:∀b∈c.buf,b.length≤1000:=fun b hb=>by
    obtain⟨k,hk,rfl⟩:=List.getElem_of_mem hb;have:=(hf.bufs k _ (List.getElem?_eq_getElem hk)).1;omega
   have d0:gb∉z6a b0:=fun hh=>by
    obtain⟨x,hx,hg⟩:=v2a.1 hh;have h1:=S.apart;rw[List.pairwise_append] at h1;exact h1.2.2 (some gb,189,vs) (by simp) x hx gb Z hg
   have c0:=S.apartM (A:=[_,_,_]) hM;refine⟨⟨Am,nm,cm,Aa,na,ca,gb,vs,hv,S.blk 0 Z,by simpa using S.new 0 Z,hR.2.1,?_,?_,hR.rd (A:=[_,_,_]) S (Mx:=gb::M) (fun g hg=>by simp at hg ⊢;grind) (fun g hg=>?_) a0⟩,hB⟩
   ·refine Rm.rdI2 S (k:=2) Z (fun g hg hh=>?_) (B3a hp hf.mem) (by omega);subst hg;rcases List.mem_cons.1 hh with rfl|hh
    ·exact S.ne 0 2 Z Z (by decide) Z
    ·rcases S.new 2 Z with h|h
     ·have:=hM g hh;omega
     ·cases h
   ·refine Ra.rdI2 S (k:=1) Z (fun g hg hh=>?_) (b7a hp hf) (by omega);subst hg;rcases List.mem_cons.1 hh with rfl|hh
    ·exact S.ne 0 1 Z Z (by decide) Z
    ·rcases S.new 1 Z with h|h
     ·have:=hM g hh;omega
     ·cases h
   ·rcases List.mem_cons.1 hg with rfl|hg
    ·exact d0
    ·exact c0 g hg
theorem d8b(p:g0a)(hp:q1a p)(c:E0a)(t i:Nat)(cell:Int)(b:List J0a)(M:List Nat)(w0:World)(hM:∀g∈M,g<w0.heap.size)(xs:LV)(hX:B0a M w0 c xs)(hf:U5a p c)(R0:c.buf[t]?=some b)(hix:b.findIdx? (fun e=>e.cells.getD 0 0=cell)=some i):
 M0a prog 254 #[.agg xs.toArray,.int .i64 t,.int .i64 cell] w0 fun v w'=>(∃ys,v=.agg ys.toArray∧B0a M w' (Q4a c t i) ys)∧Bw w0 w':=by
 obtain⟨Xm,xm,ym,Xa,xa,ya,Xb,xb,yb,rfl,_⟩:=id hX.open_;have S:=(St.refl w0).nilEnt 278;have f1:=hf.mem.len;have n1:=hp.ncells;have n2:=hp.nthreads;have f3:=hf.nbuf;have ht:=m1a R0;have K1:=hf.bufs t b R0;have M1:=M9a hf t i;obtain⟨hi,s2,t2⟩:=List.findIdx?_eq_some_iff_getElem.1 hix;obtain⟨en,m0⟩:∃en,b[i]?=some en:=⟨b[i],List.getElem?_eq_getElem hi⟩;have q1:=K1.2.1 en (c0a m0);have q2:=q1.i64s;have o2:Q4a c t i=⟨w2a c.mem en,c.at_,c.buf.set t (b.eraseIdx i)⟩:=by unfold Q4a;rw[getD_some R0,getD_some m0]
 rw[o2] at M1 ⊢;refine a0a func254 Z ntmps254 Z ?_;refine wO1 Z (i0a S Z ?_);intro g3 w3 S3 X3 G3;refine m0a S3 t4a Z Z ?_;intro g6 w6 S6 X6 G6;refine lO S6.k [.w 1] Z ⟨⟨Z,Z⟩,U⟩ ?_;have V1:∀g∈g6::M,g<w6.heap.size:=fun g hg=>by
  rcases List.mem_cons.1 hg with rfl|hg
  ·exact S6.lt 0 Z
  ·have:=hM g hg;have:=S6.size;omega
 have m1:B0a (g6::M) w6 c _:=(hX.more (fun g hg=>by rcases List.mem_cons.1 hg with rfl|hg;exact .inr (by simpa using S6.new 0 Z);exact .inl hg)).keep (S6.keep0 _);refine O2a E3c Z Z (c5c p hp c (g6::M) _ V1 _ m1 hf) ?_;rintro J2 d0 ⟨⟨Am,nm,cm,Aa,na,ca,gb,vs,rfl,r2,g2,_,w1,o1,P0⟩,R1⟩;have U0:=(S6.later R1).push_new S6 r2 g2;have s0:=A0a.refl [] d0;refine m0a U0 t4a Z Z ?_;intro g7 w7 S7 X7 G7;have e0:=Nat.le_trans s0.size G7;replace s0:=s0.trans X7;refine f0a (kk:=0) (vs:=[_,_,_]) S7 n2a Z Z Z Z Z Z Z ?_;intro D2 t0 X0;dsimp only[o0a,List.set] at t0;replace s0:=s0.fresh X0 (by first|exact e0);refine lCn 3 t0.k [] Z U ?_;have hN:∀x∈gb::g7::g6::M,x∈gb::g6::M∨d0.heap.size≤x:=fun x hx=>by
  simp only[List.mem_cons] at hx ⊢;rcases hx with rfl|rfl|rfl|hx
  ·simp
  ·exact .inr e0
  ·simp
  ·simp[hx]
 have hm:RdI (gb::g7::g6::M) d0 (.slice Am nm cm) c.mem:=RdS.more w1 (by omega) hN;have j2:RdS [] d0 1 (V4a (gb::g7::g6::M) d0) (.slice (some ⟨gb,0,none⟩) c.buf.length c.buf.length) c.buf:=U0.rd1 (k:=0) Z (by simp) Z (by omega) (fun k u hk=>by
  obtain⟨v,h1,h2⟩:=P0 k u hk;exact⟨v,h1,v,Z,RdS.moreW h2 (by omega) hN (Q0a.more hN)⟩)
 refine wC1 Z ?_;refine wL (fun μj D ε w=>D=[]∧∃j:Nat,∃y0:Option Addr,∃B0:Nat,∃z0:Nat,∃G:Option Nat,∃Y0:LV,∃v:Value,∃d:Bool,(j+μj=(b.length))∧(A0a [] d0 w)∧(∀g∈G.toList,d0.heap.size≤g)∧(RdI (G.toList++(gb::g7::g6::M)) w (.slice y0 B0 z0) (if i<j then w2a c.mem en else c.mem))∧(A1a Q0a 2 (gb::g7::g6::M) w G Y0 v ((b.take j).eraseIdx i))∧(d=decide (i<j))∧St [] w0 w [(some g7,71,[.slice y0 B0 z0,.slice Aa na ca,.slice (some ⟨gb,0,none⟩) c.buf.length c.buf.length]),(some gb,189,vs),(some g6,71,[.slice none 0 0,.slice none 0 0,.slice none 0 0]),(some g3,71,[.slice Xm xm ym,.slice Xa xa ya,.slice Xb xb yb]),(G,278,Y0)]∧Sl ε [(1,.int .i64 t),(2,.int .i64 cell),(6,.pointer (some ⟨g6,0,none⟩)),(7,.pointer (some ⟨g7,0,none⟩)),(8,v),(9,.bool d),(10,.int .i64 j)]) (μ:=(b.length)) ⟨Z,0,Am,nm,cm,none,[],.slice none 0 0,false,by omega,s0,(by simp),(by rw[if_neg (by omega)];exact hm.keep s0.of_nil),(by simpa using A1a.nil),(by simp),t0,Z⟩ ?_;rintro μj D ε w ⟨rfl,j,y0,B0,z0,G,Y0,v,d,_,hK,hG,A0,i0,hd,S,eZ⟩;refine wK eZ ?_;have KL:=hK;have KW:=A0a.refl [] w;have J1:RdS [] w 1 (V4a (gb::g7::g6::M) d0) (.slice (some ⟨gb,0,none⟩) c.buf.length c.buf.length) c.buf:=RdS.keepW j2 hK (fun _ _ h=>h);obtain⟨_,Z1,y2,_,B1,b1,_,_,p1,y1⟩:=RdS.get (J1) (t) (by omega);obtain rfl:=Option.some.inj (R0.symm.trans B1);obtain⟨_,_,_,rfl,_⟩:=V4a.open_ y1;refine wB (S.k.b p1) [.o 0,.x Z1 y2,.f 0 0] Z ⟨Z,⟨b1,by omega⟩,Z,U⟩ (fun i2=>?_) fun i2=>?_
 ·obtain⟨_,a2,z2,_,C1,c1,_,_,r1,z1⟩:=RdS.get (J1) (t) (by omega);obtain rfl:=Option.some.inj (R0.symm.trans C1);obtain⟨_,_,_,rfl,L0,_⟩:=V4a.open_ z1;obtain⟨xe,b2,A2,_,c0,d1,_,v1,s1,j0⟩:=RdS.get ((RdS.keepW L0 KL.of_nil (fun _ _ h=>h))) (j) (by omega);obtain⟨_,_,_,_,_,_,rfl,N0,_⟩:=Q0a.open_ j0;refine lO ((S.k.b s1).b r1) [.o 0,.x a2 z2,.f 0 0,.x b2 A2,.v 1] Z ⟨⟨Z,v1⟩,⟨d1,by omega⟩,Z,⟨c1,by omega⟩,Z,U⟩ (m0a S H7a Z Z ?_);intro H2 K2 W1 H1 G1;have D0:=Nat.le_trans KL.size G1;have E0:=Nat.le_trans KW.size G1;replace KL:=KL.trans H1;replace KW:=KW.trans H1;refine f0a (kk:=0) (vs:=[_,_]) W1 Q8a Z Z Z Z Z Z Z ?_;intro x0 a0 K0;dsimp only[o0a,List.set] at a0;replace KL:=KL.fresh K0 (by exact D0);replace KW:=KW.fresh K0 (by exact E0);refine lOn 4 a0.k [] Z U ?_;cases f0:d
  ·refine w0a (hv:=Z) (v:=.bool _) Z ?_;have q5:=K1.2.1 xe (c0a c0);have v2:0<xe.cells.length:=List.length_pos_iff.2 q5.some_;obtain⟨_,d2,B2,_,S0,g1,_,_,t1,A1⟩:=RdS.get ((N0.keep KL.of_nil)) (0) (by omega);obtain⟨rfl,_⟩:=id A1;refine lB (a0.k.b t1) [.o 0,.x d2 B2,.f 0 0] Z ⟨Z,⟨g1,by omega⟩,Z,U⟩ (fun a1=>?_) fun a1=>?_
   ·refine lO a0.k [.o 1,.w 0] Z ⟨⟨Z,Z⟩,Z,U⟩ ?_;have I2:¬i<j:=by rw[f0] at hd;exact of_decide_eq_false hd.symm
    have O1:j=i:=by
     rcases Nat.lt_or_ge j i with h|h
     ·refine absurd ?_ (t2 j h);rw[show b[j]=xe from(List.getElem?_eq_some_iff.1 c0).2,List.getD_eq_getElem?_getD,S0];exact decide_eq_true a1
     ·omega
    have p2:xe=en:=by subst O1;exact Option.some.inj (c0.symm.trans m0)
    have m2:∀x∈G.toList++(gb::g7::g6::M),x<x0.heap.size:=fun x hx=>by
     have:=a0.size;rcases List.mem_append.1 hx with h|h
     ·exact B7a a0 (k:=5) Z x h
     ·simp only[List.mem_cons] at h;rcases h with rfl|rfl|rfl|h
      ·exact a0.lt 2 Z
      ·exact a0.lt 1 Z
      ·exact a0.lt 3 Z
      ·have:=hM x h;omega
    have i1:RdI (gb::g7::g6::M) x0 (.slice y0 B0 z0) c.mem:=by
     rw[if_neg (by omega)] at A0;exact(RdS.less A0 (fun x hx=>List.mem_append_right _ hx)).keep KW.of_nil
    refine O2a h1c Z Z (u9b c.mem en (gb::g7::g6::M) _ _ _ i1 (p2▸Q0a.keep KL.of_nil _ _ j0) (by omega) q1.even (fun x hx=>by have:=q2 x hx;omega)) ?_;rintro C2 E1 ⟨j1,T0⟩;have I1:A0a [] x0 E1:=A0a.of_below T0;have X1:=a0.later T0;have U1:=KW.trans I1;replace KL:=KL.trans I1;have KQ:=A0a.refl [g7] E1;have p0:RdI (G.toList++(gb::g7::g6::M)) E1 C2 (w2a c.mem en):=j1.rd m2 (B3a hp M1.mem) T0 (by simp;omega);obtain⟨_,_,_,rfl⟩:=p0.form;have O0:=hG;obtain⟨vn,x2⟩:∃x,x=v:=⟨_,Z⟩;subst x2;have v0:true=decide (i<j+1):=by simp;omega
    have g0:(if i<j+1 then w2a c.mem en else c.mem)=w2a c.mem en:=if_pos (by omega);refine lO1 Z (r0a (kk:=1) X1 Q2b Z Z Z (by exact Nat.le_of_ble_eq_true Z) ?_);intro F2 W0 u0;replace KL:=KL.fresh u0 (by exact e0);replace KQ:=KQ.fresh2 u0 (by exact .inr (by simp));replace p0:=p0.keep (u0.mono (by simp));refine lP1 Z ?_;refine⟨μj-1,by omega,Z,j+1,_,_,_,_,_,(vn),_,by omega,(KL),(O0),((by rw[g0];exact p0)),?_,(v0),W0.tail,Z⟩;have hr:=i0.keep R1a (U1.of_nil.trans (KQ.mono (by simp)));rw[O1] at hr ⊢;rw[j0c m0];exact hr
   refine lOn 5 a0.k [] Z U (w0a Z ?_);refine lO a0.k [.w 0] Z ⟨⟨Z,Z⟩,U⟩ (h0a a0 F2a (vs:=[.agg _]) (cs:=[_,_]) Z Z Z Z Z Z ?_);intro f2 E2 F0 I0 T1;replace KL:=KL.trans I0;replace KW:=KW.trans I0;have x1:j≠i:=fun hh=>by
    rcases Bool.eq_false_or_eq_true d with h|h
    ·rw[h] at hd;have:=of_decide_eq_true hd.symm;omega
    ·refine a1 ?_;subst hh;have h7:=of_decide_eq_true s2;rw[←h7,show b[j]=xe from(List.getElem?_eq_some_iff.1 c0).2,List.getD_eq_getElem?_getD,S0];rfl
   have v0:d=decide (i<j+1):=by rw[hd];exact decide_eq_decide.2 (by omega)
   rw[f0] at v0;refine C0a (hll:=(by have:=List.length_eraseIdx_le (l:=b.take j) (i:=i);rw[List.length_take] at this;omega)) R1a (k:=6) (M2:=gb::g7::g6::M) (e1:=xe) F0 F2a Z (i0.keep R1a KW.of_nil) Z Z (F0.cells 0 Z) (Q0a.keep KL.of_nil _ _ (Q0a.more (fun x hx=>(List.mem_append.1 hx).elim (fun h=>.inr (hG x h)) .inl) _ _ j0)) Z ?_;intro vn r0 Z0 F1 V0 b0 J0 C0;have Y1:=KL.size;have O0:∀g∈r0.toList,d0.heap.size≤g:=fun x hx=>(C0 x hx).elim (hG x) (fun h=>by omega);have p0:RdI (r0.toList++(gb::g7::g6::M)) F1 (.slice y0 B0 z0) (if i<j then w2a c.mem en else c.mem):=by
    have h1:=A0.keep KW.of_nil;have h2:=RdS.more h1 (by omega) (M':=r0.toList++(G.toList++(gb::g7::g6::M))) (fun x hx=>(List.mem_append.1 hx).elim (fun h=>(C0 x h).imp (List.mem_append_left _) id) .inl);exact(h2.keep (J0.mono (fun x hx=>by simp[hx]))).less (fun x hx=>by simp at hx ⊢;grind)
   replace KL:=KL.freshL J0 (fun x hx=>.inl (hG x hx));have g0:(if i<j+1 then w2a c.mem en else c.mem)=if i<j then w2a c.mem en else c.mem:=by
    by_cases h:i<j
    ·rw[if_pos h,if_pos (by omega)]
    ·rw[if_neg h,if_neg (by omega)]
   refine n0a Z ?_;refine lP1 Z ?_;refine⟨μj-1,by omega,Z,j+1,_,_,_,_,_,(vn),_,by omega,(KL),(O0),((by rw[g0];exact p0)),?_,(v0),V0.tail.tail,Z⟩;rw[A3b c0 x1];exact b0
  refine w0a (hv:=Z) (v:=.bool _) Z ?_;refine lOn 13 a0.k [] Z U (w0a Z ?_);refine lO a0.k [.w 0] Z ⟨⟨Z,Z⟩,U⟩ (h0a a0 F2a (vs:=[.agg _]) (cs:=[_,_]) Z Z Z Z Z Z ?_);intro f2 E2 F0 I0 T1;replace KL:=KL.trans I0;replace KW:=KW.trans I0;have x1:j≠i:=fun hh=>by
   rcases Bool.eq_false_or_eq_true d with h|h
   ·rw[h] at hd;have:=of_decide_eq_true hd.symm;omega
   ·rw[h] at f0;exact Bool.noConfusion f0
  have v0:d=decide (i<j+1):=by rw[hd];exact decide_eq_decide.2 (by omega)
  rw[f0] at v0;refine C0a (hll:=(by have:=List.length_eraseIdx_le (l:=b.take j) (i:=i);rw[List.length_take] at this;omega)) R1a (k:=6) (M2:=gb::g7::g6::M) (e1:=xe) F0 F2a Z (i0.keep R1a KW.of_nil) Z Z (F0.cells 0 Z) (Q0a.keep KL.of_nil _ _ (Q0a.more (fun x hx=>(List.mem_append.1 hx).elim (fun h=>.inr (hG x h)) .inl) _ _ j0)) Z ?_;intro vn r0 Z0 F1 V0 b0 J0 C0;have Y1:=KL.size;have O0:∀g∈r0.toList,d0.heap.size≤g:=fun x hx=>(C0 x hx).elim (hG x) (fun h=>by omega);have p0:RdI (r0.toList++(gb::g7::g6::M)) F1 (.slice y0 B0 z0) (if i<j then w2a c.mem en else c.mem):=by
   have h1:=A0.keep KW.of_nil;have h2:=RdS.more h1 (by omega) (M':=r0.toList++(G.toList++(gb::g7::g6::M))) (fun x hx=>(List.mem_append.1 hx).elim (fun h=>(C0 x h).imp (List.mem_append_left _) id) .inl);exact(h2.keep (J0.mono (fun x hx=>by simp[hx]))).less (fun x hx=>by simp at hx ⊢;grind)
  replace KL:=KL.freshL J0 (fun x hx=>.inl (hG x hx));have g0:(if i<j+1 then w2a c.mem en else c.mem)=if i<j then w2a c.mem en else c.mem:=by
   by_cases h:i<j
   ·rw[if_pos h,if_pos (by omega)]
   ·rw[if_neg h,if_neg (by omega)]
  refine n0a Z ?_;refine lP1 Z ?_;refine⟨μj-1,by omega,Z,j+1,_,_,_,_,_,(vn),_,by omega,(KL),(O0),((by rw[g0];exact p0)),?_,(v0),V0.tail.tail,Z⟩;rw[A3b c0 x1];exact b0
 obtain⟨Al,cl,rfl⟩:=i0.form;have KZ:=A0a.refl [gb,g6] w;refine lOn 10 S.k [.o 0] Z ⟨Z,U⟩ (w0a (hv:=Z) (v:=.slice _ _ _) Z ?_);refine L0a A3a.slT Z Z Z ?_
 first|refine r0a (kk:=1) S c3b Z Z Z (by(simp;omega)) ?_
 intro Q1 n0 G0;replace KZ:=KZ.fresh2 G0 (by exact .inr (by simp));refine lO n0.k [.w 0] Z ⟨⟨Z,by rfl⟩,U⟩ ?_
 first|refine f0a (kk:=2) (vs:=[_,_,_]) n0 n2a Z Z Z Z Z Z Z ?_
 intro q0 o0 H0;dsimp only[o0a,List.set] at o0;replace KZ:=KZ.fresh2 H0 (by exact .inr (by simp));refine lR1 Z ?_;have SF:=o0.setEnt 1 Z (show _=vs.set t (.slice Al ((b.take j).eraseIdx i).length cl) by simp);have G2:=hK.size;have w2:∀x∈M,x<d0.heap.size:=fun x hx=>by have:=hM x hx;have:=U0.size;omega
 have kN:A0a (G.toList++(gb::g7::g6::M)) _ q0:=KZ.mono (fun x hx=>by simp at hx ⊢;grind);have D1:A0a (gb::g6::M) d0 q0:=hK.of_nil.trans (KZ.mono (fun x hx=>by simp at hx ⊢;grind));rw[if_pos (by omega)] at A0;have P1:(b.take j).eraseIdx i=b.eraseIdx i:=by rw[List.take_of_length_le (by omega)]
 have N1:∀x,w0.heap.size≤x∨x∈([]:List Nat)→x∉M:=fun x h hh=>by
  rcases h with h|h
  ·have:=hM x hh;omega
  ·cases h
 refine L1a (n:=3) Z V0a Z (SF.cells 2 Z) Z ⟨⟨_,Z,_,_,_,Z,(A0.keep kN).less (fun x hx=>by simp[hx]),(o1.keep D1).less (fun x hx=>by simp[hx]),?_⟩,SF.fin⟩;have Q0:=SF.rdBs (M:=M) 1 Z (N1 gb (SF.new 1 Z)) (bs:=c.buf.set t (b.eraseIdx i)) (by simp;omega) (fun k bk hk=>by
  by_cases u1:t=k
  ·subst u1;rw[List.getElem?_set_self ht] at hk;obtain rfl:=Option.some.inj hk;refine⟨_,List.getElem?_set_self (by omega),?_⟩;have h1:=A1a.rdG2 (i0.keep R1a kN) SF (k:=4) Z (fun x hx hh=>by
    subst hx;simp only[List.mem_cons] at hh;rcases hh with hh|hh|hh|hh
    ·exact SF.ne 1 4 Z Z (by decide) hh.symm
    ·exact SF.ne 0 4 Z Z (by decide) hh.symm
    ·exact SF.ne 2 4 Z Z (by decide) hh.symm
    ·exact N1 x (SF.new 4 Z) hh) (by have:=List.length_eraseIdx_le (l:=b.take j) (i:=i);rw[List.length_take] at this;omega)
   rw[P1] at h1;have u2:((b.take j).eraseIdx i).length=(b.eraseIdx i).length:=by rw[P1]
   rw[u2];exact RdS.lessW (M':=M) h1 (fun x hx=>by simp[hx]) (Q0a.less (M':=M) (fun x hx=>by simp[hx]))
  ·rw[List.getElem?_set_ne u1] at hk;obtain⟨u,h1,h2⟩:=P0 k bk hk;exact⟨u,by rw[List.getElem?_set_ne u1];exact h1,RdS.lessW (RdS.keepW h2 D1 (Q0a.keep D1)) (fun x hx=>by simp[hx]) (Q0a.less (fun x hx=>by simp[hx]))⟩)
 rw[List.length_set] at Q0;exact Q0
section
variable {p:g0a} {m:Int} {c:E0a} {t:Nat} {b:List J0a}
theorem r1c(hb:c.buf[t]?=some b){i:Nat}{en:J0a}(hx:b[i]?=some en):∃j,(b.findIdx? fun e=>decide (e.cells.getD 0 0=en.cells.getD 0 0))=some j∧doC p m c ⟨t,-1,en.cells.getD 0 0⟩=Q4a c t j:=by
 cases h:b.findIdx? fun e=>decide (e.cells.getD 0 0=en.cells.getD 0 0) with
 | none =>
   have:=List.findIdx?_eq_none_iff.1 h en (List.mem_of_getElem? hx);simp at this
 | some j =>
   refine⟨j,Z,?_⟩;unfold doC;rw[if_pos rfl];simp only[Int.toNat_natCast];rw[getD_some hb,h];rfl
theorem b8a{s:p1a}(h:¬(s.kind=3∧m≠0)):i7a p m c t s=⟨N8a s.set (r1a c t) c.mem,atC c t s,c.buf⟩:=by
 unfold i7a;rw[if_neg h]
theorem Z1d{xt a0 xc:Int}(h:(⟨xt,a0,xc⟩:d0a)∈P0a p m c)(hs:a0<0):∃(t i:Nat) (b:List J0a) (en:J0a),xt=t∧a0=-1∧xc=en.cells.getD 0 0∧c.buf[t]?=some b∧b[i]?=some en:=by
 obtain⟨t,_,⟨i,_,_,_,h1⟩|⟨i,h1,_,h3⟩⟩:=Y1a.1 h
 ·simp only[d0a.mk.injEq] at h1;omega
 ·simp only[d0a.mk.injEq] at h3;rcases hb:c.buf[t]? with _|b
  ·rw[List.getD_eq_getElem?_getD,hb] at h1;simp at h1
  ·rw[getD_some hb] at h1 h3;have hx:b[i]?=some b[i]:=List.getElem?_eq_getElem h1;rw[getD_some hx] at h3;exact⟨t,i,b,_,h3.1,h3.2.1,h3.2.2,hb,hx⟩
theorem d1d{xt a0 xc:Int}(h:(⟨xt,a0,xc⟩:d0a)∈P0a p m c)(hs:¬a0<0):∃(t i:Nat) (th:i1a) (s:p1a),xt=t∧a0=i∧xc=0∧p.threads[t]?=some th∧th.steps[i]?=some s∧doC p m c ⟨xt,a0,xc⟩=i7a p m c t s:=by
 obtain⟨t,ht,⟨i,s,h1,_,h2⟩|⟨i,h1,_,h3⟩⟩:=Y1a.1 h
 ·simp only[d0a.mk.injEq] at h2;obtain⟨rfl,rfl,rfl⟩:=h2;have b0:p.threads[t]?=some p.threads[t]:=List.getElem?_eq_getElem ht;rw[Q1a b0] at h1;exact⟨t,i,_,s,Z,Z,Z,b0,h1,s1d b0 h1⟩
 ·simp only[d0a.mk.injEq] at h3;omega
end
theorem St.blks_lt{M M':List Nat}{w0 w:World}{L:List Ent}(S:St M' w0 w L)(hM:∀g∈M,g<w0.heap.size):∀x∈z6a L++M,x<w.heap.size:=fun x hx=>by
 rcases List.mem_append.1 hx with h|h
 ·obtain⟨y,hy,hg⟩:=v2a.1 h;exact(S.own y hy x hg).2.lt
 ·exact Nat.lt_of_lt_of_le (hM x h) S.size
theorem St.blks_new{M:List Nat}{w0 w:World}{L:List Ent}(S:St [] w0 w L):∀x∈z6a L++M,x∈M∨w0.heap.size≤x:=fun x hx=>by
 rcases List.mem_append.1 hx with h|h
 ·obtain⟨y,hy,hg⟩:=v2a.1 h;exact .inr ((S.own y hy x hg).1.elim id (fun h=>by cases h))
 ·exact .inl h
theorem D6b(p:g0a)(c:E0a)(m:Int)(x:d0a)(hm:(m=0∧G5a c)∨m=1∨m=2)(M:List Nat)(w0:World)(cs xs:LV)(hI:InP p M w0 cs)(hX:B0a M w0 c xs)(hf:U5a p c):
 M0a prog 192 #[.agg cs.toArray,.int .i64 m,.agg xs.toArray,.agg #[.int .i64 x.thread,.int .i64 x.step,.int .i64 x.cell]] w0 fun v w'=>(∃ys,v=.tuple #[.agg ys.toArray,.int .i64 (N0b p m c x).2]∧B0a M w' (N0b p m c x).1 ys)∧Bw w0 w':=by
 obtain⟨Ac,nc,cc,Am,nm,cm,Al,nl,cl,At,nt,ct,rfl,hC,_,_,z4,_⟩:=hI.rd.open_;obtain⟨Xm,xm,ym,Xa,xa,ya,Xb,xb,yb,rfl,P1,_,_,_,M3,_⟩:=hX.open_;have S:=St.refl w0;have hM:=hI.lt;have hp:=hI.ok;have f1:=hf.mem.len;have f2:=hf.nat;have f3:=hf.nbuf;have n1:=hp.ncells;have n2:=hp.nthreads;obtain⟨xt,b5,xc⟩:=x;simp only;refine a0a func192 Z ntmps192 Z ?_;refine wO1 Z (i0a S Z ?_);intro g4 w4 S4 X4 G4;refine i0a S4 Z ?_;intro g6 w6 S6 X6 G6;refine i0a S6 Z ?_;intro g7 w7 S7 X7 G7;refine m0a S7 t4a Z Z ?_;intro g8 w8 S8 X8 G8;refine lO S8.k [.w 3,.w 2] Z ⟨⟨Z,Z⟩,⟨Z,Z⟩,U⟩ (y0a S8 P2c Z Z (G6b p c m hm M _ _ _ (hI.keep (S8.keep0 M)) (hX.keep (S8.keep0 M)) hf) ?_);intro u5 B3 e5;refine lC1 Z (x0a b0a [0,1,2,4] [3] [5,6] Z (Cl _ _ _ _) (Cl.start B3) ?_);refine qN B3.q [.w 3,.w 2,.w 1] Z ⟨⟨Z,by rfl⟩,⟨Z,Z⟩,⟨Z,Z⟩,U⟩ (u3a ?_);refine M4b (fun v w=>z4a [] w v (P0a p m c)) Z Z o8c Z (fun v w w' h hk=>h.keep hk.of_nil) (fun w1 S1 X1=>y1b p c m hm M [] _ _ _ (hI.keep (S1.keep0 M)) (hX.keep (S1.keep0 M)) hf (by simp)) ?_;refine J1a ?_;rintro w5 ⟨e4,_⟩;rintro n5 hr;dsimp only[X3a];obtain⟨_,_,_,rfl⟩:=hr.form;refine k0a e4 a7c Z Z (H4c (P0a p m c) ⟨xt,b5,xc⟩ [] _ _ hr) (fun O2 T4 A0 F3=>?_) (fun O2 T4 A0 F3=>?_)
 ·replace hr:=hr.keep (F3.of_nil);have d1:=of_decide_eq_true O2;refine lB A0.k [.o 1] Z ⟨Z,U⟩ (fun v4=>?_) fun v4=>?_
  ·obtain⟨t,i,b,_,rfl,rfl,rfl,K0,r3⟩:=Z1d d1 (by omega);obtain⟨j,hj,m1⟩:=r1c (p:=p) (m:=m) K0 r3;refine lO A0.k [.w 2,.o 1,.o 1] Z ⟨Z,Z,⟨Z,Z⟩,U⟩ (s0a A0 s7c Z Z (d8b p hp c t j _ b (g8::g7::M) _ (q3b A0 (i:=0) (j:=1) Z Z hM) _ ((hX.more (L8a A0 (i:=0) (j:=1) Z Z)).keep (A0.keep0 _)) hf K0 hj) ?_);rintro o5 v5 ⟨ys,rfl,hy⟩ d4 f5;obtain⟨_,_,_,_,_,_,_,_,_,rfl,-⟩:=hy.open_
   first|refine f0a (kk:=0) (vs:=[_,_,_]) d4 n2a Z Z Z Z Z Z Z ?_
   intro V4 Z0 D2;dsimp only[o0a,List.set] at Z0;replace hy:=hy.keep (D2.mono (by simp));refine lR1 Z ?_;rw[J3a d1,m1];exact x2a (n:=3) Z V0a Z (Z0.cells 0 Z) Z Z ⟨⟨_,Z,hy.less (fun g hg=>by simp[hg])⟩,Z0.fin⟩
  obtain⟨t,i,_,s,rfl,rfl,rfl,i1,s3,m1⟩:=d1d d1 (by omega);have ht:=m1a i1;have hi:=m1a s3;have u0:=Y5b hp hf d1;rw[m1] at u0;have E0:=(hp.thread i1).steps s (c0a s3);have j5:=K0c E0;have B4:6≤s.kind→0≤s.target∧s.target<p.threads.length:=fun h=>(E0.row.k6 h).1;have I0:=E6a c t s;obtain⟨b,K0⟩:∃b,c.buf[t]?=some b:=⟨c.buf[t]'(by omega),List.getElem?_eq_getElem _⟩;have h5:=hf.bufs t b K0;refine lC1 Z (x0a b0a [0,1,2,3,4,5,6,7,8,9,10] [11] [12] Z (Cl _ _ _ _) (Cl.start A0) ?_);obtain⟨_,m4,E4,_,o3,S2,_,_,X2,e3⟩:=RdS.get (z4) (t) (by omega);obtain rfl:=Option.some.inj (i1.symm.trans o3);obtain⟨_,_,_,_,_,_,_,_,_,_,_,_,rfl,_,_,_,R1,_⟩:=S0a.open_ e3;obtain⟨_,n4,F4,_,p3,T2,_,b3,Y2,g3⟩:=RdS.get (R1) (i) (by omega);obtain rfl:=Option.some.inj (s3.symm.trans p3);obtain⟨o1,i2,I1,p1,j2,K1,rfl,⟨_,_⟩,_,p0,_⟩:=D1a.open_ g3;refine qN ((A0.q.a Y2).a X2) [.o 3,.o 1,.x m4 E4,.f 0 4,.o 1,.x n4 F4,.v 1] Z ⟨⟨Z,b3⟩,⟨T2,by omega⟩,Z,Z,⟨S2,by omega⟩,Z,Z,U⟩ (u3a ?_);refine C4a Z Z X9a Z ?_;refine J1a ?_;rintro x5 ⟨C2,_⟩;intro t0 a3 U3 u3;dsimp only[X3a];clear u3;replace C2:=C2.push_new A0 a3 U3;refine f0a (kk:=0) (vs:=[_,_,_,_,_,_,_,_,_,_,_]) C2 Y9a Z Z Z Z Z Z Z ?_;intro W0 e0 G3;dsimp only[o0a,List.set] at e0;refine lO e0.k [.w 3] Z ⟨⟨Z,Z⟩,U⟩ ?_;have Z3:∀x∈(t0::g8::g7::g6::g4::M),x<W0.heap.size:=e0.blks_lt hM;have W2:B0a (t0::g8::g7::g6::g4::M) W0 c _:=(hX.more e0.blks_new).keep (e0.keep0 _);refine O2a E3c Z Z (B6b p hp c (t0::g8::g7::g6::g4::M) _ Z3 _ W2 hf) ?_;rintro p5 s2 ⟨⟨Gm,_,H3,_,_,_,gb,d0,vs,rfl,Rm,Ra,A2,hR⟩,-⟩;have C3:=e0.joinR A2;obtain⟨ga,g0,rfl,rfl,rfl,g1⟩:=Ra.pad (by omega);obtain⟨Bm,J2,dm,rfl⟩:=Rm.form;have KM:=A0a.refl (g8::ga::Gm.toList) s2;have Q1:∀g∈(Gm.toList++((some ga).toList++(gb::t0::g8::g7::g6::g4::M)))++z6a d0,g<s2.heap.size:=by
   intro g hg;have z:=C3.blks_lt hM g;simp only[z6a,List.mem_append,List.mem_cons,List.filterMap_append,List.filterMap_cons] at hg z;refine z ?_;cases Gm<;>simp at hg ⊢<;>grind
  refine m0a C3 t4a Z Z ?_;intro j1 r5 a4 f4 V3;have x0:=Nat.le_trans KM.size V3;replace KM:=KM.trans (f4.of_nil)
  first|refine f0a (kk:=0) (vs:=[_,_,_]) a4 n2a Z Z Z Z Z Z Z ?_
  intro Y4 a1 F2;dsimp only[o0a,List.set] at a1;replace KM:=KM.fresh2 F2 (by exact .inl x0);refine lO a1.k [.o 0,.o 6,.o 4] Z ⟨Z,Z,Z,U⟩ (L0a X0a.slT Z Z Z ?_)
  first|refine r0a (kk:=2) a1 h8a Z Z Z (by(simp;omega)) ?_
  intro Z4 B0 G2;replace KM:=KM.fresh2 G2 (by exact .inr (by simp));refine lCn 2 B0.k [] Z U (wX (fun D ε w=>D=[]∧(A0a (g8::ga::Gm.toList) s2 w)∧St [] w0 w ( [(some j1,71,[.slice Bm J2 dm,.slice (some ⟨ga,0,none⟩) c.at_.length (c.at_.length+g0.length),.slice (some ⟨gb,0,none⟩) c.buf.length c.buf.length]),(some gb,189,vs),(some ga,3,(atC c t s).map (Value.int .i64)++g0),(Gm,3,H3),(some t0,61,[.int .i64 s.kind,.int .i64 s.frm,.int .i64 s.to,.int .i64 s.guard.op,.int .i64 s.guard.w,.int .i64 s.guard.n,.slice o1 i2 I1,.slice p1 j2 K1,.bool s.release,.int .i64 s.target,.int .i64 s.module_]),(some g8,71,[.slice none 0 0,.slice none 0 0,.slice none 0 0]),(some g7,75,[.int .i64 t,.int .i64 i,.int .i64 0]),(some g6,71,[.slice Xm xm ym,.slice Xa xa ya,.slice Xb xb yb]),(some g4,27,pL Ac nc cc Am nm cm Al nl cl At nt ct)]++d0)∧Sl ε [(1,.int .i64 m),(4,.pointer (some ⟨g4,0,none⟩)),(6,.pointer (some ⟨g6,0,none⟩)),(7,.pointer (some ⟨g7,0,none⟩)),(8,.pointer (some ⟨g8,0,none⟩)),(10,.pointer (some ⟨t0,0,none⟩)),(11,.pointer (some ⟨j1,0,none⟩))]) ?_ ?_)
  ·refine wB B0.k [.o 4] Z ⟨Z,U⟩ (fun P2=>?_) fun P2=>?_
   ·have q6:=B4 (by omega);refine lO B0.k [.o 0,.o 4] Z ⟨Z,Z,U⟩ (L0a X0a.slT Z Z Z ?_)
    first|refine r0a (kk:=2) B0 h8a Z Z Z (by(simp;omega)) ?_
    intro O3 u1 D1;replace KM:=KM.fresh2 D1 (by exact .inr (by simp));refine lP0 Z U ?_;have SF:=u1.setEnt 2 Z (show _=(atC c t s).map (Value.int .i64)++g0 by exact y7b P2);exact⟨Z,KM,SF,Z⟩
   refine lP0 Z U ?_;have SF:=B0.setEnt 2 Z (show _=(atC c t s).map (Value.int .i64)++g0 by exact F3c P2);exact⟨Z,KM,SF,Z⟩
  rintro D ε w ⟨rfl,KM,S,eZ⟩;refine wK eZ (wCn 1 S.k [] Z U ?_);have H2:=KM.size;have y4:∀g∈Gm.toList++M,g<w.heap.size:=fun g hg=>by
   rcases List.mem_append.1 hg with h|h
   ·exact B7a S (k:=3) Z g h
   ·have:=hM g h;have:=S.size;omega
  have A4:B0a (Gm.toList++M) w c _:=(hX.more (fun g hg=>(List.mem_append.1 hg).elim (fun h=>.inr (v1c S 3 Z g h)) .inl)).keep (S.keep0 _);refine wO S.k [.w 7,.o 6] Z ⟨Z,⟨Z,Z⟩,U⟩ (s0a S F2c Z Z (f6b p c t b (Gm.toList++M) _ _ hp y4 A4 hf K0) ?_);rintro q5 y3 hV r0 i4;replace KM:=KM.trans (i4.of_nil);obtain⟨Av,nv,cv,rfl⟩:=hV.form;have KV:=A0a.refl Gm.toList y3;have H2:=KM.size;refine lB r0.k [.o 4] Z ⟨Z,U⟩ (fun Q2=>?_) fun Q2=>?_
  ·refine lO r0.k [.o 7,.o 4] Z ⟨Z,Z,U⟩ ?_;have T1:∀a∈s.set,(0≤a.cell∧a.cell<c.mem.length)∧i64 (a.to.evl (r1a c t) (r1a c t)):=fun a ha=>by
    have q1:=(E0.set a ha).1;unfold M1a at q1;have q2:=x5a (E0.set a ha).2.1 (r1a c t) (r1a c t);rw[(E0.set a ha).2.2] at q2;have N3:=v0b hp a.cell;exact⟨by omega,by unfold i64;omega⟩
   have V1:¬(s.kind=3∧m≠0):=fun z=>by exact Q2 z.1
   rw[b8a V1] at u0;refine s0a r0 R1c Z Z (S3b (M:=j1::g8::M) (j3b c.mem (r1a c t) s.set M _ _ _ _ (P1.keep (r0.keep0 M)) ((hV.keep (KV.mono (fun g hg=>List.mem_append_left _ hg))).less (fun g hg=>List.mem_append_right _ hg)) (RdS.keepW p0 (r0.keep0 M) (b1a.keep (r0.keep0 M))) (fun a ha=>(T1 a ha).1) (fun a ha=>(T1 a ha).2)) (q3b r0 (i:=0) (j:=5) Z Z hM) (B3a hp u0.mem) (by simp;omega)) ?_;rintro L4 W4 hW B2 E2;replace KM:=KM.trans (E2.of_nil);obtain⟨Aw,nw,cw,rfl⟩:=hW.form;refine lO1 Z ?_
   first|refine r0a (kk:=0) B2 Q2b Z Z Z (by exact Nat.le_of_ble_eq_true Z) ?_
   intro m2 j0 m0;replace KM:=KM.fresh2 m0 (by exact .inl x0);replace hW:=hW.keep (m0.mono (by simp));refine lO j0.k [.w 0] Z ⟨⟨Z,by rfl⟩,U⟩ ?_
   first|refine f0a (kk:=5) (vs:=[_,_,_]) j0 n2a Z Z Z Z Z Z Z ?_
   intro F0 a0 n0;dsimp only[o0a,List.set] at a0;replace KM:=KM.fresh2 n0 (by exact .inr (by simp));replace hW:=hW.keep (n0.mono (by simp));refine lR1 Z ?_;rw[J3a d1,m1,b8a V1];have H0:=hR.keep (w':=F0) (KM.mono (fun g hg=>by simp at hg ⊢;rcases hg with h|h|h<;>simp[h]));refine x2a (n:=3) Z V0a Z (a0.cells 5 Z) Z Z ⟨⟨_,Z,_,_,_,Z,hW.less (fun g hg=>by simp[hg]),?_,?_⟩,a0.fin⟩
   ·have:=(E3a.ofPad (g:=ga) (l:=atC c t s) (pad:=g0) (by rw[I0];exact g1)).rdI a0 (k:=2) Z hM (b7a hp u0) (by rw[I0];omega);rw[I0] at this;exact this
   ·have hA:=a0.apartM (A:=[_,_,_,_,_,_,_,_,_]) hM;have:=a0.rdBs (M:=M) 1 Z (Y0a hM (a0.new 1 Z)) (bs:=c.buf) (by omega) (H0.rd (A:=[_,_,_,_,_,_,_,_,_]) a0 (Mx:=M) (fun g hg=>by simp[hg]) hA (fun x hx=>by
     obtain⟨q,hq,rfl⟩:=List.getElem_of_mem hx;have:=(u0.bufs q _ (List.getElem?_eq_getElem hq)).1;omega))
    exact this
  refine lB1 Z (fun R2=>?_) fun R2=>?_
  ·refine lO r0.k [.o 7,.o 4] Z ⟨Z,Z,U⟩ ?_;have T1:∀a∈s.set,(0≤a.cell∧a.cell<c.mem.length)∧i64 (a.to.evl (r1a c t) (r1a c t)):=fun a ha=>by
    have q1:=(E0.set a ha).1;unfold M1a at q1;have q2:=x5a (E0.set a ha).2.1 (r1a c t) (r1a c t);rw[(E0.set a ha).2.2] at q2;have N3:=v0b hp a.cell;exact⟨by omega,by unfold i64;omega⟩
   have V1:¬(s.kind=3∧m≠0):=fun z=>by exact z.2 R2
   rw[b8a V1] at u0;refine s0a r0 R1c Z Z (S3b (M:=j1::g8::M) (j3b c.mem (r1a c t) s.set M _ _ _ _ (P1.keep (r0.keep0 M)) ((hV.keep (KV.mono (fun g hg=>List.mem_append_left _ hg))).less (fun g hg=>List.mem_append_right _ hg)) (RdS.keepW p0 (r0.keep0 M) (b1a.keep (r0.keep0 M))) (fun a ha=>(T1 a ha).1) (fun a ha=>(T1 a ha).2)) (q3b r0 (i:=0) (j:=5) Z Z hM) (B3a hp u0.mem) (by simp;omega)) ?_;rintro L4 W4 hW B2 E2;replace KM:=KM.trans (E2.of_nil);obtain⟨Aw,nw,cw,rfl⟩:=hW.form;refine lO1 Z ?_
   first|refine r0a (kk:=0) B2 Q2b Z Z Z (by exact Nat.le_of_ble_eq_true Z) ?_
   intro m2 j0 m0;replace KM:=KM.fresh2 m0 (by exact .inl x0);replace hW:=hW.keep (m0.mono (by simp));refine lO j0.k [.w 0] Z ⟨⟨Z,by rfl⟩,U⟩ ?_
   first|refine f0a (kk:=5) (vs:=[_,_,_]) j0 n2a Z Z Z Z Z Z Z ?_
   intro F0 a0 n0;dsimp only[o0a,List.set] at a0;replace KM:=KM.fresh2 n0 (by exact .inr (by simp));replace hW:=hW.keep (n0.mono (by simp));refine lR1 Z ?_;rw[J3a d1,m1,b8a V1];have H0:=hR.keep (w':=F0) (KM.mono (fun g hg=>by simp at hg ⊢;rcases hg with h|h|h<;>simp[h]));refine x2a (n:=3) Z V0a Z (a0.cells 5 Z) Z Z ⟨⟨_,Z,_,_,_,Z,hW.less (fun g hg=>by simp[hg]),?_,?_⟩,a0.fin⟩
   ·have:=(E3a.ofPad (g:=ga) (l:=atC c t s) (pad:=g0) (by rw[I0];exact g1)).rdI a0 (k:=2) Z hM (b7a hp u0) (by rw[I0];omega);rw[I0] at this;exact this
   ·have hA:=a0.apartM (A:=[_,_,_,_,_,_,_,_,_]) hM;have:=a0.rdBs (M:=M) 1 Z (Y0a hM (a0.new 1 Z)) (bs:=c.buf) (by omega) (H0.rd (A:=[_,_,_,_,_,_,_,_,_]) a0 (Mx:=M) (fun g hg=>by simp[hg]) hA (fun x hx=>by
     obtain⟨q,hq,rfl⟩:=List.getElem_of_mem hx;have:=(u0.bufs q _ (List.getElem?_eq_getElem hq)).1;omega))
    exact this
  have h3:s.kind=3:=Q2;have K3:¬m=0:=R2;refine lO1 Z (m0a r0 H7a Z Z ?_);intro I3 s5 b4 D3 z3;have L0:=Nat.le_trans KM.size z3;have N0:=Nat.le_trans KV.size z3;replace KM:=KM.trans (D3.of_nil);replace KV:=KV.trans (D3.of_nil);refine lC1 Z ?_;refine wL (fun μk D ε w=>D=[]∧∃k:Nat,∃Gc:Option Nat,∃L2:LV,∃vc:Value,∃Gv:Option Nat,∃N2:LV,∃vv:Value,∃c1:LV,(k+μk=(s.set.length))∧(A1a T4c 1 [] w0 Gc L2 vc ((T2b p s k).map U1a.cell))∧(A1a T4c 1 [] w0 Gv N2 vv ((T2b p s k).map fun a=>a.to.evl (r1a c t) (r1a c t)))∧(∀g∈Gc.toList++Gv.toList,y3.heap.size≤g)∧(E3a Gm 1 c.mem.length c1 (.slice Bm J2 dm) ((N8a (F0b p s k) (r1a c t) c.mem).map (Value.int .i64)))∧(A0a (g8::ga::Gm.toList) s2 w)∧(A0a Gm.toList y3 w)∧St [] w0 w ([(Gc,3,L2),(Gv,3,N2),(some I3,278,[vc,vv]),(some j1,71,[.slice Bm J2 dm,.slice (some ⟨ga,0,none⟩) c.at_.length (c.at_.length+g0.length),.slice (some ⟨gb,0,none⟩) c.buf.length c.buf.length]),(some gb,189,vs),(some ga,3,(atC c t s).map (Value.int .i64)++g0),(Gm,3,c1),(some t0,61,[.int .i64 s.kind,.int .i64 s.frm,.int .i64 s.to,.int .i64 s.guard.op,.int .i64 s.guard.w,.int .i64 s.guard.n,.slice o1 i2 I1,.slice p1 j2 K1,.bool s.release,.int .i64 s.target,.int .i64 s.module_]),(some g8,71,[.slice none 0 0,.slice none 0 0,.slice none 0 0]),(some g7,75,[.int .i64 t,.int .i64 i,.int .i64 0]),(some g6,71,[.slice Xm xm ym,.slice Xa xa ya,.slice Xb xb yb]),(some g4,27,pL Ac nc cc Am nm cm Al nl cl At nt ct)]++d0)∧Sl ε [(4,.pointer (some ⟨g4,0,none⟩)),(7,.pointer (some ⟨g7,0,none⟩)),(8,.pointer (some ⟨g8,0,none⟩)),(10,.pointer (some ⟨t0,0,none⟩)),(11,.pointer (some ⟨j1,0,none⟩)),(12,.slice Av nv cv),(13,.pointer (some ⟨I3,0,none⟩)),(14,.int .i64 k)]) (μ:=(s.set.length)) ⟨Z,0,none,[],.slice none 0 0,none,[],.slice none 0 0,H3,by omega,by rw[p9a];exact A1a.nil,by rw[p9a];exact A1a.nil,by simp,by rw[u6b];exact Rm,KM,KV,((b4.nilEnt 3).nilEnt 3),Z⟩ ?_;rintro μk D ε w ⟨rfl,k,Gc,L2,vc,Gv,N2,vv,c1,hk,o2,r2,J0,j3,KM,KV,S,eZ⟩;refine wK eZ (wO1 Z ?_);refine v0a I6b Z (by exact S.cell 7 Z Z) Z ?_;refine lB1 Z (fun x4=>?_) fun x4=>?_
  ·refine lO1 Z (v0a I6b Z (by exact S.cell 7 Z Z) Z ?_);obtain⟨a,o4,H4,_,M3,U2,_,d3,Z2,i3⟩:=RdS.get (p0) (k) (by omega);obtain⟨_,_,_,rfl,t3,V2⟩:=b1a.open_ i3;have f0:=M3;have q1:=(E0.set a (c0a f0)).1;unfold M1a at q1;have q2:=x5a (E0.set a (c0a f0)).2.1 (r1a c t) (r1a c t);rw[(E0.set a (c0a f0)).2.2] at q2;have N3:=v0b hp a.cell;have q3:i64 (a.to.evl (r1a c t) (r1a c t)):=by unfold i64;omega
   refine lO (S.k.a Z2) [.x o4 H4,.v 0] Z ⟨⟨Z,d3⟩,⟨U2,by omega⟩,U⟩ (m0a S K2b Z Z ?_);intro g5 t5 c4 E3 A3;have r1:=Nat.le_trans KM.size A3;have s1:=Nat.le_trans KV.size A3;replace KM:=KM.trans (E3.of_nil);replace KV:=KV.trans (E3.of_nil)
   first|refine f0a (kk:=0) (vs:=[_,_,_,_,_]) c4 R2b Z Z Z Z Z Z Z ?_
   intro P3 q0 Q0;dsimp only[o0a,List.set] at q0;replace KM:=KM.fresh2 Q0 (by exact .inl r1);replace KV:=KV.fresh2 Q0 (by exact .inl s1);refine lO q0.k [.o 0] Z ⟨Z,U⟩ (y0a q0 u7b Z Z (K1b a.to M _ _ _ _ (r1a c t) (r1a c t) (RdE.keep (q0.keep0 M) _ _ V2) ((hV.keep (KV.mono (fun g hg=>List.mem_append_left _ hg))).less (fun g hg=>List.mem_append_right _ hg)) ((hV.keep (KV.mono (fun g hg=>List.mem_append_left _ hg))).less (fun g hg=>List.mem_append_right _ hg))) ?_);intro M4 i0 A1;replace KM:=KM.trans (A1.of_nil);replace KV:=KV.trans (A1.of_nil);refine lO1 Z (v0a t0b Z (by exact i0.cell 12 Z Z) Z ?_);obtain⟨_,I2,v3,_,g2,M1,_,_,U1,W1⟩:=RdS.get (hC) (a.cell.toNat) (by omega);obtain⟨rfl,_⟩:=U2a.open_ W1;have v0:=j1a g2;refine lB (i0.k.a U1) [.o 0,.x I2 v3,.f 0 3] Z ⟨Z,⟨M1,by omega⟩,Z,U⟩ (fun o0=>?_) fun o0=>?_
   ·refine lO1 Z (v0a z3a Z (by exact i0.cell 3 Z Z) Z ?_);refine lO i0.k [.o 0] Z ⟨Z,U⟩ (h0a i0 X0a (vs:=[.int .i64 _]) (cs:=[_]) Z Z Z Z Z Z ?_);intro s4 N4 t1 B1 W3;replace KM:=KM.trans (B1.of_nil);replace KV:=KV.trans (B1.of_nil);refine C0a (hll:=(by have:=N5a (p:=p) (s:=s) (k:=k);simp;omega)) C3a (k:=2) (M2:=[]) (e1:=a.cell) t1 X0a Z o2 Z Z (t1.cells 0 Z) ⟨Z,t3⟩ Z ?_;intro I4 c5 q4 O4 x2 Y1 C1 t2;have j4:=KV.size;obtain⟨_,_,rfl⟩:=Y1.form;replace KM:=KM.freshL C1 (fun g hg=>.inl (Nat.le_trans H2 (J0 g (List.mem_append_left _ hg))));replace KV:=KV.freshL C1 (fun g hg=>.inl (J0 g (List.mem_append_left _ hg)));refine lO1 Z ?_
    first|refine r0a (kk:=4) x2 Q2b Z Z Z (by exact Nat.le_of_ble_eq_true Z) ?_
    intro Q3 O0 R0;replace KM:=KM.fresh2 R0 (by exact .inl L0);replace KV:=KV.fresh2 R0 (by exact .inl N0);refine lO1 Z (v0a z3a Z (by exact O0.cell 4 Z Z) Z ?_);refine lO1 Z (h0a O0 X0a (vs:=[.int .i64 _]) (cs:=[_]) Z Z Z Z Z Z ?_);intro t4 P4 v1 E1 X3;replace KM:=KM.trans (E1.of_nil);replace KV:=KV.trans (E1.of_nil);refine C0a (hll:=(by have:=N5a (p:=p) (s:=s) (k:=k);simp;omega)) C3a (k:=4) (M2:=[]) (e1:=a.to.evl (r1a c t) (r1a c t)) v1 X0a Z r2 Z Z (v1.cells 0 Z) ⟨Z,q3⟩ Z ?_;intro J4 d5 r4 Q4 y2 b2 F1 u2;have k4:=KV.size;obtain⟨_,_,rfl⟩:=b2.form;replace KM:=KM.freshL F1 (fun g hg=>.inl (Nat.le_trans H2 (J0 g (List.mem_append_right _ hg))));replace KV:=KV.freshL F1 (fun g hg=>.inl (J0 g (List.mem_append_right _ hg)));refine lO1 Z ?_
    first|refine r0a (kk:=5) y2 Q2b Z Z Z (by exact Nat.le_of_ble_eq_true Z) ?_
    intro R3 y1 S0;replace KM:=KM.fresh2 S0 (by exact .inl L0);replace KV:=KV.fresh2 S0 (by exact .inl N0);refine lP1 Z ⟨μk-1,by omega,Z,k+1,_,_,_,_,_,_,_,by omega,?_,?_,?_,?_,(KM),(KV),y1.tail.tail.tail,Z⟩
    ·rw[(S7a h3 f0 (v0.trans o0)).1,List.map_append];exact Y1
    ·rw[(S7a h3 f0 (v0.trans o0)).1,List.map_append];exact b2
    ·intro g hg;rcases List.mem_append.1 hg with hg|hg
     ·rcases t2 g hg with h|h
      ·exact J0 g (List.mem_append_left _ h)
      ·omega
     ·rcases u2 g hg with h|h
      ·exact J0 g (List.mem_append_right _ h)
      ·omega
    ·rw[(S7a h3 f0 (v0.trans o0)).2];exact j3
   obtain⟨gm,pad,rfl,D4,rfl,C4⟩:=j3.pad (by simp;omega);have i5:(N8a (F0b p s k) (r1a c t) c.mem).length=c.mem.length:=by simp
   cases D4;refine lO1 Z (v0a z3a Z (by exact i0.cell 4 Z Z) Z ?_);refine lO i0.k [.o 0] Z ⟨Z,U⟩ (L0a X0a.slT Z Z Z ?_)
   first|refine r0a (kk:=7) i0 h8a Z Z Z (by(simp;omega)) ?_
   intro S3 z1 T0;replace KM:=KM.fresh2 T0 (by exact .inr (by simp));replace KV:=KV.fresh2 T0 (by exact .inr (by simp));refine lP1 Z ⟨μk-1,by omega,Z,k+1,_,_,_,_,_,_,_,by omega,?_,?_,?_,?_,(KM),(KV),z1.tail,Z⟩
   ·rw[(U6a f0 (fun _=>by rw[v0];exact o0)).1];exact o2
   ·rw[(U6a f0 (fun _=>by rw[v0];exact o0)).1];exact r2
   ·exact J0
   ·have e2:F0b p s (k+1)=F0b p s k++[a]:=(U6a f0 (fun _=>by rw[v0];exact o0)).2;rw[e2,u7a];have:=E3a.ofPad (g:=gm) (l:=(N8a (F0b p s k) (r1a c t) c.mem).set a.cell.toNat (a.to.evl (r1a c t) (r1a c t))) (pad:=pad) (by simpa using C4);rw[←L6a (by omega)] at this;simpa using this
  have V0:=hR.keep (w':=w) (KM.mono (fun g hg=>by simp at hg ⊢;rcases hg with h|h|h<;>simp[h]));obtain⟨G,p4,v,p2,L3,m3⟩:=V0.2.2 t b K0;obtain⟨_,_,rfl⟩:=m3.form;obtain⟨_,_,rfl⟩:=o2.form;obtain⟨_,_,rfl⟩:=r2.form;have m5:vs.length=c.buf.length:=V0.2.1;have J3:∀g∈G.toList,g∈(Gm.toList++((some ga).toList++(gb::t0::g8::g7::g6::g4::M)))++z6a d0:=fun g hg=>List.mem_append_right _ (v2a.2 ⟨_,List.mem_of_getElem? p2,by cases G<;>simp at hg ⊢;exact hg.symm⟩);have N1:RdI ((Gm.toList++((some ga).toList++(gb::t0::g8::g7::g6::g4::M)))++z6a d0) w _ _:=A1a.rd (M:=(Gm.toList++((some ga).toList++(gb::t0::g8::g7::g6::g4::M)))++z6a d0) (w:=w) C3a o2 S (k:=0) Z (fun g hg hm=>by have:=J0 g (by rw[hg];simp);have:=Q1 g hm;omega) (by have:=N5a (p:=p) (s:=s) (k:=k);simp;omega);have O1:RdI ((Gm.toList++((some ga).toList++(gb::t0::g8::g7::g6::g4::M)))++z6a d0) w _ _:=A1a.rd (M:=(Gm.toList++((some ga).toList++(gb::t0::g8::g7::g6::g4::M)))++z6a d0) (w:=w) C3a r2 S (k:=1) Z (fun g hg hm=>by have:=J0 g (by rw[hg];simp);have:=Q1 g hm;omega) (by have:=N5a (p:=p) (s:=s) (k:=k);simp;omega);refine lC1 Z (i3b b0a (fun i=>[0,1,2,3,4,5,6,7,8,9,10,13].contains i) [0,1,2,3,4,5,6,7,8,9,10,11,12,13] 14 (clF (A:=[_,_,_,_,_,_,_,_,_,_,_,_]) (R:=d0) S G.toList) _ Z ?_);have b0:=S.drew;have D0:A0a [] w w.drew:=p2a _ _;generalize w.drew=a5 at b0 D0 ⊢;have c0:A0a (G.toList) _ _:=D0.of_nil;replace V0:=V0.keep D0.of_nil;replace N1:=N1.keep D0.of_nil;replace O1:=O1.keep D0.of_nil;refine t1a ⟨(St.front (A:=[_,_,_,_,_,_,_,_,_,_,_,_]) b0),c0⟩ Z Z Z ?_;refine H0a d4a Z Z ?_;refine e0a ?_;refine t1a ⟨(St.front (A:=[_,_,_,_,_,_,_,_,_,_,_,_]) b0),c0⟩ Z Z Z ?_;refine p0a m4a Z (fun w1 hw=>by exact hw.1.cell 3 Z Z) Z ?_;refine e0a ?_;refine t1a ⟨(St.front (A:=[_,_,_,_,_,_,_,_,_,_,_,_]) b0),c0⟩ Z Z Z ?_;refine H0a S6a Z Z ?_;refine e0a ?_;refine t1a ⟨(St.front (A:=[_,_,_,_,_,_,_,_,_,_,_,_]) b0),c0⟩ Z Z Z ?_;refine p0a K0a Z (fun w1 hw=>by exact hw.1.cell 9 Z Z) Z ?_;refine e0a ?_;refine t1a ⟨(St.front (A:=[_,_,_,_,_,_,_,_,_,_,_,_]) b0),c0⟩ Z Z Z ?_;refine H0a d4a Z Z ?_;refine e0a ?_;refine t1a ⟨(St.front (A:=[_,_,_,_,_,_,_,_,_,_,_,_]) b0),c0⟩ Z Z Z ?_;refine p0a m4a Z (fun w1 hw=>by exact hw.1.cell 3 Z Z) Z ?_;refine e0a ?_;refine t1a ⟨(St.front (A:=[_,_,_,_,_,_,_,_,_,_,_,_]) b0),c0⟩ Z Z Z ?_;refine H0a S6a Z Z ?_;refine e0a ?_;refine t1a ⟨(St.front (A:=[_,_,_,_,_,_,_,_,_,_,_,_]) b0),c0⟩ Z Z Z ?_;refine p0a K0a Z (fun w1 hw=>by exact hw.1.cell 9 Z Z) Z ?_;refine e0a ?_;refine t1a ⟨(St.front (A:=[_,_,_,_,_,_,_,_,_,_,_,_]) b0),c0⟩ Z Z Z ?_;refine q0a A3a.slT Z (by rfl) Z Z ?_;refine e0a ?_;refine t1a ⟨(St.front (A:=[_,_,_,_,_,_,_,_,_,_,_,_]) b0),c0⟩ Z Z Z ?_;refine p0a M7a Z (fun w1 hw=>by exact hw.1.cell 4 Z ((congrArg (vs[·]?) (show 0+(t:Int).toNat*1=t by simp)).trans L3)) Z ?_;refine e0a ?_;refine t1a ⟨(St.front (A:=[_,_,_,_,_,_,_,_,_,_,_,_]) b0),c0⟩ Z Z Z ?_;refine w1a g1b Z (fun w1 hw=>hw.1.cells 2 Z) Z Z ?_;refine e0a ?_;refine j8a ⟨(St.front (A:=[_,_,_,_,_,_,_,_,_,_,_,_]) b0),c0⟩ Z Z Z Z ?_;refine h0a b0 F2a (vs:=[.agg _]) (cs:=[_,_]) Z Z Z Z Z Z ?_;intro u4 R4 X0 G0 Y3;have C0:=c0.trans (G0.mono (by simp));replace V0:=V0.keep (G0.of_nil);replace N1:=N1.keep (G0.of_nil);replace O1:=O1.keep (G0.of_nil);refine D0a ⟨Z,?_⟩;refine j8a ⟨(St.front (A:=[_,_,_,_,_,_,_,_,_,_,_,_,_]) X0).tail,C0⟩ Z Z Z Z ?_;obtain⟨G',K2,_,Z1,n3,a2⟩:=V0.2.2 t b K0;obtain⟨rfl,rfl⟩:G=G'∧p4=K2:=by rw[p2] at Z1;cases Z1;exact⟨Z,Z⟩
  obtain rfl:=Option.some.inj (L3.symm.trans n3);refine C0a R1a (k:=13+t) (e1:=⟨(T2b p s k).map U1a.cell,(T2b p s k).map fun a=>a.to.evl (r1a c t) (r1a c t)⟩) X0 F2a ((N6c [_,_,_,_,_,_,_,_,_,_,_,_,_] d0 t 13 Z).trans p2) a2 Z Z (X0.cells 0 Z) ⟨_,_,Z,N1.more (by omega) (fun g hg=>.inl (by rcases List.mem_append.1 hg with h|h;exact J3 g h;exact h)),O1.more (by omega) (fun g hg=>.inl (by rcases List.mem_append.1 hg with h|h;exact J3 g h;exact h))⟩ Z ?_;intro K4 w2 J1 w3 x1 s0 G1 v2;have z2:St [] w0 w3 ([_,_,_,_,_,_,_,_,_,_,_,_,_]++d0.set t (w2,278,J1)):=(W1d [_,_,_,_,_,_,_,_,_,_,_,_,_] d0 t 13 Z _)▸x1;have y0:=z2.tail;have U0:=C0.trans G1;have H0:=V0.put (k:=t) (by omega) s0 G1 v2 p2;obtain⟨_,_,d2⟩:=s0.form;subst d2;clear hR;refine D0a ⟨Z,?_⟩;refine t1a ⟨(St.front (A:=[_,_,_,_,_,_,_,_,_,_,_,_]) y0),U0⟩ Z Z Z ?_;refine q0a A3a.slT Z (by rfl) Z Z ?_;refine e0a ?_;refine K5a ⟨(St.front (A:=[_,_,_,_,_,_,_,_,_,_,_,_]) y0),U0⟩ ?_
  first|refine r0a (kk:=4) y0 c3b Z Z Z (by(simp;omega)) ?_
  intro x3 z0 b1;replace H0:=H0.keep (b1.mono (by simp));refine D0a ⟨Z,?_⟩;refine fO0 Z U (N1a V0a Z (z0.cells 3 Z) Z Z ?_)
  first|refine f0a (kk:=8) (vs:=[_,_,_]) z0 n2a Z Z Z Z Z Z Z ?_
  intro T3 P0 H1;dsimp only[o0a,List.set] at P0;replace H0:=H0.keep (H1.mono (by simp));refine lR1 Z ?_;rw[c8a K3 h3 K0 (k:=k)] at u0;rw[J3a d1,m1,c8a K3 h3 K0 (k:=k)];have SG:=P0.setEnt 4 Z (congrArg (fun i=>vs.set i _) (show 0+(t:Int).toNat*1=t by simp));refine x2a (n:=3) Z V0a Z (SG.cells 8 Z) Z Z ⟨⟨_,Z,_,_,_,Z,j3.rdI SG (k:=6) Z hM (B3a hp u0.mem) (by simp;omega),?_,?_⟩,SG.fin⟩
  ·have:=(E3a.ofPad (g:=ga) (l:=atC c t s) (pad:=g0) (by rw[I0];exact g1)).rdI SG (k:=5) Z hM (b7a hp u0) (by rw[I0];omega);rw[I0] at this;exact this
  ·have hA:=SG.apartM (A:=[_,_,_,_,_,_,_,_,_,_,_,_]) hM;have:=SG.rdBs (M:=M) 4 Z (Y0a hM (SG.new 4 Z)) (bs:=c.buf.set t _) (by simp;omega) (H0.rd (A:=[_,_,_,_,_,_,_,_,_,_,_,_]) SG (Mx:=M) (fun g hg=>by simp[hg]) hA (fun x hx=>by
    obtain⟨q,hq,rfl⟩:=List.getElem_of_mem hx;have:=(u0.bufs q _ (List.getElem?_eq_getElem hq)).1;omega))
   rw[List.length_set] at this;exact this
 refine lO1 Z (e1a B5a (vs:=[]) (cs:=[_,_,_]) Z Z Z Z ?_)
 first|refine f0a (kk:=0) (vs:=[_,_,_]) A0 n2a Z Z Z Z Z Z Z ?_
 intro U4 Y0 h4;dsimp only[o0a,List.set] at Y0;refine lR1 Z ?_;rw[p3a (of_decide_eq_false O2)];exact x2a (n:=3) Z V0a Z (Y0.cells 0 Z) Z Z ⟨⟨_,Z,S2a⟩,Y0.fin⟩
theorem A1a.single{α:Type}{R:List Nat→World→LV→α→Prop}{size g:Nat}{M:List Nat}{w:World}{cs:LV}{x:α}(hl:cs.length=size)(h:R (g::M) w cs x):A1a R size M w (some g) cs (.slice (some ⟨g,0,none⟩) 1 1) [x]:=by
 refine⟨[cs],Z,by simp[hl],⟨by simp[hl],.inr ⟨g,1,Z,Z,Nat.le_refl _,by unfold maxLen;omega,by simp[hl],?_⟩⟩,fun i y hi=>?_⟩
 ·subst hl;simp
 ·cases i with
  | zero=>cases hi;exact⟨cs,Z,h⟩
  | succ i=>simp at hi
theorem z6c.is{p:g0a}{m:Int}{c:E0a}(hg:z6c p m c)(hm:m=0∨m=1∨m=2):(m=0∧G5a c)∨m=1∨m=2:=by
 rcases hm with h|h|h
 ·exact .inl ⟨h,hg.2 h⟩
 ·exact .inr (.inl h)
 ·exact .inr (.inr h)
theorem k3c{p:g0a}{m:Int}{c:E0a}{x:d0a}:(N0b p m c x).2=0↔x∈P0a p m c:=by
 by_cases h:x∈P0a p m c
 ·rw[J3a h];exact⟨fun _=>h,fun _=>rfl⟩
 ·rw[p3a h];exact⟨fun z=>absurd z (by simp),fun z=>absurd z h⟩
theorem InP.addL{p:g0a}{w0 w:World}{cs:LV}{L:List Ent}{l:List Nat}(h:InP p [] w0 cs)(S:St [] w0 w L)(hn:∀g∈l,w0.heap.size≤g)(hl:∀g∈l,g<w.heap.size):InP p l w cs :=
 ⟨(h.rd.more fun g hg=>.inr (hn g hg)).keep (S.keep0 _),h.ok,(h.msk.more fun g hg=>.inr (hn g hg)).keep (S.keep0 _),hl⟩
theorem M5c(p:g0a)(m:Int)(hm:m=0∨m=1∨m=2)(run:List d0a)(w0:World)(cs:LV)(vr:Value)(hI:InP p [] w0 cs)(n0:z4a [] w0 vr run)(hlen:run.length≤120):
 M0a prog 137 #[.agg cs.toArray,.int .i64 m,vr] w0 fun v w'=>(∃vl,v=.tuple #[vl,.int .i64 (s7b p m run),.int .i64 (((g3a p m run).length:Int)-1)]∧M2d [] w' vl (g3a p m run))∧Bw w0 w':=by
 obtain⟨Ac,nc,cc,Am,nm,cm,Al,nl,cl,At,nt,ct,rfl,-⟩:=hI.rd.open_;obtain⟨Ar,nr,cr,rfl⟩:=n0.form;obtain⟨_,-,_⟩:=n0.len;have hp:=hI.ok;have S:=St.refl w0;have a2:=o5a p m run;refine a0a func137 Z ntmps137 Z ?_;refine wO1 Z (i0a S Z ?_);intro g3 w3 S3 X3 G3;refine lO S3.k [.w 0] Z ⟨⟨Z,Z⟩,U⟩ (s0a S3 C9b Z Z (O6a p [] _ _ (hI.rd.keep (S3.keep0 [])) (by simp) (U0b hI.ok)) ?_);rintro b2 i2 ⟨e1,e2,_,rfl,hv⟩ L0 W1;obtain rfl:=hv.2 hI.ok;refine lB1 Z (fun c1=>by exact absurd Z c1) (fun c1=>?_);refine lB1 Z (fun G1=>by exfalso;omega) fun G1=>?_;refine lB1 Z (fun H1=>by exfalso;omega) fun H1=>?_;refine lB1 Z (fun I1=>by exfalso;omega) fun I1=>?_;refine lO L0.k [.w 0] Z ⟨⟨Z,Z⟩,U⟩ (s0a L0 q7c Z Z (a0c p [] _ _ (hI.keep (L0.keep0 []))) ?_);rintro d2 O1 ⟨_,rfl,hX⟩ v1 X1;have KX:=A0a.refl [] O1;obtain⟨Ym,U1,zm,Ya,R1,za,Yb,T1,zb,rfl,-⟩:=hX.open_;refine m0a v1 t4a Z Z ?_;intro f0 g2 u1 z1 s1;have o0:=Nat.le_trans KX.size s1;replace KX:=KX.trans z1
 first|refine f0a (kk:=0) (vs:=[_,_,_]) u1 n2a Z Z Z Z Z Z Z ?_
 intro Q1 r0 N0;dsimp only[o0a,List.set] at r0;replace KX:=KX.fresh N0 (by first|exact o0);refine lO r0.k [.w 0] Z ⟨⟨Z,by rfl⟩,U⟩ (h0a r0 C5a (vs:=[.agg _]) (cs:=[_,_,_]) Z Z Z Z Z Z ?_);intro I0 p1 x1 A1 t1;have E0:=Nat.le_trans KX.size t1;replace KX:=KX.trans A1;have g1:B0a (I0::[f0]) p1 (k1a p) _:=(hX.more (fun x hx=>by simp only[List.mem_cons,List.not_mem_nil,or_false] at hx;rcases hx with rfl|rfl;exact .inr E0;exact .inr o0)).keep KX.of_nil;have J0:A1a P4a 3 [f0] p1 (some I0) _ (.slice (some ⟨I0,0,none⟩) 1 1) [k1a p]:=A1a.single Z g1;refine lC1 Z (wL (fun μk D ε w=>D=[]∧∃k:Nat,∃c:E0a,∃G:Option Nat,∃H0:LV,∃v:Value,∃Um:Option Addr,∃um:Nat,∃tm:Nat,∃Ua:Option Addr,∃ua:Nat,∃ta:Nat,∃Ub:Option Addr,∃ub:Nat,∃tb:Nat,(k+μk=(run.length))∧((g3a p m run)[k]?=some c)∧(B0a (G.toList++[f0]) w c [.slice Um um tm,.slice Ua ua ta,.slice Ub ub tb])∧(A1a P4a 3 [f0] w G H0 v ((g3a p m run).take (k+1)))∧St [] w0 w ([(some f0,71,[.slice Um um tm,.slice Ua ua ta,.slice Ub ub tb]),(some g3,27,pL Ac nc cc Am nm cm Al nl cl At nt ct)]++[(G,71,H0)])∧Sl ε [(1,.int .i64 m),(2,.slice Ar nr cr),(3,.pointer (some ⟨g3,0,none⟩)),(12,.pointer (some ⟨f0,0,none⟩)),(13,v),(14,.int .i64 k)]) (μ:=(run.length)) ⟨Z,0,k1a p,some I0,_,.slice (some ⟨I0,0,none⟩) 1 1,Ym,U1,zm,Ya,R1,za,Yb,T1,zb,by omega,Z,g1,J0,(x1.perm (List.perm_append_comm (l₁:=[_]))),Z⟩ ?_);rintro μk D ε w ⟨rfl,k,c,G,H0,v,Um,um,tm,Ua,ua,ta,Ub,ub,tb,_,K0,hX,m0,S,eZ⟩;refine wK eZ ?_;have KB:=A0a.refl [] w;refine wB1 Z (fun J1=>?_) fun J1=>?_
 ·refine lCn 7 S.k [] Z U (wX (fun D ε w=>D=[]∧∃q0:Nat,∃ys:LV,∃x:d0a,(run[k]?=some x)∧(B0a (G.toList++[f0]) w (N0b p m c x).1 ys)∧(A1a P4a 3 [f0] w G H0 v ((g3a p m run).take (k+1)))∧St [] w0 w ([(some q0,71,ys),(some f0,71,[.slice Um um tm,.slice Ua ua ta,.slice Ub ub tb]),(some g3,27,pL Ac nc cc Am nm cm Al nl cl At nt ct)]++[(G,71,H0)])∧Sl ε [(1,.int .i64 m),(2,.slice Ar nr cr),(3,.pointer (some ⟨g3,0,none⟩)),(12,.pointer (some ⟨f0,0,none⟩)),(13,v),(14,.int .i64 k),(15,.pointer (some ⟨q0,0,none⟩)),(16,.int .i64 (N0b p m c x).2)]) ?_ ?_)
  ·obtain⟨x,x0⟩:∃x,run[k]?=some x:=⟨run[k]'(by omega),List.getElem?_eq_getElem _⟩;have hg:=d9a hp (List.mem_of_getElem? K0);have d1:∀g∈G.toList++[f0],w0.heap.size≤g:=fun g hg=>by
    rcases List.mem_append.1 hg with h|h
    ·exact v1c S 2 Z g h
    ·rw[List.mem_singleton.1 h];simpa using S.new 0 Z
   have f1:∀g∈G.toList++[f0],g<w.heap.size:=fun g hg=>by
    rcases List.mem_append.1 hg with h|h
    ·exact B7a S (k:=2) Z g h
    ·rw[List.mem_singleton.1 h];exact S.lt 0 Z
   have Z1:=S.size;refine K1d b0a (fun i=>[0,1,2,3,4,5,6,8,9,10,13].contains i) 11 7 [11,0,1,2,3,4,5,6,7,8,9,10,12,13] [0,1,2,3,4,5,6,7,11,8,9,10,12,13] (by kernel_rfl) (T3d S) ?_ ?_
   ·have d0:=S.drew;have i0:A0a [] w w.drew:=p2a _ _;generalize w.drew=Z0 at d0 i0 ⊢;replace KB:=KB.trans i0;have a0:=i0;refine Z5c ⟨d0,a0⟩ Z Z Z ?_;refine m0a d0 t4a Z Z ?_;intro q0 N1 g0 A0 B0;have C0:=Nat.le_trans KB.size B0;have c0:=Nat.le_trans a0.size B0;replace KB:=KB.trans A0;replace a0:=a0.trans A0;refine D0a ⟨Z,?_⟩;refine Z6a ⟨g0.tail,a0⟩ Z Z Z ?_;refine w1a k2a Z (fun w1 hw=>hw.1.cells 1 Z) Z Z ?_;refine e0a ?_;refine Z6a ⟨g0.tail,a0⟩ Z Z Z ?_;refine R0a (hv:=Z) (v:=.int .i64 _) Z ?_;refine e0a ?_;refine Z6a ⟨g0.tail,a0⟩ Z Z Z ?_;refine w1a V0a Z (fun w1 hw=>hw.1.cells 0 Z) Z Z ?_;refine e0a ?_;refine Z6a ⟨g0.tail,a0⟩ Z Z Z ?_;refine R0a (hv:=Z) (v:=.slice _ _ _) Z ?_;refine e0a ?_;refine Z6a ⟨g0.tail,a0⟩ Z Z Z ?_;refine R0a (hv:=Z) (v:=.int .i64 _) Z ?_;refine e0a ?_;refine Z6a ⟨g0.tail,a0⟩ Z Z Z ?_;obtain⟨x2,D1,K1,E1,y0,P0,s0,R0,t0,u0⟩:=RdS.get (n0) (k) (by omega);obtain⟨rfl,T0,U0,V0⟩:=id u0;obtain rfl:=Option.some.inj (x0.symm.trans y0);refine q0a K2a.slT Z (by assumption) Z Z ?_;refine e0a ?_;refine Z6a ⟨g0.tail,a0⟩ Z Z Z ?_;refine w1a y2b Z (fun w1 hw=>t0.keep (hw.1.keep0 _) s0) (by rfl) Z ?_;refine e0a ?_;refine Z5c ⟨g0.tail,a0⟩ Z Z Z ?_;refine s0a g0 s1c Z Z (D6b p c m x (hg.is hm) (q0::(G.toList++[f0])) _ _ _ (hI.addL g0 (fun g hg=>by rcases List.mem_cons.1 hg with rfl|hg;omega;exact d1 g hg) (fun g hg=>by rcases List.mem_cons.1 hg with rfl|hg;exact g0.lt 0 Z;exact Nat.lt_of_lt_of_le (f1 g hg) KB.size)) ((hX.more (fun g hg=>by rcases List.mem_cons.1 hg with rfl|hg;exact .inr C0;exact .inl hg)).keep KB.of_nil) hg.1) ?_;rintro M1 q1 ⟨ys,rfl,hY⟩ p0 G0;replace KB:=KB.trans G0;replace a0:=a0.trans G0;obtain⟨Va,va,W0,Vb,vb,X0,Vc,vc,Y0,rfl,-⟩:=hY.open_;refine D0a ⟨Z,?_⟩;refine Z6a ⟨p0.tail,a0⟩ Z Z Z ?_;refine R0a (hv:=Z) (v:=.tuple _) Z ?_;refine e0a ?_;refine Z6a ⟨p0.tail,a0⟩ Z Z Z ?_;refine b4a Z Z Z ?_;refine e0a ?_;refine Z6a ⟨p0.tail,a0⟩ Z Z Z ?_;refine b4a Z Z Z ?_;refine e0a ?_;refine Z5c ⟨p0.tail,a0⟩ Z Z Z ?_;refine f0a (kk:=0) (vs:=[_,_,_]) p0 n2a Z Z Z Z Z Z Z ?_;intro z0 b0 e0;dsimp only[o0a,List.set] at b0;replace KB:=KB.fresh e0 (by exact c0);replace a0:=a0.fresh e0 (by exact c0);replace hY:=hY.keep (e0.mono (by simp));refine D0a ⟨Z,?_⟩;refine Z6a ⟨b0.tail,a0⟩ Z Z Z ?_;refine e3a (v:=.int .i64 _) Z Z ?_;refine e0a ?_;refine v2c ⟨b0.tail,a0⟩ ?_;refine fP0 Z U ⟨Z,(q0),_,(x),(x0),((by exact hY.less (fun g hg=>List.mem_cons_of_mem _ hg))),(m0.keep T1a KB.of_nil),b0,Z⟩
   have d0:=S.drew;have i0:A0a [] w w.drew:=p2a _ _;generalize w.drew=Z0 at d0 i0 ⊢;replace KB:=KB.trans i0;have a0:=i0;refine Z6a ⟨d0,a0⟩ Z Z Z ?_;refine w1a k2a Z (fun w1 hw=>hw.1.cells 1 Z) Z Z ?_;refine e0a ?_;refine Z6a ⟨d0,a0⟩ Z Z Z ?_;refine R0a (hv:=Z) (v:=.int .i64 _) Z ?_;refine e0a ?_;refine Z6a ⟨d0,a0⟩ Z Z Z ?_;refine w1a V0a Z (fun w1 hw=>hw.1.cells 0 Z) Z Z ?_;refine e0a ?_;refine Z6a ⟨d0,a0⟩ Z Z Z ?_;refine R0a (hv:=Z) (v:=.slice _ _ _) Z ?_;refine e0a ?_;refine Z6a ⟨d0,a0⟩ Z Z Z ?_;refine R0a (hv:=Z) (v:=.int .i64 _) Z ?_;refine e0a ?_;refine Z6a ⟨d0,a0⟩ Z Z Z ?_;obtain⟨x2,D1,K1,E1,y0,P0,s0,R0,t0,u0⟩:=RdS.get (n0) (k) (by omega);obtain⟨rfl,T0,U0,V0⟩:=id u0;obtain rfl:=Option.some.inj (x0.symm.trans y0);refine q0a K2a.slT Z (by assumption) Z Z ?_;refine e0a ?_;refine Z6a ⟨d0,a0⟩ Z Z Z ?_;refine w1a y2b Z (fun w1 hw=>t0.keep (hw.1.keep0 _) s0) (by rfl) Z ?_;refine e0a ?_;refine Z5c ⟨d0,a0⟩ Z Z Z ?_;refine s0a d0 s1c Z Z (D6b p c m x (hg.is hm) (G.toList++[f0]) _ _ _ (hI.addL d0 d1 (fun g hg=>Nat.lt_of_lt_of_le (f1 g hg) KB.size)) (hX.keep KB.of_nil) hg.1) ?_;rintro M1 q1 ⟨ys,rfl,hY⟩ p0 G0;replace KB:=KB.trans G0;replace a0:=a0.trans G0;have KC:=A0a.refl [] q1;obtain⟨Va,va,W0,Vb,vb,X0,Vc,vc,Y0,rfl,-⟩:=hY.open_;refine D0a ⟨Z,?_⟩;refine Z5c ⟨p0,a0⟩ Z Z Z ?_;refine m0a p0 t4a Z Z ?_;intro q0 N1 g0 A0 B0;have c0:=Nat.le_trans a0.size B0;have D0:=Nat.le_trans KC.size B0;replace KB:=KB.trans A0;replace a0:=a0.trans A0;replace KC:=KC.trans A0;refine D0a ⟨Z,?_⟩;refine Z6a ⟨g0.tail,a0⟩ Z Z Z ?_;refine R0a (hv:=Z) (v:=.tuple _) Z ?_;refine e0a ?_;refine Z6a ⟨g0.tail,a0⟩ Z Z Z ?_;refine b4a Z Z Z ?_;refine e0a ?_;refine Z6a ⟨g0.tail,a0⟩ Z Z Z ?_;refine b4a Z Z Z ?_;refine e0a ?_;refine Z5c ⟨g0.tail,a0⟩ Z Z Z ?_;refine f0a (kk:=0) (vs:=[_,_,_]) g0 n2a Z Z Z Z Z Z Z ?_;intro z0 b0 e0;dsimp only[o0a,List.set] at b0;replace KB:=KB.fresh e0 (by exact c0);replace a0:=a0.fresh e0 (by exact c0);replace KC:=KC.fresh e0 (by exact D0);refine D0a ⟨Z,?_⟩;refine Z6a ⟨b0.tail,a0⟩ Z Z Z ?_;refine e3a (v:=.int .i64 _) Z Z ?_;refine e0a ?_;refine v2c ⟨b0.tail,a0⟩ ?_;refine fP0 Z U ⟨Z,(q0),_,(x),(x0),((by exact hY.keep KC.of_nil)),(m0.keep T1a KB.of_nil),b0,Z⟩
  rintro D ε w ⟨rfl,q0,ys,x,x0,hY,m0,S,eZ⟩;refine wK eZ ?_;obtain⟨Va,va,W0,Vb,vb,X0,Vc,vc,Y0,rfl,-⟩:=hY.open_;have KY:=A0a.refl [f0] w;have m1:=k3c (p:=p) (m:=m) (c:=c) (x:=x);have hg:=d9a hp (List.mem_of_getElem? K0);refine wB1 Z (fun O0=>?_) fun O0=>?_
  ·refine lOn 5 S.k [] Z U (w0a Z ?_);refine lOn 1 S.k [] Z U (n0a Z ?_);refine lR1 Z (I6a Z ?_);refine⟨?_,S.fin⟩;have S0:x∉P0a p m c:=fun z=>O0 (m1.2 z);have hl:=z4b K0 x0 S0;have e1:s7b p m run=110:=by unfold s7b;rw[if_neg (by omega)]
   have e2:(((g3a p m run).length:Int)-1)=k:=by omega
   refine⟨v,by rw[e1,e2],?_⟩;have h1:=A1a.rd (M:=[f0]) T1a m0 S (k:=3) Z (fun g hg hh=>by subst hg;rw[List.mem_singleton] at hh;exact S.ne 1 3 Z Z (by decide) hh.symm) (by rw[List.length_take];omega);rw[List.take_of_length_le (by omega)] at h1;exact RdS.lessW h1 (by simp) (P4a.less (by simp))
  have j1:=m1.1 O0;have n1:=T8a K0 x0 j1;rw[J3a j1] at hY;refine lO1 Z (N1a V0a Z (S.cells 0 Z) Z Z ?_)
  first|refine f0a (kk:=1) (vs:=[_,_,_]) S n2a Z Z Z Z Z Z Z ?_
  intro o1 j0 F0;dsimp only[o0a,List.set] at j0;replace KY:=KY.fresh2 F0 (by exact .inr (by simp));refine lOn 3 j0.k [] Z U (w0a Z ?_);refine N1a V0a Z (j0.cells 1 Z) Z Z ?_;refine h0a j0 C5a (vs:=[.agg _]) (cs:=[_,_,_]) Z Z Z Z Z Z ?_;intro Y1 j2 b1 B1 V1;replace KY:=KY.trans (B1.of_nil);have i1:=hY.keep (KY.mono (by simp));refine C0a (hll:=(by rw[List.length_take];omega)) T1a (k:=4) (M2:=[f0]) (e1:=doC p m c x) b1 C5a Z (m0.keep T1a (KY.mono (by simp))) Z Z (b1.cells 0 Z) i1 Z ?_;intro f2 a1 F1 P1 y1 v0 C1 r1;have Q0:B0a (a1.toList++[f0]) P1 (doC p m c x) [.slice Va va W0,.slice Vb vb X0,.slice Vc vc Y0]:=by
   have h1:=i1.more (M':=a1.toList++(G.toList++[f0])) (fun g hg=>(List.mem_append.1 hg).elim (fun h=>(r1 g h).imp (List.mem_append_left _) id) .inl);exact(h1.keep (C1.mono (fun g hg=>by simp[hg]))).less (fun g hg=>by simp at hg ⊢;rcases hg with h|h<;>simp[h])
  refine n0a Z ?_;refine lP1 Z ⟨μk-1,by omega,Z,k+1,(doC p m c x),_,_,_,_,_,_,_,_,_,_,_,_,by omega,?_,?_,?_,y1.tail.tail,Z⟩
  ·exact n1
  ·exact Q0
  ·rw[O0a n1];exact v0
 refine lOn 7 S.k [] Z U (w0a Z ?_);refine lOn 2 S.k [] Z U (n0a Z ?_);refine lR1 Z (I6a Z ?_);refine⟨?_,S.fin⟩;have hl:=m1a K0;have e1:s7b p m run=0:=by unfold s7b;rw[if_pos (by omega)]
 have e2:(((g3a p m run).length:Int)-1)=nr:=by omega
 refine⟨v,by rw[e1,e2],?_⟩;have h1:=A1a.rd (M:=[f0]) T1a m0 S (k:=2) Z (fun g hg hh=>by subst hg;rw[List.mem_singleton] at hh;exact S.ne 0 2 Z Z (by decide) hh.symm) (by rw[List.length_take];omega);rw[List.take_of_length_le (by omega)] at h1;exact RdS.lessW h1 (by simp) (P4a.less (by simp))
theorem c0c{p:g0a}{d:E0a}:C5c p ⟨-1,I2c,noC,d⟩ (-1) (-1) (-1) 0 where
 hby:=Z
 hown:=Z
 hborn:=Z
 hlock h:=by simp at h
 lim:=by omega
 mod h:=by cases h
 thr h:=by simp at h
theorem L5b{p:g0a}{d:E0a}(hq:w3a d=true):k4a p ⟨-1,I2c,noC,d⟩=P3a p ⟨-1,I2c,noC,d⟩ p.locks.length++r2a p ⟨-1,I2c,noC,d⟩ p.threads.length:=by
 unfold k4a I5a a3a;rw[if_neg (by simp),if_pos hq,if_pos hq];rfl
theorem f8b(p:g0a):w3a (k1a p)=true:=I3b fun b hb=>by
 simp only[k1a,List.mem_map] at hb;obtain⟨_,_,rfl⟩:=hb;rfl
theorem L9b(p:g0a)(m:Int)(hm:m=0∨m=1∨m=2)(run:List d0a)(w0:World)(cs:LV)(vr:Value)(hI:InP p [] w0 cs)(f0:z4a [] w0 vr run)(hlen:run.length≤120):
 M0a prog 82 #[.agg cs.toArray,.int .i64 m,vr] w0 fun v w'=>(∃vl,v=.tuple #[vl,.int .i64 (s7b p m run)]∧F9b [] w' vl (Z4a p m run))∧Bw w0 w':=by
 obtain⟨Ac,nc,cc,Am,nm,cm,Al,nl,cl,At,nt,ct,rfl,-⟩:=hI.rd.open_;obtain⟨Ar,nr,cr,rfl⟩:=f0.form;obtain⟨_,-,_⟩:=f0.len;have hp:=hI.ok;have S:=St.refl w0;have r1:=o5a p m run;have q1:0<(g3a p m run).length:=Nat.succ_pos _;refine a0a func82 Z ntmps82 Z ?_;refine wO1 Z (i0a S Z ?_);intro g3 w3 S3 X3 G3;refine lO S3.k [.w 0] Z ⟨⟨Z,Z⟩,U⟩ (s0a S3 P0c Z Z (M5c p m hm run _ _ _ (hI.keep (S3.keep0 [])) (f0.keep (S3.keep0 [])) hlen) ?_);rintro s1 o0 ⟨vl,rfl,hL⟩ Y0 m1;have KL:=A0a.refl [] o0;obtain⟨Ax,nx,cx,rfl⟩:=hL.form;obtain⟨_,-,_⟩:=hL.len;refine lB1 Z (fun c1=>by exfalso;omega) fun c1=>?_;refine lC1 Z (f2c b0a (fun i=>[0,1,2,3,5].contains i) [0,1,2,3,4,5] (Cl _ _ _ _) (Cl.start Y0) ?_);rintro y1 ⟨g0,i0⟩;refine t1a ⟨g0,i0⟩ Z Z Z ?_;refine w1a k2a Z (fun w1 hw=>hw.1.cells 0 Z) Z Z ?_;refine e0a ?_;refine t1a ⟨g0,i0⟩ Z Z Z ?_;refine R0a (hv:=Z) (v:=.slice _ _ _) Z ?_;refine e0a ?_;refine t1a ⟨g0,i0⟩ Z Z Z ?_;obtain⟨_,_,_,_,O0,_,_,_,I0,q0⟩:=RdS.get ((RdS.keepW hL KL (P4a.keep KL))) (0) (by omega);obtain⟨_,_,_,_,_,_,_,_,_,rfl,_⟩:=B0a.open_ q0;obtain rfl:=Option.some.inj (O0.symm.trans (show(g3a p m run)[0]?=some (k1a p) from rfl));refine q0a C5a.slT Z (by assumption) Z Z ?_;refine e0a ?_;refine t1a ⟨g0,i0⟩ Z Z Z ?_;refine w1a V0a Z (fun w1 hw=>I0.keep hw.2 List.not_mem_nil) (by rfl) Z ?_;refine e0a ?_;refine j8a ⟨g0,i0⟩ Z Z Z Z ?_;refine O2a u8a Z Z (Y1b p _ (r3b hp) _ _ _ _ c0c [] _ _ _ (hI.keep (g0.keep0 [])) ((B0a.keep (M:=[]) i0.of_nil q0))) ?_;rintro g1 v1 ⟨⟨x0,B0,e0,d0⟩,Q0⟩;have z0:=c4b d0 (g0.later Q0) g0;have j0:=i0.trans (A0a.of_below Q0);have E0:∀g∈x0.toList,o0.heap.size≤g:=fun g hg=>by
  have z1:=(d0 g (by cases x0<;>simp at hg ⊢;exact hg.symm)).1;have z2:=i0.size;omega
 replace KL:=j0;rw[←L5b (f8b p)] at e0;refine D0a ⟨Z,?_⟩;refine t1a ⟨z0.tail,j0⟩ Z Z Z ?_;refine e3a (by conv=>lhs;whnf) Z ?_;refine e0a ?_;refine K5a ⟨z0.tail,j0⟩ ?_;refine fC0 Z U ?_;refine wL (fun μi D ε w=>D=[]∧∃i:Nat,∃G:Option Nat,∃u0:LV,∃v:Value,(i+μi=(((g3a p m run).length-1)))∧(A1a (fun _ _=>Y4a) 5 [] w0 G u0 v (M4a p run (g3a p m run) (i+1)))∧(A0a [] o0 w)∧(∀g∈G.toList,o0.heap.size≤g)∧St [] w0 w ([(some g3,27,pL Ac nc cc Am nm cm Al nl cl At nt ct)]++[(G,140,u0)])∧Sl ε [(2,.slice Ar nr cr),(3,.pointer (some ⟨g3,0,none⟩)),(8,.slice Ax nx cx),(9,.int .i64 (s7b p m run)),(10,.int .i64 (((g3a p m run).length:Int)-1)),(11,v),(12,.int .i64 i)]) (μ:=(((g3a p m run).length-1))) ⟨Z,0,x0,B0,g1,by omega,(by rw[E7a,x5b (show(g3a p m run)[0]?=some (k1a p) from rfl)];exact e0),KL,E0,(z0.perm (List.perm_append_comm (l₁:=[_]))),Z⟩ ?_;rintro μi D ε w ⟨rfl,i,G,u0,v,_,t0,KL,hG,S,eZ⟩;refine wK eZ (wB1 Z (fun d1=>?_) fun d1=>?_)
 ·have T0:∀x∈G.toList,x∈([]:List Nat)∨o0.heap.size≤x:=fun x hx=>.inr (hG x hx);have U0:RdS G.toList w 3 (P4a G.toList w) (.slice Ax nx cx) (g3a p m run):=RdS.keepW (RdS.moreW hL (by omega) T0 (fun _ _=>B0a.more T0)) KL.of_nil (P4a.keep KL.of_nil);obtain⟨c,_,_,_,v0,C0,F0,_,J0,r0⟩:=RdS.get U0 i (by omega);obtain⟨_,_,_,_,_,_,_,_,_,rfl,-⟩:=B0a.open_ r0;obtain⟨d,_,_,_,W0,D0,G0,_,K0,s0⟩:=RdS.get U0 (i+1) (by omega);obtain⟨_,_,_,_,_,_,_,_,_,rfl,-⟩:=B0a.open_ s0;cases Option.some.inj (C0.symm.trans D0);refine lC1 Z (h9b b0a (fun i=>[0,1,2,3,4,5,6,7,8,9,10,11,12,13,14,15,18].contains i) [0,1,2,3,4,5,6,7,8,9,10,11,12,13,14,15,16,17,18] (clF (A:=[_]) (R:=[(G,140,u0)]) S G.toList) ?_);have a0:=S.drew;have S0:A0a [] w w.drew:=p2a _ _;generalize w.drew=A1 at a0 S0 ⊢;have b0:A0a (G.toList) _ _:=S0.of_nil;refine t1a ⟨St.front (A:=[_]) a0,b0⟩ Z Z Z ?_;refine R0a Z ?_;refine e0a ?_;refine t1a ⟨St.front (A:=[_]) a0,b0⟩ Z Z Z ?_;refine w1a k2a Z (fun w1 hw=>hw.1.cells 0 Z) Z Z ?_;refine e0a ?_;refine t1a ⟨St.front (A:=[_]) a0,b0⟩ Z Z Z ?_;refine R0a (hv:=Z) (v:=.slice _ _ _) Z ?_;refine e0a ?_;refine t1a ⟨St.front (A:=[_]) a0,b0⟩ Z Z Z ?_;refine R0a (hv:=Z) (v:=.int .i64 _) Z ?_;refine e0a ?_;refine t1a ⟨St.front (A:=[_]) a0,b0⟩ Z Z Z ?_;refine q0a C5a.slT Z (by assumption) Z Z ?_;refine e0a ?_;refine t1a ⟨St.front (A:=[_]) a0,b0⟩ Z Z Z ?_;refine w1a V0a Z (fun w1 hw=>J0.keep hw.2 F0) (by rfl) Z ?_;refine e0a ?_;refine t1a ⟨St.front (A:=[_]) a0,b0⟩ Z Z Z ?_;refine R0a (hv:=Z) (v:=.slice _ _ _) Z ?_;refine e0a ?_;refine t1a ⟨St.front (A:=[_]) a0,b0⟩ Z Z Z ?_;refine R0a (hv:=Z) (v:=.int .i64 _) Z ?_;refine e0a ?_;refine t1a ⟨St.front (A:=[_]) a0,b0⟩ Z Z Z ?_;refine A0d Z Z iO Z ?_;refine e0a ?_;refine t1a ⟨St.front (A:=[_]) a0,b0⟩ Z Z Z ?_;refine q0a C5a.slT Z (by assumption) Z Z ?_;refine e0a ?_;refine t1a ⟨St.front (A:=[_]) a0,b0⟩ Z Z Z ?_;refine w1a V0a Z (fun w1 hw=>K0.keep hw.2 G0) (by rfl) Z ?_;refine e0a ?_;refine t1a ⟨St.front (A:=[_]) a0,b0⟩ Z Z Z ?_;refine R0a (hv:=Z) (v:=.slice _ _ _) Z ?_;refine e0a ?_;refine t1a ⟨St.front (A:=[_]) a0,b0⟩ Z Z Z ?_;refine R0a (hv:=Z) (v:=.int .i64 _) Z ?_;refine e0a ?_;refine t1a ⟨St.front (A:=[_]) a0,b0⟩ Z Z Z ?_;obtain⟨x,_,_,_,P0,_,H0,_,L0,N0⟩:=RdS.get (f0) (i) (by omega);obtain⟨rfl,_⟩:=id N0;have hg:=d9a hp (List.mem_of_getElem? v0);have V0:x∈P0a p m c:=Classical.byContradiction fun z=>by have:=z4b v0 P0 z;omega
  obtain rfl:d=doC p m c x:=Option.some.inj (W0.symm.trans (T8a v0 P0 V0));have he:E4b run (g3a p m run) (i+1)=⟨i,x,c,doC p m c x⟩:=by
   have z:=X8b (k:=i+1) (by rw[show(((i+1:Nat):Int)-1).toNat=i by omega];exact P0) (by rw[show(((i+1:Nat):Int)-1).toNat=i by omega];exact v0) W0;rw[show(((i+1:Nat):Int)-1)=i by omega] at z;exact z
  refine q0a K2a.slT Z (by assumption) Z Z ?_;refine e0a ?_;refine t1a ⟨St.front (A:=[_]) a0,b0⟩ Z Z Z ?_;refine w1a y2b Z (fun w1 hw=>L0.keep (hw.1.keep0 _) H0) (by rfl) Z ?_;refine e0a ?_;refine t1a ⟨St.front (A:=[_]) a0,b0⟩ Z Z Z ?_;refine R0a (hv:=Z) (v:=.int .i64 _) Z ?_;refine e0a ?_;refine j8a ⟨St.front (A:=[_]) a0,b0⟩ Z Z Z Z ?_;refine s0a a0 p8c Z Z (e7b p ⟨i,x,c,doC p m c x⟩ (t1c hp hg.1 V0) (by show(0:Int)≤i;omega) [] _ _ _ _ (hI.keep (a0.keep0 [])) (B0a.less (M':=[]) (by simp) (B0a.keep (M:=G.toList) b0 r0)) (B0a.less (M':=[]) (by simp) (B0a.keep (M:=G.toList) b0 s0))) ?_;rintro t1 x1 p0 R0 Z0;have c0:=b0.trans (Z0.mono (by simp));obtain⟨_,_,_,rfl⟩:=p0.form;refine D0a ⟨Z,?_⟩;refine j8a ⟨St.front (A:=[_]) R0,c0⟩ Z Z Z Z ?_;have p1:=q0b (e:=(⟨i,x,c,doC p m c x⟩:EvD)) hp;have f1:=N6a (run:=run) (l:=g3a p m run) hp (i+1);refine G3a o1a (M2:=[]) (k:=1) R0 s1a Z t0 Z Z p0 (by omega) Z ?_;intro u1 j1 b1 i1 A0 n0 a1 X0;have n1:=c0.size;have o1:=KL.size;have m0:=c0.trans a1;have y0:A0a [] o0 i1:=KL.freshL m0 (fun g hg=>.inl (hG g hg));refine D0a ⟨Z,?_⟩;refine t1a ⟨St.front (A:=[_]) A0,m0⟩ Z Z Z ?_;refine e3a (by conv=>lhs;whnf) Z ?_;refine e0a ?_;refine K5a ⟨St.front (A:=[_]) A0,m0⟩ ?_;refine fP0 Z ⟨by omega,U⟩ ⟨μi-1,by omega,Z,i+1,_,_,_,by omega,?_,?_,?_,A0,Z⟩
  ·rw[E7a,he];exact n0
  ·exact y0
  ·exact fun g hg=>(X0 g hg).elim (hG g) (fun h=>by omega)
 refine lOn 7 S.k [] Z U (w0a Z ?_);refine lOn 1 S.k [] Z U (n0a Z ?_);refine lR1 Z (V2b Z ?_);refine⟨⟨v,Z,?_⟩,S.fin⟩;have f1:=N6a (run:=run) (l:=g3a p m run) hp (i+1);have h1:F9b [] w v (M4a p run (g3a p m run) (i+1)):=A1a.rd o1a (M:=[]) t0 S (k:=1) Z (fun _ _=>List.not_mem_nil) (by omega);rw[show i+1=(g3a p m run).length by omega] at h1;exact h1
def O3c(M:List Nat)(w:World)(cs:LV)(l:List d0a):Prop:=∃v,cs=[v]∧z4a M w v l
theorem V6a:E8a O3c 1 where
 len h:=by obtain⟨_,rfl,_⟩:=h;rfl
 one h u hu:=by
  obtain⟨v,rfl,hr⟩:=h;obtain⟨_,_,_,rfl⟩:=hr.form;simp at hu;subst hu;rfl
 keep hk h:=by obtain⟨v,h1,h2⟩:=h;exact⟨v,h1,RdS.keep h2 hk⟩
 more hm h:=by obtain⟨v,h1,h2⟩:=h;exact⟨v,h1,RdS.more h2 (by omega) hm⟩
theorem O3c.keep{M:List Nat}{w w':World}(hk:A0a M w w'):∀cs a,O3c M w cs a→O3c M w' cs a:=fun _ _ h=>V6a.keep hk h
theorem M1c(run:List d0a)(i k:Nat):(m5b run i k).length≤k:=by
 unfold m5b;rw[List.length_map];exact Nat.le_trans (List.length_filter_le _ _) (by rw[List.length_range];exact Nat.le_refl _)
theorem g2c(run:List d0a):∀k,(r5b run k).length≤k*run.length
 | 0=>by simp[r5b]
 | k+1=>by
   have h1:=g2c run k;have h2:=M1c run k run.length;rw[J7a,List.length_append,Nat.succ_mul];omega
theorem g9b{run:List d0a}(hl:run.length≤120){k:Nat}(hk:k≤run.length):(r5b run k).length≤14400 :=
 Nat.le_trans (g2c run k) (Nat.mul_le_mul (Nat.le_trans hk hl) hl)
theorem Q8b{run:List d0a}(hl:run.length≤120):(j7a run).length≤14520:=by
 have h:=g9b hl (Nat.le_refl _);unfold j7a;rw[List.length_append,e8a];omega
theorem y0b(run:List d0a)(i j:Nat)(M Mx:List Nat)(w0:World)(vr:Value)(b0:z4a M w0 vr run)(hM:∀g∈Mx,g<w0.heap.size)(hl:run.length≤1000:=by omega):
 M0a prog 140 #[vr,.int .i64 i,.int .i64 j] w0 fun v w'=>z4a Mx w' v (wo run i j)∧Bw w0 w':=by
 obtain⟨Ar,nr,cr,rfl⟩:=b0.form;obtain⟨_,_⟩:=b0.len;have S:=(St.refl w0).nilEnt 75;refine a0a func140 Z ntmps140 Z ?_;refine wC1 Z (wL (fun μk D ε w=>D=[]∧∃k:Nat,∃G:Option Nat,∃e0:LV,∃v:Value,(k+μk=(run.length))∧(A1a (fun _ _=>S3a) 3 [] w0 G e0 v (wo (run.take k) i j))∧St [] w0 w [(G,75,e0)]∧Sl ε [(0,.slice Ar nr cr),(1,.int .i64 i),(2,.int .i64 j),(7,v),(8,.int .i64 k)]) (μ:=(run.length)) ⟨Z,0,none,[],.slice none 0 0,by omega,A1a.nil,S,Z⟩ ?_);rintro μk D ε w ⟨rfl,k,G,e0,v,_,a0,S,eZ⟩;refine wK eZ (wB1 Z (fun t0=>?_) fun t0=>?_)
 ·refine lB1 Z (fun u0=>?_) fun u0=>?_
  ·refine lB1 Z (fun v0=>?_) fun v0=>?_
   ·refine lOn 5 S.k [] Z U (w0a Z ?_);obtain⟨x,r0,x0,_,d0,f0,_,i0,g0,j0⟩:=RdS.get (b0) (k) (by omega);obtain⟨rfl,m0,n0,o0⟩:=id j0;refine lO (S.k.a g0) [.x r0 x0,.v 0] Z ⟨⟨Z,i0⟩,⟨f0,by omega⟩,U⟩ (h0a S K2a (vs:=[.agg _]) (cs:=[_,_,_]) Z Z Z Z Z Z ?_);intro D0 F0 p0 B0 z0;have lf:(wo (run.take k) i j).length≤k:=P1b;refine C0a N2a (k:=1) (M2:=[]) (e1:=x) p0 K2a Z a0 Z Z (p0.cells 0 Z) ⟨Z,m0,n0,o0⟩ Z ?_;intro E0 A0 s0 G0 q0 c0 C0 y0;refine n0a Z ?_;refine lP1 Z ⟨μk-1,by omega,Z,k+1,_,_,_,by omega,?_,q0.tail,Z⟩;rw[e6c d0 ⟨by omega,by omega⟩];exact c0
   refine lP1 Z ⟨μk-1,by omega,Z,k+1,_,_,_,by omega,?_,S,Z⟩;obtain⟨x,d0⟩:∃x,run[k]?=some x:=⟨run[k]'(by omega),List.getElem?_eq_getElem _⟩;rw[j5c d0];exact a0
  refine lP1 Z ⟨μk-1,by omega,Z,k+1,_,_,_,by omega,?_,S,Z⟩;obtain⟨x,d0⟩:∃x,run[k]?=some x:=⟨run[k]'(by omega),List.getElem?_eq_getElem _⟩;rw[j5c d0];exact a0
 refine lOn 7 S.k [] Z U (w0a Z ?_);refine n0a Z ?_;refine lR1 Z (t0a Z ?_);refine⟨A1a.rd N2a (M:=Mx) (by rw[List.take_of_length_le (by omega)] at a0;exact a0) S (k:=0) Z (fun g hg hh=>?_) (by have:=K0d run i j;omega),S.fin⟩;subst hg;have h1:=S.new 0 Z;have h2:=hM g hh;simp at h1;omega
theorem k7a(p:g0a)(m:Int)(hm:m=0∨m=1∨m=2)(run:List d0a)(hlen:run.length≤120)(w0:World)(cs:LV)(vr:Value)(hI:InP p [] w0 cs)(b0:z4a [] w0 vr run):
 M0a prog 41 #[.agg cs.toArray,.int .i64 m,vr] w0 fun v w'=>(∃A n c,v=.tuple #[.slice A n c,.bool (I2a p m run).isSome,.int .i64 (s7b p m run)]∧∀d,I2a p m run=some d→z4a [] w' (.slice A n c) d)∧Bw w0 w':=by
 obtain⟨_,_,_,_,_,_,_,_,_,_,_,_,rfl,-⟩:=hI.rd.open_;obtain⟨_,_,_,rfl⟩:=b0.form;obtain⟨_,_⟩:=b0.len;have S:=St.refl w0;refine a0a func41 Z ntmps41 Z ?_;refine wO1 Z (i0a S Z ?_);intro g3 w3 S3 X3 G3;refine lO S3.k [.w 0] Z ⟨⟨Z,by rfl⟩,U⟩ (s0a S3 B6c Z Z (L9b p m hm run _ _ _ (hI.keep (S3.keep0 [])) (b0.keep (S3.keep0 [])) hlen) ?_);rintro r0 n0 ⟨_,rfl,hV⟩ c0 o0;have KV:=A0a.refl [] n0;obtain⟨_,_,_,rfl⟩:=hV.form;obtain⟨_,_⟩:=hV.len;refine lB1 Z (fun i0=>?_) fun i0=>?_
 ·refine lR1 Z (I6a Z ?_);have h0:Z4a p m run=[]:=List.length_eq_zero_iff.1 (by omega);rw[L7a.2 h0];exact⟨⟨_,_,_,Z,fun d hd=>by cases hd⟩,c0.fin⟩
 obtain⟨x0,g0,m0,_,a0,d0,_,_,e0,f0⟩:=RdS.get (hV) (0) (by omega);obtain⟨rfl,-,-,-,-,-⟩:=f0;have p0:=U4b (List.mem_of_getElem? a0);have q0:=o5a p m run;obtain⟨n,hn⟩:∃n:Nat,x0.at_+1=n:=⟨(x0.at_+1).toNat,by omega⟩;refine lO (c0.k.b e0) [.x g0 m0,.f 0 0] Z ⟨by omega,Z,⟨d0,by omega⟩,U⟩ (A1c (k:=n) K2a.slT Z (congrArg (Value.int .i64) hn) (by omega) Z ?_);refine lR1 Z (I6a Z ?_);have j0:I2a p m run=some (run.take n):=by
  unfold I2a;cases hw:Z4a p m run with
  | nil=>rw[hw] at a0;cases a0
  | cons v l =>
    rw[hw] at a0;cases a0;show some (run.take (x0.at_+1).toNat)=_;rw[hn];rfl
 rw[j0];refine⟨⟨_,_,_,Z,fun d hd=>?_⟩,c0.fin⟩;cases hd;exact RdS.take (b0.keep (c0.keep0 [])) n (by omega)
theorem n2b(run:List d0a)(R0:run.length≤120)(w0:World)(vr:Value)(c0:z4a [] w0 vr run):
 M0a prog 83 #[vr] w0 fun v w'=>RdS [] w' 1 (O3c [] w') v (j7a run)∧Bw w0 w':=by
 obtain⟨Ar,nr,cr,rfl⟩:=c0.form;obtain⟨_,_⟩:=c0.len;have S:=(St.refl w0).nilEnt 28;refine a0a func83 Z ntmps83 Z ?_;refine wC1 Z (wL (fun μk D ε w=>D=[]∧∃k:Nat,∃G:Option Nat,∃f0:LV,∃v:Value,(k+μk=(run.length))∧(A1a O3c 1 [] w G f0 v (t0c run k))∧St [] w0 w [(G,28,f0)]∧Sl ε [(0,.slice Ar nr cr),(3,v),(4,.int .i64 k)]) (μ:=(run.length)) ⟨Z,0,none,[],.slice none 0 0,by omega,A1a.nil,S,Z⟩ ?_);rintro μk D ε w ⟨rfl,k,G,f0,v,_,e0,S,eZ⟩;refine wK eZ ?_;have KB:=A0a.refl [] w;refine wB1 Z (fun f1=>?_) fun f1=>?_
 ·refine lOn 8 S.k [] Z U (w0a Z ?_);refine lO1 Z (s0a S Z1c Z Z (y0b run k k [] G.toList _ _ (c0.keep (S.keep0 [])) (B7a S (k:=0) Z)) ?_);rintro B1 p1 n0 S0 W0;replace KB:=KB.trans W0;have r0:=A0a.refl G.toList p1;obtain⟨_,_,_,rfl⟩:=n0.form;refine h0a S0 f0b (vs:=[.slice _ _ _]) (cs:=[_]) Z Z Z Z Z Z ?_;intro z1 F1 K0 N0 t1;replace KB:=KB.trans N0;replace r0:=r0.trans (N0.of_nil);have lf:=e8a run k;refine C0a V6a (k:=1) (M2:=[]) (e1:=wo run k k) K0 f0b Z (e0.keep V6a KB.of_nil) Z Z (K0.cells 0 Z) ⟨_,Z,by rw[List.append_nil];exact n0.keep r0⟩ Z ?_;intro C1 u1 c1 G1 T0 g0 x1 r1;refine n0a Z ?_;refine lP1 Z ?_;refine⟨μk-1,by omega,Z,k+1,_,_,_,by omega,((by rw[p2b];exact g0)),T0.tail,Z⟩
 refine lC1 Z ?_;refine wL (fun μi D ε w=>D=[]∧∃i:Nat,∃G:Option Nat,∃f0:LV,∃v:Value,(i+μi=(run.length))∧(A1a O3c 1 [] w G f0 v (t0c run run.length++r5b run i))∧St [] w0 w [(G,28,f0)]∧Sl ε [(0,.slice Ar nr cr),(3,v),(5,.int .i64 i)]) (μ:=(run.length)) ⟨Z,0,G,f0,v,by omega,(by rw[show k=run.length by omega] at e0;simpa[r5b] using e0),S,Z⟩ ?_;rintro μi D ε w ⟨rfl,i,G,f0,v,_,e0,S,eZ⟩;refine wK eZ (wB1 Z (fun g1=>?_) fun g1=>?_)
 ·refine lC0 Z ⟨by omega,U⟩ ?_;refine wL (fun μj D ε w=>D=[]∧∃j:Nat,∃GJ:Option Nat,∃t0:LV,∃vJ:Value,(j+μj=max (run.length) (i+1))∧((i+1)≤j)∧(A1a O3c 1 [] w GJ t0 vJ (t0c run run.length++r5b run i++m5b run i j))∧St [] w0 w [(GJ,28,t0)]∧Sl ε [(0,.slice Ar nr cr),(3,vJ),(5,.int .i64 i),(6,.int .i64 j)]) (μ:=(max (run.length) (i+1)-(i+1))) ⟨Z,i+1,G,f0,v,by omega,by omega,(by rw[w4b (Nat.le_refl _),List.append_nil];exact e0),S,Z⟩ ?_;rintro μj D ε w ⟨rfl,j,GJ,t0,vJ,_,_,b0,S,eZ⟩;refine wK eZ ?_;have KB:=A0a.refl [] w;refine wB1 Z (fun i1=>?_) fun i1=>?_
  ·refine lC1 Z (x0a b0a [0,1,2,3,4,5,6,7,8,9,10,11,12,13,14,15,16,17,18,19,20,21,22,23,24,25,26] [] [] Z (Cl _ _ _ _) (Cl.start S) ?_);obtain⟨x,Y0,j1,_,p0,v0,_,_,A0,E0⟩:=RdS.get (c0) (i) (by omega);obtain⟨rfl,_⟩:=id E0;obtain⟨_,Z0,m1,_,q0,x0,_,_,B0,F0⟩:=RdS.get (c0) (j) (by omega);obtain⟨rfl,_⟩:=id F0;refine qB ((S.q.a B0).a A0) [.x Y0 j1,.f 0 0,.x Z0 m1,.f 1 0] Z ⟨Z,⟨x0,by omega⟩,Z,⟨v0,by omega⟩,U⟩ (fun P0=>?_) fun P0=>?_
   ·obtain⟨_,a1,n1,_,I0,y0,_,_,C0,G0⟩:=RdS.get (c0) (i) (by omega);obtain⟨rfl,_⟩:=id G0;obtain rfl:=Option.some.inj (p0.symm.trans I0);refine qB (S.q.a C0) [.x a1 n1,.f 0 1] Z ⟨Z,⟨y0,by omega⟩,U⟩ (fun u0=>?_) fun u0=>?_
    ·obtain⟨_,b1,o1,_,J0,z0,_,_,D0,H0⟩:=RdS.get (c0) (j) (by omega);obtain⟨rfl,_⟩:=id H0;obtain rfl:=Option.some.inj (q0.symm.trans J0);refine qB (S.q.a D0) [.x b1 o1,.f 0 1] Z ⟨Z,⟨z0,by omega⟩,U⟩ (fun Q0=>?_) fun Q0=>?_
     ·refine lV Z ?_;rintro j0 ⟨a0,d0⟩;replace KB:=KB.trans d0;refine lOn 4 a0.k [] Z U (w0a Z ?_);refine lO1 Z (s0a a0 Z1c Z Z (y0b run i j [] GJ.toList _ _ (c0.keep (a0.keep0 [])) (B7a a0 (k:=0) Z)) ?_);rintro D1 q1 o0 U0 X0;replace KB:=KB.trans X0;have s0:=A0a.refl GJ.toList q1;obtain⟨_,_,_,rfl⟩:=o0.form;refine h0a U0 f0b (vs:=[.slice _ _ _]) (cs:=[_]) Z Z Z Z Z Z ?_;intro A1 H1 L0 O0 v1;replace KB:=KB.trans O0;replace s0:=s0.trans (O0.of_nil);have l1:=e8a run run.length;have l2:=g9b R0 (k:=i) (by omega);have l3:=M1c run i j;refine C0a (hll:=(by rw[List.length_append,List.length_append];omega)) V6a (k:=1) (M2:=[]) (e1:=wo run i j) L0 f0b Z (b0.keep V6a KB.of_nil) Z Z (L0.cells 0 Z) ⟨_,Z,by rw[List.append_nil];exact o0.keep s0⟩ Z ?_;intro E1 w1 d1 I1 V0 i0 y1 s1;refine n0a Z ?_;refine lP1 Z ⟨μj-1,by omega,Z,j+1,_,_,_,by omega,by omega,?_,V0.tail,Z⟩;rw[c1b (by omega) (E2b p0 q0 u0),←List.append_assoc];exact i0
     refine lV Z ?_;rintro j0 ⟨a0,d0⟩;replace KB:=KB.trans d0;refine lP1 Z ⟨μj-1,by omega,Z,j+1,_,_,_,by omega,by omega,?_,a0,Z⟩;rw[I8a (V7a p0 q0 (by exact .inr (.inr Q0)))];exact b0.keep V6a KB.of_nil
    refine lV Z ?_;rintro j0 ⟨a0,d0⟩;replace KB:=KB.trans d0;refine lP1 Z ⟨μj-1,by omega,Z,j+1,_,_,_,by omega,by omega,?_,a0,Z⟩;rw[I8a (V7a p0 q0 (by exact .inr (.inl u0)))];exact b0.keep V6a KB.of_nil
   refine lV Z ?_;rintro j0 ⟨a0,d0⟩;replace KB:=KB.trans d0;refine lP1 Z ⟨μj-1,by omega,Z,j+1,_,_,_,by omega,by omega,?_,a0,Z⟩;rw[I8a (V7a p0 q0 (by exact .inl P0))];exact b0.keep V6a KB.of_nil
  refine lP1 Z ?_;refine⟨μi-1,by omega,Z,i+1,_,_,_,by omega,((by rw[J7a,←List.append_assoc];rw[show j=run.length by omega] at b0;exact b0)),S,Z⟩
 refine lOn 7 S.k [] Z U (w0a Z ?_);refine n0a Z ?_;refine lR1 Z (t0a Z ?_);have hl:=Q8b R0;have m0:A1a O3c 1 [] w G f0 v (j7a run):=by rw[show i=run.length by omega] at e0;exact e0
 exact⟨A1a.rd V6a (M:=[]) m0 S (k:=0) Z (fun _ _=>List.not_mem_nil) (by omega),S.fin⟩
theorem A5a{α:Type}{o:Option α}{x:α}(h:o.isSome=true):o=some (o.getD x):=by
 cases o
 ·cases h
 ·rfl
theorem C9a{α:Type}{o:Option α}(h:o.isSome=false):o=none:=by
 cases o
 ·rfl
 ·cases h
theorem B0b(p:g0a)(m:Int)(hm:m=0∨m=1∨m=2)(run:List d0a)(hlen:run.length≤120)(w0:World)(cs:LV)(vr:Value)(hI:InP p [] w0 cs)(e0:z4a [] w0 vr run):
 M0a prog 42 #[.agg cs.toArray,.int .i64 m,vr] w0 fun v w'=>(∃A n c,v=.tuple #[.slice A n c,.bool (E3b p m run).isSome]∧∀d,E3b p m run=some d→z4a [] w' (.slice A n c) d)∧Bw w0 w':=by
 obtain⟨Ac,nc,cc,Am,nm,cm,Al,nl,cl,At,nt,ct,rfl,-⟩:=hI.rd.open_;obtain⟨_,_,_,rfl⟩:=e0.form;obtain⟨_,_⟩:=e0.len;have z0:=Q8b hlen;have S:=St.refl w0;refine a0a func42 Z ntmps42 Z ?_;refine wO1 Z (i0a S Z ?_);intro g3 w3 S3 X3 G3;refine lO1 Z (s0a S3 y2d Z Z (n2b run hlen _ _ (e0.keep (S3.keep0 []))) ?_);rintro A0 r0 hL s0 y0;have KL:=A0a.refl [] r0;obtain⟨Ax,nx,cx,rfl⟩:=hL.form;obtain⟨_,_⟩:=hL.len;refine lC1 Z (wL (fun μi D ε w=>D=[]∧∃i:Nat,(i+μi=((j7a run).length))∧(∀q r,q<i→(j7a run)[q]?=some r→I2a p m r=none)∧(A0a [] r0 w)∧St [] w0 w [(some g3,27,pL Ac nc cc Am nm cm Al nl cl At nt ct)]∧Sl ε [(1,.int .i64 m),(3,.pointer (some ⟨g3,0,none⟩)),(8,.slice Ax nx cx),(9,.int .i64 i)]) (μ:=((j7a run).length)) ⟨Z,0,by omega,(fun q r hq=>absurd hq (by omega)),KL,s0,Z⟩ ?_);rintro μi D ε w ⟨rfl,i,_,i0,KL,S,eZ⟩;refine wK eZ ?_;have o0:=KL;refine wB1 Z (fun t0=>?_) fun t0=>?_
 ·obtain⟨r,_,_,_,n0,_,_,_,g0,m0⟩:=RdS.get (RdS.keepW hL o0 (O3c.keep o0)) i (by omega);obtain⟨_,rfl,q0⟩:=m0;have v0:=U8a (List.mem_of_getElem? n0);obtain⟨_,_,_,rfl⟩:=RdS.form q0;refine lC1 Z (f2c b0a (fun i=>[0,1,2,3,4,5,7,8,9,10,11,12,13].contains i) [0,1,2,3,4,5,6,7,8,9,10,11,12,13] (Cl _ _ _ _) (Cl.start S) ?_);rintro D0 ⟨d0,c0⟩;replace KL:=KL.trans c0;refine t1a ⟨d0,c0⟩ Z Z Z ?_
  first|refine w1a k2a Z (fun w1 hw=>hw.1.cells 0 Z) Z Z ?_
  refine e0a ?_;refine t1a ⟨d0,c0⟩ Z Z Z ?_;refine R0a (hv:=Z) (v:=.int .i64 _) Z ?_;refine e0a ?_;refine t1a ⟨d0,c0⟩ Z Z Z ?_;refine R0a (hv:=Z) (v:=.slice _ _ _) Z ?_;refine e0a ?_;refine t1a ⟨d0,c0⟩ Z Z Z ?_;refine R0a (hv:=Z) (v:=.int .i64 _) Z ?_;refine e0a ?_;refine t1a ⟨d0,c0⟩ Z Z Z ?_;refine q0a f0b.slT Z (by assumption) Z Z ?_;refine e0a ?_;refine t1a ⟨d0,c0⟩ Z Z Z ?_;refine p0a G7a Z (fun w1 hw=>by exact hw.2.cell List.not_mem_nil (g0 0 _ Z)) Z ?_;refine e0a ?_;refine j8a ⟨d0,c0⟩ Z Z Z Z ?_;refine s0a d0 s6b Z Z (k7a p m hm r (by omega) _ _ _ (hI.keep (d0.keep0 [])) (q0.keep c0)) ?_;rintro B0 C0 ⟨_,_,_,rfl,u0⟩ b0 p0;have a0:=c0.trans p0;replace KL:=KL.trans p0;refine D0a ⟨Z,?_⟩;refine t1a ⟨b0,a0⟩ Z Z Z ?_;refine R0a (hv:=Z) (v:=.tuple _) Z ?_;refine e0a ?_;refine t1a ⟨b0,a0⟩ Z Z Z ?_;refine b4a Z Z Z ?_;refine e0a ?_;refine t1a ⟨b0,a0⟩ Z Z Z ?_;refine b4a Z Z Z ?_;refine e0a ?_;refine t1a ⟨b0,a0⟩ Z Z Z ?_;refine b4a Z Z Z ?_;refine e0a ?_;refine t1a ⟨b0,a0⟩ Z Z Z ?_;refine e3a (v:=.slice _ _ _) Z Z ?_;refine e0a ?_;refine t1a ⟨b0,a0⟩ Z Z Z ?_;refine e3a (v:=.bool _) Z Z ?_;refine e0a ?_;refine t1a ⟨b0,a0⟩ Z Z Z ?_;refine e3a (v:=.int .i64 _) Z Z ?_;refine e0a ?_;refine K5a ⟨b0,a0⟩ ?_;refine fOn 3 b0.k [] Z U ?_;cases f0:(I2a p m r).isSome
  ·refine w0a (hv:=Z) (v:=.bool _) Z ?_;refine lP1 Z ⟨μi-1,by omega,Z,i+1,by omega,?_,(KL),b0,Z⟩;intro q r' hq j0;by_cases x0:q=i
   ·subst x0;rw[n0] at j0;cases j0;exact C9a f0
   ·exact i0 q r' (by omega) j0
  refine w0a (hv:=Z) (v:=.bool _) Z ?_;refine lR1 Z (V2b Z ?_);obtain⟨d,hd⟩:=Option.isSome_iff_exists.1 f0;rw[Q3b i0 n0 hd];exact⟨⟨_,_,_,Z,fun d2 h2=>by cases h2;exact u0 d hd⟩,b0.fin⟩
 refine lR1 Z (V2b Z ?_);rw[p9b (fun q r hq=>i0 q r (by omega))];exact⟨⟨_,_,_,Z,fun d h=>by cases h⟩,S.fin⟩
theorem k8b(p:g0a)(m:Int)(hm:m=0∨m=1∨m=2)(run:List d0a)(hlen:run.length≤120)(w0:World)(cs:LV)(vr:Value)(hI:InP p [] w0 cs)(c0:z4a [] w0 vr run):
 M0a prog 11 #[.agg cs.toArray,.int .i64 m,vr] w0 fun v w'=>(∃vl,v=.tuple #[vl,.int .i64 (if(R2a p m run).isSome then 0 else 4)]∧z4a [] w' vl ((R2a p m run).getD []))∧Bw w0 w':=by
 obtain⟨Ac,nc,cc,Am,nm,cm,Al,nl,cl,At,nt,ct,rfl,-⟩:=hI.rd.open_;obtain⟨_,_,_,rfl⟩:=c0.form;obtain⟨_,_⟩:=c0.len;have r0:=N7b (p:=p) (m:=m) run;have S:=St.refl w0;refine a0a func11 Z ntmps11 Z ?_;refine wO1 Z (i0a S Z ?_);intro g3 w3 S3 X3 G3;refine lO S3.k [.w 0] Z ⟨⟨Z,by rfl⟩,U⟩ (s0a S3 s6b Z Z (k7a p m hm run hlen _ _ _ (hI.keep (S3.keep0 [])) (c0.keep (S3.keep0 []))) ?_);rintro s0 p0 ⟨Af,nf,cf,rfl,hF⟩ e0 q0;have KF:=A0a.refl [] p0;refine lB1 Z (fun j0=>by exfalso;omega) fun j0=>?_;refine lB1 Z (fun m0=>by exfalso;omega) fun m0=>?_;refine lOn 9 e0.k [] Z U ?_;cases b0:(I2a p m run).isSome
 ·refine w0a (hv:=Z) (v:=.bool _) Z ?_;refine lR1 Z (V2b Z ?_);rw[show R2a p m run=none by unfold R2a;rw[C9a b0];rfl];exact⟨⟨_,Z,a2a⟩,e0.fin⟩
 refine w0a (hv:=Z) (v:=.bool _) Z ?_;refine lC1 Z (wL (fun μ D ε w=>D=[]∧∃c:List d0a,∃Av:Option Addr,∃nv:Nat,∃cv:Nat,(c.length≤run.length)∧(X2b p m ((I2a p m run).getD []).length ((I2a p m run).getD [])=X2b p m c.length c)∧(c.length=μ)∧(z4a [] w (.slice Av nv cv) c)∧St [] w0 w [(some g3,27,pL Ac nc cc Am nm cm Al nl cl At nt ct)]∧ε 1=.int .i64 m∧ε 3=.pointer (some ⟨g3,0,none⟩)∧ε 8=.slice Av nv cv) (μ:=((I2a p m run).getD []).length) ⟨Z,_,Af,nf,cf,(j4b (A5a b0)).len,Z,Z,(hF _ (A5a b0)).keep KF,e0,Z,Z,Z⟩ ?_);rintro μ D ε w ⟨rfl,c,Av,nv,cv,_,d0,_,g0,S,e1,e3,e8⟩;refine u0a 1 e1 (u0a 3 e3 (u0a 8 e8 ?_));clear e1 e3 e8;refine wO S.k [.w 0] Z ⟨⟨Z,by rfl⟩,U⟩ (s0a S V5c Z Z (B0b p m hm c (by omega) _ _ _ (hI.keep (S.keep0 [])) (g0.keep (A0a.refl [] _))) ?_);rintro t0 u0 ⟨A2,n2,c2,rfl,n0⟩ f0 i0;refine lOn 10 f0.k [] Z U ?_;cases a0:(E3b p m c).isSome
 ·refine w0a (hv:=Z) (v:=.bool _) Z ?_;refine lR1 Z (V2b Z ?_);have o0:R2a p m run=some c:=by
   have h0:=A5a (x:=[]) b0;unfold R2a;rw[h0];show some (X2b p m _ _)=_;rw[d0,v2b (C9a a0)]
  rw[o0];exact⟨⟨_,Z,g0.keep i0⟩,f0.fin⟩
 refine w0a (hv:=Z) (v:=.bool _) Z ?_;refine lP0 Z U ?_;exact⟨((E3b p m c).getD []).length,by have:=F9a (A5a (x:=[]) a0);omega,Z,_,A2,n2,c2,by have:=F9a (A5a (x:=[]) a0);omega,d0.trans (n6b (A5a a0)),Z,n0 _ (A5a a0),f0,Z,Z,Z⟩
theorem v5b(p:g0a)(m:Int)(hm:m=0∨m=1∨m=2)(run:List d0a)(hlen:run.length≤120)(w0:World)(cs:LV)(vr:Value)(hI:InP p [] w0 cs)(a0:z4a [] w0 vr run):
 M0a prog 14 #[.agg cs.toArray,.int .i64 m,vr] w0 fun v w'=>v=.bool (V6b p m run)∧Bw w0 w':=by
 obtain⟨_,_,_,_,_,_,_,_,_,_,_,_,rfl,-⟩:=hI.rd.open_;obtain⟨_,_,_,rfl⟩:=a0.form;obtain⟨_,_⟩:=a0.len;have S:=St.refl w0;refine a0a func14 Z ntmps14 Z ?_;refine wO1 Z (i0a S Z ?_);intro g3 w3 S3 X3 G3;refine lO S3.k [.w 0] Z ⟨⟨Z,by rfl⟩,U⟩ (s0a S3 s6b Z Z (k7a p m hm run hlen _ _ _ (hI.keep (S3.keep0 [])) (a0.keep (S3.keep0 []))) ?_);rintro m0 o0 ⟨_,_,_,rfl,hF⟩ b0 g0;refine lOn 12 b0.k [] Z U ?_;cases c0:(I2a p m run).isSome
 ·refine w0a (hv:=Z) (v:=.bool _) Z ?_;exact lU Z Z ⟨cB (f6c (L7a.1 (C9a c0))).symm,b0.fin⟩
 refine w0a (hv:=Z) (v:=.bool _) Z ?_;obtain⟨d,hd⟩:=Option.isSome_iff_exists.1 c0;have j0:=((hF d hd).len).1;refine lB1 Z (fun e0=>?_) fun e0=>?_
 ·exact lU Z Z ⟨cB (X0c hd).symm,b0.fin⟩
 refine lO b0.k [.w 0] Z ⟨⟨Z,by rfl⟩,U⟩ (s0a b0 V5c Z Z (B0b p m hm run hlen _ _ _ (hI.keep (b0.keep0 [])) (a0.keep (b0.keep0 []))) ?_);rintro n0 p0 ⟨_,_,_,rfl,_⟩ d0 i0;refine lU Z Z ⟨cB ?_,d0.fin⟩;have f0:I2a p m run=some run:=by rw[hd,W8b hd]
 unfold V6b;rw[f0];cases E3b p m run<;>simp
theorem p3d(p:g0a)(m:Int)(run:List d0a):∃(er:Int) (l:List d0a) (b:Bool),∀(w0:World) (cs:LV) (vr:Value),NmP p [] w0 cs→z4a [] w0 vr run →
 M0a prog 10 #[.agg cs.toArray,.int .i64 m,vr] w0 (fun v w'=>(∃A n c,v=.tuple #[.slice A n c,.int .i64 er]∧z4a [] w' (.slice A n c) l)∧Bw w0 w') ∧
 M0a prog 11 #[.agg cs.toArray,.int .i64 m,vr] w0 (fun v w'=>(∃A n c,v=.tuple #[.slice A n c,.int .i64 er]∧z4a [] w' (.slice A n c) l)∧Bw w0 w') ∧
 M0a prog 13 #[.agg cs.toArray,.int .i64 m,vr] w0 (fun v w'=>v=.bool b∧Bw w0 w') ∧
 M0a prog 14 #[.agg cs.toArray,.int .i64 m,vr] w0 (fun v w'=>v=.bool b∧Bw w0 w'):=by
 rcases V1d p m run.length with⟨er,a0⟩|⟨hp,hm,hl⟩
 ·refine⟨er,[],false,fun w0 cs vr hI hR=>?_⟩;obtain⟨A,n,c,rfl⟩:=hR.form;rw[←hR.len.1] at a0;exact⟨(p0b p m er [] w0 cs A n c a0 hI).mono fun v w' ⟨hv,hb⟩=>⟨⟨none,0,0,hv,a2a⟩,hb⟩,
   (E5b p m er [] w0 cs A n c a0 hI).mono fun v w' ⟨hv,hb⟩=>⟨⟨none,0,0,hv,a2a⟩,hb⟩,
   d7b p m er [] w0 cs A n c a0 hI,W4b p m er [] w0 cs A n c a0 hI⟩
 ·refine⟨if(R2a p m run).isSome then 0 else 4,(R2a p m run).getD [],V6b p m run,fun w0 cs vr hI hR=>?_⟩;have b0:InP p [] w0 cs:=⟨hI.rd,hp,hI.msk,hI.lt⟩;exact⟨(W1b p m hm run hl [] w0 cs vr b0 hR).mono fun v w' ⟨⟨vl,hv,hr⟩,hb⟩=>by
   obtain⟨A,n,c,rfl⟩:=RdS.form hr;exact⟨⟨A,n,c,hv,hr⟩,hb⟩,
   (k8b p m hm run hl w0 cs vr b0 hR).mono fun v w' ⟨⟨vl,hv,hr⟩,hb⟩=>by
     obtain⟨A,n,c,rfl⟩:=RdS.form hr;exact⟨⟨A,n,c,hv,hr⟩,hb⟩,
   d8a (hlen:=hl) p m hm run [] w0 cs vr b0 hR,v5b p m hm run hl w0 cs vr b0 hR⟩
theorem S5a(p:g0a)(m:Int)(run:List d0a)(w0:World)(cs:LV)(vr:Value)(hP:C1a [] w0 p cs)(hN:j9a p)(e0:z4a [] w0 vr run)(hK:H3a [] w0):
 M0a prog 3 #[.agg cs.toArray,.int .i64 m,vr] w0 fun v w'=>v=.bool true∧Bw w0 w':=by
 obtain⟨_,_,_,_,_,_,_,_,_,_,_,_,rfl,-⟩:=hP.open_;obtain⟨_,_,_,rfl⟩:=e0.form;obtain⟨_,_⟩:=e0.len;obtain⟨_,l,_,i0⟩:=p3d p m run;have hI:NmP p [] w0 _:=⟨hP,hN,hK,by simp⟩;have S:=St.refl w0;refine a0a func3 Z ntmps3 Z ?_;refine wO1 Z (i0a S Z ?_);intro g3 w3 S3 X3 G3;refine lO1 Z (y0a S3 Y2d Z Z (o3c _ (hK.keep (S3.keep0 []))) ?_);intro N0 s0 K0;refine lO s0.k [.w 0] Z ⟨⟨Z,by rfl⟩,U⟩ (X7c s0 h3d Z Z (g0c p [] _ _ (hP.keep (s0.keep0 []))) (fun L0 F0 m0 z0=>?_) (fun F0 m0 z0=>?_))
 ·refine lB1 Z (fun B0=>?_) fun B0=>?_
  ·refine lB1 Z (fun C0=>?_) fun C0=>?_
   ·exact lU Z Z ⟨Z,m0.fin⟩
   refine lO m0.k [.w 0] Z ⟨⟨Z,by rfl⟩,U⟩ (s0a m0 G1b Z Z ((i0 _ _ _ (hI.keep (m0.keep0 [])) (e0.keep (m0.keep0 []))).1) ?_);rintro D0 x0 ⟨A1,n1,c1,rfl,hA⟩ o0 A0;have KA:=A0a.refl [] x0;refine lO o0.k [.w 0] Z ⟨⟨Z,by rfl⟩,U⟩ (s0a o0 k6c Z Z ((i0 _ _ _ (hI.keep (o0.keep0 [])) (e0.keep (o0.keep0 []))).2.1) ?_);rintro E0 y0 ⟨A2,n2,c2,rfl,hB⟩ t0 u0;replace KA:=KA.trans u0;have KB:=A0a.refl [] y0;refine lC1 Z (f2c b0a (fun i=>[0,1,2,3,4,5,7,8,9,10,11,13,14,15,17,18,19].contains i) [0,1,2,3,4,5,6,7,8,9,10,11,12,13,14,15,16,17,18,19] (Cl _ _ _ _) (Cl.start t0) ?_);rintro J0 ⟨g0,d0⟩;replace KA:=KA.trans d0;replace KB:=KB.trans d0;refine t1a ⟨g0,d0⟩ Z Z Z ?_;refine R0a (hv:=Z) (v:=.int .i64 _) Z ?_;refine e0a ?_;refine t1a ⟨g0,d0⟩ Z Z Z ?_;refine R0a (hv:=Z) (v:=.int .i64 _) Z ?_;refine e0a ?_;refine t1a ⟨g0,d0⟩ Z Z Z ?_;refine j2d Z Z Z (fun v0=>?_) fun v0=>?_
   ·refine e0a ?_;refine t1a ⟨g0,d0⟩ Z Z Z ?_;refine R0a (hv:=Z) (v:=.bool _) Z ?_;refine e0a ?_;refine t1a ⟨g0,d0⟩ Z Z Z ?_;refine Q3a Z Z ?_;refine R0a (hv:=Z) (v:=.slice _ _ _) Z ?_;refine e0a ?_;refine t1a ⟨g0,d0⟩ Z Z Z ?_;refine Q3a Z Z ?_;refine R0a (hv:=Z) (v:=.slice _ _ _) Z ?_;refine e0a ?_;refine j8a ⟨g0,d0⟩ Z Z Z Z ?_;refine s8a Z Z Z ?_;refine y0a g0 n9b Z Z (Y3a (x9a l l [] _ _ _ (RdS.keepW hA KA (fun _ _ h=>h)) (RdS.keepW hB KB (fun _ _ h=>h))) (decide_eq_true Z)) ?_;intro G0 f0 p0;have a0:=d0.trans p0;replace KA:=KA.trans p0;replace KB:=KB.trans p0;refine D0a ⟨Z,?_⟩;refine t1a ⟨f0,a0⟩ Z Z Z ?_;refine z9b Z (v:=.bool _) Z Z ?_;refine e0a ?_;refine t1a ⟨f0,a0⟩ Z Z Z ?_;refine R0a (hv:=Z) (v:=.bool _) Z ?_;refine e0a ?_;refine t1a ⟨f0,a0⟩ Z Z Z ?_;refine Q3a Z Z ?_
    first|refine w1a k2a Z (fun w1 hw=>hw.1.cells 0 Z) Z Z ?_
    refine e0a ?_;refine t1a ⟨f0,a0⟩ Z Z Z ?_;refine Q3a Z Z ?_;refine R0a (hv:=Z) (v:=.int .i64 _) Z ?_;refine e0a ?_;refine t1a ⟨f0,a0⟩ Z Z Z ?_;refine Q3a Z Z ?_;refine R0a (hv:=Z) (v:=.slice _ _ _) Z ?_;refine e0a ?_;refine j8a ⟨f0,a0⟩ Z Z Z Z ?_;refine s8a Z Z Z ?_;refine y0a f0 C6b Z Z ((i0 _ _ _ (hI.keep (f0.keep0 [])) (e0.keep (f0.keep0 []))).2.2.1) ?_;intro H0 j0 q0;have b0:=a0.trans q0;replace KA:=KA.trans q0;replace KB:=KB.trans q0;refine D0a ⟨Z,?_⟩;refine t1a ⟨j0,b0⟩ Z Z Z ?_;refine Q3a Z Z ?_
    first|refine w1a k2a Z (fun w1 hw=>hw.1.cells 0 Z) Z Z ?_
    refine e0a ?_;refine t1a ⟨j0,b0⟩ Z Z Z ?_;refine Q3a Z Z ?_;refine R0a (hv:=Z) (v:=.int .i64 _) Z ?_;refine e0a ?_;refine t1a ⟨j0,b0⟩ Z Z Z ?_;refine Q3a Z Z ?_;refine R0a (hv:=Z) (v:=.slice _ _ _) Z ?_;refine e0a ?_;refine j8a ⟨j0,b0⟩ Z Z Z Z ?_;refine s8a Z Z Z ?_;refine y0a j0 n6c Z Z ((i0 _ _ _ (hI.keep (j0.keep0 [])) (e0.keep (j0.keep0 []))).2.2.2) ?_;intro I0 n0 r0;have c0:=b0.trans r0;replace KA:=KA.trans r0;replace KB:=KB.trans r0;refine D0a ⟨Z,?_⟩;refine t1a ⟨n0,c0⟩ Z Z Z ?_;refine Q3a Z Z ?_;refine g6c Tryz.underlying4 Z Z Z ?_;refine e0a ?_;refine t1a ⟨n0,c0⟩ Z Z Z ?_;refine z9b Z (v:=.bool _) Z Z ?_;refine e0a ?_;refine t1a ⟨n0,c0⟩ Z Z Z ?_;refine e3a (v:=.bool _) Z Z ?_;refine e0a ?_;refine K5a ⟨n0,c0⟩ ?_;refine fR0 Z U (t0a Z ?_);exact⟨cB (by simp),n0.fin⟩
   exfalso;omega
  refine lO m0.k [.w 0] Z ⟨⟨Z,by rfl⟩,U⟩ (s0a m0 G1b Z Z ((i0 _ _ _ (hI.keep (m0.keep0 [])) (e0.keep (m0.keep0 []))).1) ?_);rintro D0 x0 ⟨A1,n1,c1,rfl,hA⟩ o0 A0;have KA:=A0a.refl [] x0;refine lO o0.k [.w 0] Z ⟨⟨Z,by rfl⟩,U⟩ (s0a o0 k6c Z Z ((i0 _ _ _ (hI.keep (o0.keep0 [])) (e0.keep (o0.keep0 []))).2.1) ?_);rintro E0 y0 ⟨A2,n2,c2,rfl,hB⟩ t0 u0;replace KA:=KA.trans u0;have KB:=A0a.refl [] y0;refine lC1 Z (f2c b0a (fun i=>[0,1,2,3,4,5,7,8,9,10,11,13,14,15,17,18,19].contains i) [0,1,2,3,4,5,6,7,8,9,10,11,12,13,14,15,16,17,18,19] (Cl _ _ _ _) (Cl.start t0) ?_);rintro J0 ⟨g0,d0⟩;replace KA:=KA.trans d0;replace KB:=KB.trans d0;refine t1a ⟨g0,d0⟩ Z Z Z ?_;refine R0a (hv:=Z) (v:=.int .i64 _) Z ?_;refine e0a ?_;refine t1a ⟨g0,d0⟩ Z Z Z ?_;refine R0a (hv:=Z) (v:=.int .i64 _) Z ?_;refine e0a ?_;refine t1a ⟨g0,d0⟩ Z Z Z ?_;refine j2d Z Z Z (fun v0=>?_) fun v0=>?_
  ·refine e0a ?_;refine t1a ⟨g0,d0⟩ Z Z Z ?_;refine R0a (hv:=Z) (v:=.bool _) Z ?_;refine e0a ?_;refine t1a ⟨g0,d0⟩ Z Z Z ?_;refine Q3a Z Z ?_;refine R0a (hv:=Z) (v:=.slice _ _ _) Z ?_;refine e0a ?_;refine t1a ⟨g0,d0⟩ Z Z Z ?_;refine Q3a Z Z ?_;refine R0a (hv:=Z) (v:=.slice _ _ _) Z ?_;refine e0a ?_;refine j8a ⟨g0,d0⟩ Z Z Z Z ?_;refine s8a Z Z Z ?_;refine y0a g0 n9b Z Z (Y3a (x9a l l [] _ _ _ (RdS.keepW hA KA (fun _ _ h=>h)) (RdS.keepW hB KB (fun _ _ h=>h))) (decide_eq_true Z)) ?_;intro G0 f0 p0;have a0:=d0.trans p0;refine D0a ⟨Z,?_⟩;refine t1a ⟨f0,a0⟩ Z Z Z ?_;refine z9b Z (v:=.bool _) Z Z ?_;refine e0a ?_;refine t1a ⟨f0,a0⟩ Z Z Z ?_;refine R0a (hv:=Z) (v:=.bool _) Z ?_;refine e0a ?_;refine t1a ⟨f0,a0⟩ Z Z Z ?_;refine Q3a Z Z ?_
   first|refine w1a k2a Z (fun w1 hw=>hw.1.cells 0 Z) Z Z ?_
   refine e0a ?_;refine t1a ⟨f0,a0⟩ Z Z Z ?_;refine Q3a Z Z ?_;refine R0a (hv:=Z) (v:=.int .i64 _) Z ?_;refine e0a ?_;refine t1a ⟨f0,a0⟩ Z Z Z ?_;refine Q3a Z Z ?_;refine R0a (hv:=Z) (v:=.slice _ _ _) Z ?_;refine e0a ?_;refine j8a ⟨f0,a0⟩ Z Z Z Z ?_;refine s8a Z Z Z ?_;refine y0a f0 C6b Z Z ((i0 _ _ _ (hI.keep (f0.keep0 [])) (e0.keep (f0.keep0 []))).2.2.1) ?_;intro H0 j0 q0;have b0:=a0.trans q0;refine D0a ⟨Z,?_⟩;refine t1a ⟨j0,b0⟩ Z Z Z ?_;refine Q3a Z Z ?_
   first|refine w1a k2a Z (fun w1 hw=>hw.1.cells 0 Z) Z Z ?_
   refine e0a ?_;refine t1a ⟨j0,b0⟩ Z Z Z ?_;refine Q3a Z Z ?_;refine R0a (hv:=Z) (v:=.int .i64 _) Z ?_;refine e0a ?_;refine t1a ⟨j0,b0⟩ Z Z Z ?_;refine Q3a Z Z ?_;refine R0a (hv:=Z) (v:=.slice _ _ _) Z ?_;refine e0a ?_;refine j8a ⟨j0,b0⟩ Z Z Z Z ?_;refine s8a Z Z Z ?_;refine y0a j0 n6c Z Z ((i0 _ _ _ (hI.keep (j0.keep0 [])) (e0.keep (j0.keep0 []))).2.2.2) ?_;intro I0 n0 r0;have c0:=b0.trans r0;refine D0a ⟨Z,?_⟩;refine t1a ⟨n0,c0⟩ Z Z Z ?_;refine Q3a Z Z ?_;refine g6c Tryz.underlying4 Z Z Z ?_;refine e0a ?_;refine t1a ⟨n0,c0⟩ Z Z Z ?_;refine z9b Z (v:=.bool _) Z Z ?_;refine e0a ?_;refine t1a ⟨n0,c0⟩ Z Z Z ?_;refine e3a (v:=.bool _) Z Z ?_;refine e0a ?_;refine K5a ⟨n0,c0⟩ ?_;refine fR0 Z U (t0a Z ?_);exact⟨cB (by simp),n0.fin⟩
  exfalso;omega
 exact lU Z Z ⟨Z,m0.fin⟩
end Go.Fw
