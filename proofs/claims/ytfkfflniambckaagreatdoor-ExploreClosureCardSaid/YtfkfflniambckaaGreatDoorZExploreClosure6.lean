/-
  Part 6 of 9 of the proof of ExploreClosure: what it leans on. No conditions.
-/
import Derived.Test.YtfkfflniambckaaGreatDoorZExploreClosure5
import Derived.Laws.Cover3
set_option maxRecDepth 100000
set_option maxHeartbeats 4000000
namespace Go.Proofs.YtfkfflniambckaaGreatDoor
end Go.Proofs.YtfkfflniambckaaGreatDoor
namespace Go.Fw
open Go.Proofs.YtfkfflniambckaaGreatDoor Go.Proofs Go.RowKit
theorem d3a.rdI2{M':List Nat}{w0 w:World}{L:List Ent}{k:Nat}{G:Option Nat}{el n:Nat}{cs:List Value}{v:Value}{M:List Nat}{l:List Int}(hR:d3a G 1 n cs v (l.map (Value.int .i64)))(S:St M' w0 w L)(hk:L[k]?=some (G,el,cs))
 (hM:∀g,G=some g→g∉M) (hl:∀x∈l,i64 x) (a0:l.length≤140737488355328):RdI M w v l:=by
 have hn:n=l.length:=by have:=hR.1;simp at this;omega
 subst hn;refine hR.rd S hk hM rfl a0 (fun i x hi=>?_);have b0:i<l.length:=(List.getElem?_eq_some_iff.1 hi).1;have hx:l[i]=x:=(List.getElem?_eq_some_iff.1 hi).2;have e1:((l.map (Value.int .i64)).drop (i*1)).take 1=[.int .i64 x]:=by
  rw[Nat.mul_one,List.drop_eq_getElem_cons (by simpa using b0)];simp[hx]
 rw[e1];exact⟨rfl,rfl,hl x (List.mem_of_getElem? hi)⟩
theorem B1a.rdG2{α:Type}{R:List Nat→World→List Value→α→Prop}{size:Nat}{M M':List Nat}{w0 w:World}{L:List Ent}{k el:Nat}{G:Option Nat}{cs:List Value}{v:Value}{l:List α}(h:B1a R size M w G cs v l)(S:St M' w0 w L)(hk:L[k]?=some (G,el,cs))(hM:∀g,G=some g→g∉M)(hl:l.length≤1000000):RdS M w size (R (G.toList++M) w) v l:=by
 obtain⟨css,h1,h2,⟨_,hr⟩,h4⟩:=h;rcases hr with⟨rfl,rfl,h0⟩|⟨g,b0,rfl,rfl,q1,q2,q3,q4⟩
 ·exact⟨none,0,0,rfl,by omega,by omega,by unfold maxLen;omega,by omega,fun h=>absurd h (by omega)⟩
 ·refine⟨_,_,_,rfl,rfl,q1,q2,by omega,fun _=>⟨g,0,rfl,hM g rfl,fun i x hi=>?_⟩⟩;obtain⟨c,h5,h6⟩:=h4 i x hi;refine⟨c,h2 c (List.mem_of_getElem? h5),fun j u hj=>?_,h6⟩;have hf:=z0c css i c h2 h5 j u hj;have a0:i*size+j<l.length*size:=by
   have:=(List.getElem?_eq_some_iff.1 hf).1;rw[u3a css h2,h1] at this;exact this
  rw[←q4,List.getElem?_take,if_pos a0] at hf;have:=S.cell k hk hf;simpa using this
theorem v1b{α:Type}{b:List α}{i j:Nat}{x:α}(hx:b[j]?=some x)(a0:j≠i):(b.take (j+1)).eraseIdx i=(b.take j).eraseIdx i++[x]:=by
 have hl:=(List.getElem?_eq_some_iff.1 hx).1;rw[H0a hx];rcases Nat.lt_or_ge i j with h|h
 ·rw[List.eraseIdx_append_of_lt_length (by rw[List.length_take];omega)]
 ·rw[List.eraseIdx_of_length_le (by simp;omega),List.eraseIdx_of_length_le (by rw[List.length_take];omega)]
theorem E8b{α:Type}{b:List α}{j:Nat}{x:α}(hx:b[j]?=some x):(b.take (j+1)).eraseIdx j=(b.take j).eraseIdx j:=by
 have hl:=(List.getElem?_eq_some_iff.1 hx).1;rw[H0a hx,List.eraseIdx_append_of_length_le (by rw[List.length_take];omega),List.length_take,show j-min j b.length=0 by omega,List.eraseIdx_of_length_le (l:=b.take j) (by rw[List.length_take];omega)];simp
theorem h3c(p:f0a)(hp:d1a p)(c:q0a)(M:List Nat)(w0:World)(hM:∀g∈M,g<w0.heap.size)(xs:List Value)(hX:t0a M w0 c xs)(hf:c3a p c):
 M0a Tryz.prog 43 #[.agg xs.toArray] w0 fun v w'=>(∃Am nm cm Aa na ca gb vs,v=.agg #[.slice Am nm cm,.slice Aa na ca,.slice (some ⟨gb,0,none⟩) c.buf.length c.buf.length]∧p0a w' (gb,86,vs)∧w0.heap.size≤gb∧vs.length=c.buf.length ∧
  RdI (gb::M) w' (.slice Am nm cm) c.mem∧RdI (gb::M) w' (.slice Aa na ca) c.at_∧∀(k:Nat) (b:List E0a),c.buf[k]?=some b→∃u,vs[k]?=some u∧j7c (gb::M) w' u b)∧Below w0.heap.size w0 w' :=
 (C4b p hp c M w0 hM xs hX hf).mono fun v w' ⟨⟨Gm,Ga,g0,f0,vm,va,gb,b0,vs,hv,Rm,Ra,S,hR⟩,hB⟩=>by
   obtain⟨Am,nm,cm,rfl⟩:=Rm.form;obtain⟨Aa,na,ca,rfl⟩:=Ra.form;have f1:=hf.mem.len;have f2:=hf.nat;have n1:=hp.ncells;have n2:=hp.nthreads;have a0:∀b∈c.buf,b.length≤1000:=fun b hb=>by
    obtain⟨k,hk,rfl⟩:=List.getElem_of_mem hb;have:=(hf.bufs k _ (List.getElem?_eq_getElem hk)).1;omega
   have e0:gb∉V5a b0:=fun hh=>by
    obtain⟨x,hx,hg⟩:=r2a.1 hh;have h1:=S.apart;rw[List.pairwise_append] at h1;exact h1.2.2 (some gb,86,vs) (by simp) x hx gb rfl hg
   have d0:=S.apartM (A:=[_,_,_]) hM;refine⟨⟨Am,nm,cm,Aa,na,ca,gb,vs,hv,S.blk 0 rfl,by simpa using S.new 0 rfl,hR.2.1,?_,?_,hR.rd (A:=[_,_,_]) S (Mx:=gb::M) (fun g hg=>by simp at hg ⊢;grind) (fun g hg=>?_) a0⟩,hB⟩
   ·refine Rm.rdI2 S (k:=2) rfl (fun g hg hh=>?_) (X2a hp hf.mem) (by omega);subst hg;rcases List.mem_cons.1 hh with rfl|hh
    ·exact S.ne 0 2 rfl rfl (by decide) rfl
    ·rcases S.new 2 rfl with h|h
     ·have:=hM g hh;omega
     ·cases h
   ·refine Ra.rdI2 S (k:=1) rfl (fun g hg hh=>?_) (W5a hp hf) (by omega);subst hg;rcases List.mem_cons.1 hh with rfl|hh
    ·exact S.ne 0 1 rfl rfl (by decide) rfl
    ·rcases S.new 1 rfl with h|h
     ·have:=hM g hh;omega
     ·cases h
   ·rcases List.mem_cons.1 hg with rfl|hg
    ·exact e0
    ·exact d0 g hg
theorem k6b(p:f0a)(hp:d1a p)(c:q0a)(t i:Nat)(cell:Int)(b:List E0a)(M:List Nat)(w0:World)(hM:∀g∈M,g<w0.heap.size)(xs:List Value)(hX:t0a M w0 c xs)(hf:c3a p c)(S0:c.buf[t]?=some b)(w2:b.findIdx? (fun e=>e.cells.getD 0 0=cell)=some i):
 M0a Tryz.prog 42 #[.agg xs.toArray,.int .i64 t,.int .i64 cell] w0 fun v w'=>(∃ys,v=.agg ys.toArray∧t0a M w' (g4a c t i) ys)∧Below w0.heap.size w0 w':=by
 obtain⟨Xm,xm,ym,Xa,xa,ya,Xb,xb,yb,rfl,_,_,_,_,_,_,_,_,_⟩:=id hX.open_;have S:=(St.refl w0).nilEnt 88;have f1:=hf.mem.len;have n1:=hp.ncells;have n2:=hp.nthreads;have f3:=hf.nbuf;have ht:=u1a S0;have N1:=hf.bufs t b S0;have O1:=u8a hf t i;obtain⟨hi,u2,v2⟩:=List.findIdx?_eq_some_iff_getElem.1 w2;obtain⟨en,n0⟩:∃en,b[i]?=some en:=⟨b[i],List.getElem?_eq_getElem hi⟩;have q1:=N1.2.1 en (c0a n0);have q2:=q1.i64s;have r2:g4a c t i=⟨f2a c.mem en,c.at_,c.buf.set t (b.eraseIdx i)⟩:=by unfold g4a;rw[getD_some S0,getD_some n0]
 rw[r2] at O1 ⊢;refine a0a Tryz.func42 rfl Tryz.ntmps42 rfl ?_;refine wO0 rfl ⟨⟩ (h0a S (by conv=>lhs;whnf) rfl ?_);intro g3 w3 S3 X3 G3;refine m0a S3 Q3a rfl rfl ?_;intro g6 w6 S6 X6 G6;refine lO S6.k [.w 1] rfl ⟨⟨rfl,rfl⟩,⟨⟩⟩ ?_;have X1:∀g∈g6::M,g<w6.heap.size:=fun g hg=>by
  rcases List.mem_cons.1 hg with rfl|hg
  ·exact S6.lt 0 rfl
  ·have:=hM g hg;have:=S6.size;omega
 have p1:t0a (g6::M) w6 c _:=(hX.more (fun g hg=>by rcases List.mem_cons.1 hg with rfl|hg;exact .inr (by simpa using S6.new 0 rfl);exact .inl hg)).keep (S6.keep0 _);refine c2a Y4c rfl rfl (h3c p hp c (g6::M) _ X1 _ p1 hf) ?_;rintro N2 e0 ⟨⟨Am,nm,cm,Aa,na,ca,gb,vs,rfl,t2,j2,_,y1,r1,Q0⟩,U1⟩;have V0:=(S6.later U1).push_new S6 t2 j2;have t0:=y0a.refl [] e0;refine m0a V0 Q3a rfl rfl ?_;intro g7 w7 S7 X7 G7;have f0:=Nat.le_trans t0.size G7;replace t0:=t0.trans X7;refine e0a (kk:=0) (vs:=[_,_,_]) S7 e2a rfl rfl rfl rfl rfl rfl rfl ?_;intro G2 u0 Y0;dsimp only[k0a,List.set] at u0;replace t0:=t0.fresh Y0 (by first|exact f0);refine lCn 3 u0.k [] rfl ⟨⟩ ?_;have hN:∀x∈gb::g7::g6::M,x∈gb::g6::M∨e0.heap.size≤x:=fun x hx=>by
  simp only[List.mem_cons] at hx ⊢;rcases hx with rfl|rfl|rfl|hx
  ·simp
  ·exact .inr f0
  ·simp
  ·simp[hx]
 have hm:RdI (gb::g7::g6::M) e0 (.slice Am nm cm) c.mem:=RdS.more y1 (by omega) hN;have o2:RdS [] e0 1 (F3a (gb::g7::g6::M) e0) (.slice (some ⟨gb,0,none⟩) c.buf.length c.buf.length) c.buf:=V0.rd1 (k:=0) rfl (by simp) rfl (by omega) (fun k u hk=>by
  obtain⟨v,h1,h2⟩:=Q0 k u hk;exact⟨v,h1,v,rfl,RdS.moreW h2 (by omega) hN (I0a.more hN)⟩)
 refine wC0 rfl ⟨⟩ ?_;refine wL (fun μj D ε w=>D=[]∧∃j:Nat,∃z0:Option Addr,∃C0:Nat,∃A0:Nat,∃G:Option Nat,∃Z0:List Value,∃v:Value,∃d:Bool,(j+μj=(b.length))∧(y0a [] e0 w)∧(∀g∈G.toList,e0.heap.size≤g)∧(RdI (G.toList++(gb::g7::g6::M)) w (.slice z0 C0 A0) (if i<j then f2a c.mem en else c.mem))∧(B1a I0a 2 (gb::g7::g6::M) w G Z0 v ((b.take j).eraseIdx i))∧(d=decide (i<j))∧St [] w0 w [(some g7,38,[.slice z0 C0 A0,.slice Aa na ca,.slice (some ⟨gb,0,none⟩) c.buf.length c.buf.length]),(some gb,86,vs),(some g6,38,[.slice none 0 0,.slice none 0 0,.slice none 0 0]),(some g3,38,[.slice Xm xm ym,.slice Xa xa ya,.slice Xb xb yb]),(G,88,Z0)]∧Sl ε [(1,.int .i64 t),(2,.int .i64 cell),(6,.pointer (some ⟨g6,0,none⟩)),(7,.pointer (some ⟨g7,0,none⟩)),(8,v),(9,.bool d),(10,.int .i64 j)]) (μ:=(b.length)) ⟨rfl,0,Am,nm,cm,none,[],.slice none 0 0,false,by omega,t0,(by simp),(by rw[if_neg (by omega)];exact hm.keep t0.of_nil),(by simpa using B1a.nil),(by simp),u0,rfl⟩ ?_;rintro μj D ε w ⟨rfl,j,z0,C0,A0,G,Z0,v,d,_,hK,hG,B0,i0,hd,S,eZ⟩;refine wK eZ ?_;have KL:=hK;have KW:=y0a.refl [] w;have M1:RdS [] w 1 (F3a (gb::g7::g6::M) e0) (.slice (some ⟨gb,0,none⟩) c.buf.length c.buf.length) c.buf:=RdS.keepW o2 hK (fun _ _ h=>h);obtain⟨_,b2,B2,_,D1,d1,_,_,s1,A1⟩:=RdS.get (M1) (t) (by omega);obtain rfl:=Option.some.inj (S0.symm.trans D1);obtain⟨_,_,_,rfl,_,_,_⟩:=F3a.open_ A1;refine wB (S.k.b s1) [.o 0,.x b2 B2,.f 0 0] rfl ⟨rfl,⟨d1,by omega⟩,rfl,⟨⟩⟩ (fun m2=>?_) fun m2=>?_
 ·obtain⟨_,d2,C2,_,E1,g1,_,_,t1,B1⟩:=RdS.get (M1) (t) (by omega);obtain rfl:=Option.some.inj (S0.symm.trans E1);obtain⟨_,_,_,rfl,N0,_,_⟩:=F3a.open_ B1;obtain⟨xe,f2,D2,_,d0,i1,_,x1,u1,j0⟩:=RdS.get ((RdS.keepW N0 KL.of_nil (fun _ _ h=>h))) (j) (by omega);obtain⟨_,_,_,_,_,_,rfl,O0,_,_,_,_,_⟩:=I0a.open_ j0;refine lO ((S.k.b u1).b t1) [.o 0,.x d2 C2,.f 0 0,.x f2 D2,.v 1] rfl ⟨⟨rfl,x1⟩,⟨i1,by omega⟩,rfl,⟨g1,by omega⟩,rfl,⟨⟩⟩ (m0a S W7a rfl rfl ?_);intro K2 O2 Y1 J1 I1;have E0:=Nat.le_trans KL.size I1;have F0:=Nat.le_trans KW.size I1;replace KL:=KL.trans J1;replace KW:=KW.trans J1;refine e0a (kk:=0) (vs:=[_,_]) Y1 y9a rfl rfl rfl rfl rfl rfl rfl ?_;intro y0 a0 L0;dsimp only[k0a,List.set] at a0;replace KL:=KL.fresh L0 (by exact E0);replace KW:=KW.fresh L0 (by exact F0);refine lOn 4 a0.k [] rfl ⟨⟩ ?_;cases g0:d
  ·refine Z0a (v:=.bool _) rfl rfl ?_;have q5:=N1.2.1 xe (c0a d0);have y2:0<xe.cells.length:=List.length_pos_iff.2 q5.some_;obtain⟨_,g2,E2,_,T0,j1,_,_,v1,C1⟩:=RdS.get ((O0.keep KL.of_nil)) (0) (by omega);obtain⟨rfl,_⟩:=id C1;refine lB (a0.k.b v1) [.o 0,.x g2 E2,.f 0 0] rfl ⟨rfl,⟨j1,by omega⟩,rfl,⟨⟩⟩ (fun b1=>?_) fun b1=>?_
   ·refine lO a0.k [.o 1,.w 0] rfl ⟨⟨rfl,rfl⟩,rfl,⟨⟩⟩ ?_;have L2:¬i<j:=by rw[g0] at hd;exact of_decide_eq_false hd.symm
    have Q1:j=i:=by
     rcases Nat.lt_or_ge j i with h|h
     ·refine absurd ?_ (v2 j h);rw[show b[j]=xe from(List.getElem?_eq_some_iff.1 d0).2,List.getD_eq_getElem?_getD,T0];exact decide_eq_true b1
     ·omega
    have s2:xe=en:=by subst Q1;exact Option.some.inj (d0.symm.trans n0)
    have p2:∀x∈G.toList++(gb::g7::g6::M),x<y0.heap.size:=fun x hx=>by
     have:=a0.size;rcases List.mem_append.1 hx with h|h
     ·exact a7a a0 (k:=5) rfl x h
     ·simp only[List.mem_cons] at h;rcases h with rfl|rfl|rfl|h
      ·exact a0.lt 2 rfl
      ·exact a0.lt 1 rfl
      ·exact a0.lt 3 rfl
      ·have:=hM x h;omega
    have m1:RdI (gb::g7::g6::M) y0 (.slice z0 C0 A0) c.mem:=by
     rw[if_neg (by omega)] at B0;exact(RdS.less B0 (fun x hx=>List.mem_append_right _ hx)).keep KW.of_nil
    refine c2a E4c rfl rfl (L6b c.mem en (gb::g7::g6::M) _ _ _ m1 (s2▸I0a.keep KL.of_nil _ _ j0) (by omega) q1.even (fun x hx=>by have:=q2 x hx;omega)) ?_;rintro F2 G1 ⟨o1,U0⟩;have K1:y0a [] y0 G1:=y0a.of_below U0;have Z1:=a0.later U0;have W1:=KW.trans K1;replace KL:=KL.trans K1;have KQ:=y0a.refl [g7] G1;have q0:RdI (G.toList++(gb::g7::g6::M)) G1 F2 (f2a c.mem en):=o1.rd p2 (X2a hp O1.mem) U0 (by simp;omega);obtain⟨_,_,_,rfl⟩:=q0.form;have P0:=hG;obtain⟨vn,A2⟩:∃x,x=v:=⟨_,rfl⟩;subst A2;have x0:true=decide (i<j+1):=by simp;omega
    have h0:(if i<j+1 then f2a c.mem en else c.mem)=f2a c.mem en:=if_pos (by omega);refine lO0 rfl ⟨⟩ (B0a (kk:=1) Z1 W0b rfl (by conv=>lhs;whnf) rfl rfl (by exact Nat.le_of_ble_eq_true rfl) ?_);intro I2 X0 v0;replace KL:=KL.fresh v0 (by exact f0);replace KQ:=KQ.fresh2 v0 (by exact .inr (by simp));replace q0:=q0.keep (v0.mono (by simp));refine lP0 rfl ⟨by omega,⟨⟩⟩ ?_;refine⟨μj-1,by omega,rfl,(j+1),(_),(_),(_),(_),(_),(vn),(_),(by omega),(KL),(P0),((by rw[h0];exact q0)),?_,(x0),X0.tail,rfl⟩;have hr:=i0.keep D1a (W1.of_nil.trans (KQ.mono (by simp)));rw[Q1] at hr ⊢;rw[E8b n0];exact hr
   refine lOn 5 a0.k [] rfl ⟨⟩ (Z0a (by conv=>lhs;whnf) rfl ?_);refine lO a0.k [.w 0] rfl ⟨⟨rfl,rfl⟩,⟨⟩⟩ (u0a a0 h3a (vs:=[.agg _]) (cs:=[_,_]) (by rfl) rfl rfl rfl rfl rfl rfl ?_);intro i2 H2 G0 J0 V1;replace KL:=KL.trans J0;replace KW:=KW.trans J0;have z1:j≠i:=fun hh=>by
    rcases Bool.eq_false_or_eq_true d with h|h
    ·rw[h] at hd;have:=of_decide_eq_true hd.symm;omega
    ·refine b1 ?_;subst hh;have h7:=of_decide_eq_true u2;rw[←h7,show b[j]=xe from(List.getElem?_eq_some_iff.1 d0).2,List.getD_eq_getElem?_getD,T0];rfl
   have x0:d=decide (i<j+1):=by rw[hd];exact decide_eq_decide.2 (by omega)
   rw[g0] at x0;refine Y0a D1a (k:=6) (M2:=gb::g7::g6::M) (e1:=xe) G0 h3a (by decide) rfl (i0.keep D1a KW.of_nil) rfl rfl (G0.cells 0 rfl) (I0a.keep KL.of_nil _ _ (I0a.more (fun x hx=>(List.mem_append.1 hx).elim (fun h=>.inr (hG x h)) .inl) _ _ j0)) (by have:=List.length_eraseIdx_le (l:=b.take j) (i:=i);rw[List.length_take] at this;omega) rfl ?_;intro vn s0 a1 H1 W0 b0 K0 D0;have a2:=KL.size;have P0:∀g∈s0.toList,e0.heap.size≤g:=fun x hx=>(D0 x hx).elim (hG x) (fun h=>by omega);have q0:RdI (s0.toList++(gb::g7::g6::M)) H1 (.slice z0 C0 A0) (if i<j then f2a c.mem en else c.mem):=by
    have h1:=B0.keep KW.of_nil;have h2:=RdS.more h1 (by omega) (M':=s0.toList++(G.toList++(gb::g7::g6::M))) (fun x hx=>(List.mem_append.1 hx).elim (fun h=>(D0 x h).imp (List.mem_append_left _) id) .inl);exact(h2.keep (K0.mono (fun x hx=>by simp[hx]))).less (fun x hx=>by simp at hx ⊢;grind)
   replace KL:=KL.freshL K0 (fun x hx=>.inl (hG x hx));have h0:(if i<j+1 then f2a c.mem en else c.mem)=if i<j then f2a c.mem en else c.mem:=by
    by_cases h:i<j
    ·rw[if_pos h,if_pos (by omega)]
    ·rw[if_neg h,if_neg (by omega)]
   refine P0a (by conv=>lhs;whnf) rfl ?_;refine lP0 rfl ⟨by omega,⟨⟩⟩ ?_;refine⟨μj-1,by omega,rfl,(j+1),(_),(_),(_),(_),(_),(vn),(_),(by omega),(KL),(P0),((by rw[h0];exact q0)),?_,(x0),W0.tail.tail,rfl⟩;rw[v1b d0 z1];exact b0
  refine Z0a (v:=.bool _) rfl rfl ?_;refine lOn 13 a0.k [] rfl ⟨⟩ (Z0a (by conv=>lhs;whnf) rfl ?_);refine lO a0.k [.w 0] rfl ⟨⟨rfl,rfl⟩,⟨⟩⟩ (u0a a0 h3a (vs:=[.agg _]) (cs:=[_,_]) (by rfl) rfl rfl rfl rfl rfl rfl ?_);intro i2 H2 G0 J0 V1;replace KL:=KL.trans J0;replace KW:=KW.trans J0;have z1:j≠i:=fun hh=>by
   rcases Bool.eq_false_or_eq_true d with h|h
   ·rw[h] at hd;have:=of_decide_eq_true hd.symm;omega
   ·rw[h] at g0;exact Bool.noConfusion g0
  have x0:d=decide (i<j+1):=by rw[hd];exact decide_eq_decide.2 (by omega)
  rw[g0] at x0;refine Y0a D1a (k:=6) (M2:=gb::g7::g6::M) (e1:=xe) G0 h3a (by decide) rfl (i0.keep D1a KW.of_nil) rfl rfl (G0.cells 0 rfl) (I0a.keep KL.of_nil _ _ (I0a.more (fun x hx=>(List.mem_append.1 hx).elim (fun h=>.inr (hG x h)) .inl) _ _ j0)) (by have:=List.length_eraseIdx_le (l:=b.take j) (i:=i);rw[List.length_take] at this;omega) rfl ?_;intro vn s0 a1 H1 W0 b0 K0 D0;have a2:=KL.size;have P0:∀g∈s0.toList,e0.heap.size≤g:=fun x hx=>(D0 x hx).elim (hG x) (fun h=>by omega);have q0:RdI (s0.toList++(gb::g7::g6::M)) H1 (.slice z0 C0 A0) (if i<j then f2a c.mem en else c.mem):=by
   have h1:=B0.keep KW.of_nil;have h2:=RdS.more h1 (by omega) (M':=s0.toList++(G.toList++(gb::g7::g6::M))) (fun x hx=>(List.mem_append.1 hx).elim (fun h=>(D0 x h).imp (List.mem_append_left _) id) .inl);exact(h2.keep (K0.mono (fun x hx=>by simp[hx]))).less (fun x hx=>by simp at hx ⊢;grind)
  replace KL:=KL.freshL K0 (fun x hx=>.inl (hG x hx));have h0:(if i<j+1 then f2a c.mem en else c.mem)=if i<j then f2a c.mem en else c.mem:=by
   by_cases h:i<j
   ·rw[if_pos h,if_pos (by omega)]
   ·rw[if_neg h,if_neg (by omega)]
  refine P0a (by conv=>lhs;whnf) rfl ?_;refine lP0 rfl ⟨by omega,⟨⟩⟩ ?_;refine⟨μj-1,by omega,rfl,(j+1),(_),(_),(_),(_),(_),(vn),(_),(by omega),(KL),(P0),((by rw[h0];exact q0)),?_,(x0),W0.tail.tail,rfl⟩;rw[v1b d0 z1];exact b0
 obtain⟨Al,cl,rfl⟩:=i0.form;have KZ:=y0a.refl [gb,g6] w;refine lOn 10 S.k [.o 0] rfl ⟨rfl,⟨⟩⟩ (Z0a (v:=.slice _ _ _) rfl rfl ?_);refine w0a V2a.slT rfl (by rfl) rfl (by omega) (by omega) rfl ?_
 first|refine B0a (kk:=1) S R7b rfl (by conv=>lhs;whnf) rfl rfl (by(simp;omega)) ?_
 intro T1 o0 H0;replace KZ:=KZ.fresh2 H0 (by exact .inr (by simp));refine lO o0.k [.w 0] rfl ⟨⟨rfl,by rfl⟩,⟨⟩⟩ ?_
 first|refine e0a (kk:=2) (vs:=[_,_,_]) o0 e2a rfl rfl rfl rfl rfl rfl rfl ?_
 intro r0 p0 I0;dsimp only[k0a,List.set] at p0;replace KZ:=KZ.fresh2 I0 (by exact .inr (by simp));refine lR0 rfl ⟨⟩ ?_;have SF:=p0.setEnt 1 rfl (show _=vs.set t (.slice Al ((b.take j).eraseIdx i).length cl) by simp);have J2:=hK.size;have z2:∀x∈M,x<e0.heap.size:=fun x hx=>by have:=hM x hx;have:=V0.size;omega
 have kN:y0a (G.toList++(gb::g7::g6::M)) _ r0:=KZ.mono (fun x hx=>by simp at hx ⊢;grind);have F1:y0a (gb::g6::M) e0 r0:=hK.of_nil.trans (KZ.mono (fun x hx=>by simp at hx ⊢;grind));rw[if_pos (by omega)] at B0;have R1:(b.take j).eraseIdx i=b.eraseIdx i:=by rw[List.take_of_length_le (by omega)]
 have P1:∀x,w0.heap.size≤x∨x∈([]:List Nat)→x∉M:=fun x h hh=>by
  rcases h with h|h
  ·have:=hM x hh;omega
  ·cases h
 refine n1a (n:=3) rfl a1a rfl (SF.cells 2 rfl) rfl ⟨⟨_,rfl,_,_,_,rfl,(B0.keep kN).less (fun x hx=>by simp[hx]),(r1.keep F1).less (fun x hx=>by simp[hx]),?_⟩,SF.fin⟩;have R0:=SF.rdBs (M:=M) 1 rfl (P1 gb (SF.new 1 rfl)) (bs:=c.buf.set t (b.eraseIdx i)) (by simp;omega) (fun k bk hk=>by
  by_cases w1:t=k
  ·subst w1;rw[List.getElem?_set_self ht] at hk;obtain rfl:=Option.some.inj hk;refine⟨_,List.getElem?_set_self (by omega),?_⟩;have h1:=B1a.rdG2 (i0.keep D1a kN) SF (k:=4) rfl (fun x hx hh=>by
    subst hx;simp only[List.mem_cons] at hh;rcases hh with hh|hh|hh|hh
    ·exact SF.ne 1 4 rfl rfl (by decide) hh.symm
    ·exact SF.ne 0 4 rfl rfl (by decide) hh.symm
    ·exact SF.ne 2 4 rfl rfl (by decide) hh.symm
    ·exact P1 x (SF.new 4 rfl) hh) (by have:=List.length_eraseIdx_le (l:=b.take j) (i:=i);rw[List.length_take] at this;omega)
   rw[R1] at h1;have x2:((b.take j).eraseIdx i).length=(b.eraseIdx i).length:=by rw[R1]
   rw[x2];exact RdS.lessW (M':=M) h1 (fun x hx=>by simp[hx]) (I0a.less (M':=M) (fun x hx=>by simp[hx]))
  ·rw[List.getElem?_set_ne w1] at hk;obtain⟨u,h1,h2⟩:=Q0 k bk hk;exact⟨u,by rw[List.getElem?_set_ne w1];exact h1,RdS.lessW (RdS.keepW h2 F1 (I0a.keep F1)) (fun x hx=>by simp[hx]) (I0a.less (fun x hx=>by simp[hx]))⟩)
 rw[List.length_set] at R0;exact R0
section
variable {p:f0a} {m:Int} {c:q0a} {t:Nat} {b:List E0a}
theorem g9b(hb:c.buf[t]?=some b){i:Nat}{en:E0a}(hx:b[i]?=some en):∃j,(b.findIdx? fun e=>decide (e.cells.getD 0 0=en.cells.getD 0 0))=some j∧doC p m c ⟨t,-1,en.cells.getD 0 0⟩=g4a c t j:=by
 cases h:b.findIdx? fun e=>decide (e.cells.getD 0 0=en.cells.getD 0 0) with
 | none =>
   have:=List.findIdx?_eq_none_iff.1 h en (List.mem_of_getElem? hx);simp at this
 | some j =>
   refine⟨j,rfl,?_⟩;unfold doC;rw[if_pos rfl];simp only[Int.toNat_natCast];rw[getD_some hb,h];rfl
theorem S6a{s:y1a}(h:¬(s.kind=3∧m≠0)):j6a p m c t s=⟨B7a s.set (c1a c t) c.mem,atC c t s,c.buf⟩:=by
 unfold j6a;rw[if_neg h]
theorem Y9c{xt a0 xc:Int}(h:(⟨xt,a0,xc⟩:A0a)∈G0a p m c)(hs:a0<0):∃(t i:Nat) (b:List E0a) (en:E0a),xt=t∧a0=-1∧xc=en.cells.getD 0 0∧c.buf[t]?=some b∧b[i]?=some en:=by
 obtain⟨t,_,⟨i,_,_,_,h1⟩|⟨i,h1,_,h3⟩⟩:=O1a.1 h
 ·simp only[A0a.mk.injEq] at h1;omega
 ·simp only[A0a.mk.injEq] at h3;rcases hb:c.buf[t]? with _|b
  ·rw[List.getD_eq_getElem?_getD,hb] at h1;simp at h1
  ·rw[getD_some hb] at h1 h3;have hx:b[i]?=some b[i]:=List.getElem?_eq_getElem h1;rw[getD_some hx] at h3;exact⟨t,i,b,_,h3.1,h3.2.1,h3.2.2,hb,hx⟩
theorem a0d{xt a0 xc:Int}(h:(⟨xt,a0,xc⟩:A0a)∈G0a p m c)(hs:¬a0<0):∃(t i:Nat) (th:X0a) (s:y1a),xt=t∧a0=i∧xc=0∧p.threads[t]?=some th∧th.steps[i]?=some s∧doC p m c ⟨xt,a0,xc⟩=j6a p m c t s:=by
 obtain⟨t,ht,⟨i,s,h1,_,h2⟩|⟨i,h1,_,h3⟩⟩:=O1a.1 h
 ·simp only[A0a.mk.injEq] at h2;obtain⟨rfl,rfl,rfl⟩:=h2;have b0:p.threads[t]?=some p.threads[t]:=List.getElem?_eq_getElem ht;rw[j2a b0] at h1;exact⟨t,i,_,s,rfl,rfl,rfl,b0,h1,s9c b0 h1⟩
 ·simp only[A0a.mk.injEq] at h3;omega
end
theorem St.blks_lt{M M':List Nat}{w0 w:World}{L:List Ent}(S:St M' w0 w L)(hM:∀g∈M,g<w0.heap.size):∀x∈V5a L++M,x<w.heap.size:=fun x hx=>by
 rcases List.mem_append.1 hx with h|h
 ·obtain⟨y,hy,hg⟩:=r2a.1 h;exact(S.own y hy x hg).2.lt
 ·exact Nat.lt_of_lt_of_le (hM x h) S.size
theorem St.blks_new{M:List Nat}{w0 w:World}{L:List Ent}(S:St [] w0 w L):∀x∈V5a L++M,x∈M∨w0.heap.size≤x:=fun x hx=>by
 rcases List.mem_append.1 hx with h|h
 ·obtain⟨y,hy,hg⟩:=r2a.1 h;exact .inr ((S.own y hy x hg).1.elim id (fun h=>by cases h))
 ·exact .inl h
theorem d0c(p:f0a)(c:q0a)(m:Int)(x:A0a)(hm:(m=0∧t3a c)∨m=1∨m=2)(M:List Nat)(w0:World)(cs xs:List Value)(hI:InP p M w0 cs)(hX:t0a M w0 c xs)(hf:c3a p c):
 M0a Tryz.prog 13 #[.agg cs.toArray,.int .i64 m,.agg xs.toArray,.agg #[.int .i64 x.thread,.int .i64 x.step,.int .i64 x.cell]] w0 fun v w'=>(∃ys,v=.tuple #[.agg ys.toArray,.int .i64 (b4b p m c x).2]∧t0a M w' (b4b p m c x).1 ys)∧Below w0.heap.size w0 w':=by
 obtain⟨Ac,nc,cc,Am,nm,cm,Al,nl,cl,At,nt,ct,rfl,hC,_,_,A4,_,_,_,_,_,_,_,_⟩:=hI.rd.open_;obtain⟨Xm,xm,ym,Xa,xa,ya,Xb,xb,yb,rfl,Q1,_,_,_,M3,_,_,_,_⟩:=hX.open_;have S:=St.refl w0;have hM:=hI.lt;have hp:=hI.ok;have f1:=hf.mem.len;have f2:=hf.nat;have f3:=hf.nbuf;have n1:=hp.ncells;have n2:=hp.nthreads;obtain⟨xt,c5,xc⟩:=x;simp only;refine a0a Tryz.func13 rfl Tryz.ntmps13 rfl ?_;refine wO0 rfl ⟨⟩ (h0a S (by conv=>lhs;whnf) rfl ?_);intro g4 w4 S4 X4 G4;refine h0a S4 (by conv=>lhs;whnf) rfl ?_;intro g6 w6 S6 X6 G6;refine h0a S6 (by conv=>lhs;whnf) rfl ?_;intro g7 w7 S7 X7 G7;refine m0a S7 Q3a rfl rfl ?_;intro g8 w8 S8 X8 G8;refine lO S8.k [.w 3,.w 2] rfl ⟨⟨rfl,rfl⟩,⟨rfl,rfl⟩,⟨⟩⟩ (g0a S8 e5c rfl rfl (U3b p c m hm M _ _ _ (hI.keep (S8.keep0 M)) (hX.keep (S8.keep0 M)) hf) ?_);intro v5 B3 f5;refine lC0 rfl ⟨⟩ (v0a b0a [0,1,2,4] [3] [5,6] (by kernel_rfl) rfl (Cl _ _ _ _) (Cl.start B3) ?_);refine qN B3.q [.w 3,.w 2,.w 1] rfl ⟨⟨rfl,by rfl⟩,⟨rfl,rfl⟩,⟨rfl,rfl⟩,⟨⟩⟩ (V3a ?_);refine o8a (fun v w=>Q8b [] w v (G0a p m c)) rfl rfl Z4c rfl (fun v w w' h hk=>h.keep hk.of_nil) (fun w1 S1 X1=>z6a p c m hm M [] _ _ _ (hI.keep (S1.keep0 M)) (hX.keep (S1.keep0 M)) hf (by simp)) ?_;refine R1a ?_;rintro x5 ⟨f4,_⟩;rintro o5 hr;dsimp only[R3a];obtain⟨_,_,_,rfl⟩:=hr.form;refine C0a f4 a9c rfl rfl (R2c (G0a p m c) ⟨xt,c5,xc⟩ [] _ _ hr) (fun O2 U4 B0 F3=>?_) (fun O2 U4 B0 F3=>?_)
 ·replace hr:=hr.keep (F3.of_nil);have h1:=of_decide_eq_true O2;refine lB B0.k [.o 1] rfl ⟨rfl,⟨⟩⟩ (fun x4=>?_) fun x4=>?_
  ·obtain⟨t,i,b,_,rfl,rfl,rfl,L0,r3⟩:=Y9c h1 (by omega);obtain⟨j,hj,o1⟩:=g9b (p:=p) (m:=m) L0 r3;refine lO B0.k [.w 2,.o 1,.o 1] rfl ⟨rfl,rfl,⟨rfl,rfl⟩,⟨⟩⟩ (x0a B0 F8c rfl rfl (k6b p hp c t j _ b (g8::g7::M) _ (h1b B0 (i:=0) (j:=1) rfl rfl hM) _ ((hX.more (m7a B0 (i:=0) (j:=1) rfl rfl)).keep (B0.keep0 _)) hf L0 hj) ?_);rintro p5 w5 ⟨ys,rfl,hy⟩ e4 g5;obtain⟨_,_,_,_,_,_,_,_,_,rfl,-⟩:=hy.open_
   first|refine e0a (kk:=0) (vs:=[_,_,_]) e4 e2a rfl rfl rfl rfl rfl rfl rfl ?_
   intro W4 a1 D2;dsimp only[k0a,List.set] at a1;replace hy:=hy.keep (D2.mono (by simp));refine lR0 rfl ⟨⟩ ?_;rw[m4a h1,o1];exact g2a (n:=3) rfl a1a rfl (a1.cells 0 rfl) rfl rfl ⟨⟨_,rfl,hy.less (fun g hg=>by simp[hg])⟩,a1.fin⟩
  obtain⟨t,i,_,s,rfl,rfl,rfl,j1,s3,o1⟩:=a0d h1 (by omega);have ht:=u1a j1;have hi:=u1a s3;have v0:=R4b hp hf h1;rw[o1] at v0;have F0:=(hp.thread j1).steps s (c0a s3);have m5:=v1c F0;have C4:6≤s.kind→0≤s.target∧s.target<p.threads.length:=fun h=>(F0.row.k6 h).1;have J0:=P5a c t s;obtain⟨b,L0⟩:∃b,c.buf[t]?=some b:=⟨c.buf[t]'(by omega),List.getElem?_eq_getElem _⟩;have i5:=hf.bufs t b L0;refine lC0 rfl ⟨⟩ (v0a b0a [0,1,2,3,4,5,6,7,8,9,10] [11] [12] (by kernel_rfl) rfl (Cl _ _ _ _) (Cl.start B0) ?_);obtain⟨_,n4,F4,_,o3,S2,_,_,X2,e3⟩:=RdS.get (A4) (t) (by omega);obtain rfl:=Option.some.inj (j1.symm.trans o3);obtain⟨_,_,_,_,_,_,_,_,_,_,_,_,rfl,_,_,_,T1,_,_,_,_,_,_,_,_,_⟩:=N0a.open_ e3;obtain⟨_,o4,H4,_,p3,T2,_,b3,Y2,g3⟩:=RdS.get (T1) (i) (by omega);obtain rfl:=Option.some.inj (s3.symm.trans p3);obtain⟨p1,i2,J1,r1,j2,M1,rfl,⟨_,_,_,_,_⟩,_,q0,_,_⟩:=q2a.open_ g3;refine qN ((B0.q.a Y2).a X2) [.o 3,.o 1,.x n4 F4,.f 0 4,.o 1,.x o4 H4,.v 1] rfl ⟨⟨rfl,b3⟩,⟨T2,by omega⟩,rfl,rfl,⟨S2,by omega⟩,rfl,rfl,⟨⟩⟩ (V3a ?_);refine b0b rfl rfl S5b rfl ?_;refine R1a ?_;rintro y5 ⟨C2,_⟩;intro u0 a3 U3 u3;dsimp only[R3a];clear u3;replace C2:=C2.push_new B0 a3 U3;refine e0a (kk:=0) (vs:=[_,_,_,_,_,_,_,_,_,_,_]) C2 x6b rfl rfl rfl rfl rfl rfl rfl ?_;intro X0 f0 G3;dsimp only[k0a,List.set] at f0;refine lO f0.k [.w 3] rfl ⟨⟨rfl,rfl⟩,⟨⟩⟩ ?_;have Z3:∀x∈(u0::g8::g7::g6::g4::M),x<X0.heap.size:=f0.blks_lt hM;have W2:t0a (u0::g8::g7::g6::g4::M) X0 c _:=(hX.more f0.blks_new).keep (f0.keep0 _);refine c2a Y4c rfl rfl (C4b p hp c (u0::g8::g7::g6::g4::M) _ Z3 _ W2 hf) ?_;rintro q5 s2 ⟨⟨Gm,_,H3,_,_,_,gb,e0,vs,rfl,Rm,Ra,A2,hR⟩,-⟩;have C3:=f0.joinR A2;obtain⟨ga,h0,rfl,rfl,rfl,i1⟩:=Ra.pad (by omega);obtain⟨Bm,J2,dm,rfl⟩:=Rm.form;have KM:=y0a.refl (g8::ga::Gm.toList) s2;have R1:∀g∈(Gm.toList++((some ga).toList++(gb::u0::g8::g7::g6::g4::M)))++V5a e0,g<s2.heap.size:=by
   intro g hg;have z:=C3.blks_lt hM g;simp only[V5a,List.mem_append,List.mem_cons,List.filterMap_append,List.filterMap_cons] at hg z;refine z ?_;cases Gm<;>simp at hg ⊢<;>grind
  refine m0a C3 Q3a rfl rfl ?_;intro m1 s5 a4 h4 V3;have y0:=Nat.le_trans KM.size V3;replace KM:=KM.trans (h4.of_nil)
  first|refine e0a (kk:=0) (vs:=[_,_,_]) a4 e2a rfl rfl rfl rfl rfl rfl rfl ?_
  intro Z4 b1 F2;dsimp only[k0a,List.set] at b1;replace KM:=KM.fresh2 F2 (by exact .inl y0);refine lO b1.k [.o 0,.o 6,.o 4] rfl ⟨rfl,rfl,rfl,⟨⟩⟩ (w0a O0a.slT rfl (by rfl) rfl (by omega) (by omega) rfl ?_)
  first|refine B0a (kk:=2) b1 u9a rfl (by conv=>lhs;whnf) rfl rfl (by(simp;omega)) ?_
  intro a5 C0 G2;replace KM:=KM.fresh2 G2 (by exact .inr (by simp));refine lCn 2 C0.k [] rfl ⟨⟩ (wX (fun D ε w=>D=[]∧(y0a (g8::ga::Gm.toList) s2 w)∧St [] w0 w ( [(some m1,38,[.slice Bm J2 dm,.slice (some ⟨ga,0,none⟩) c.at_.length (c.at_.length+h0.length),.slice (some ⟨gb,0,none⟩) c.buf.length c.buf.length]),(some gb,86,vs),(some ga,3,(atC c t s).map (Value.int .i64)++h0),(Gm,3,H3),(some u0,97,[.int .i64 s.kind,.int .i64 s.frm,.int .i64 s.to,.int .i64 s.guard.op,.int .i64 s.guard.w,.int .i64 s.guard.n,.slice p1 i2 J1,.slice r1 j2 M1,.bool s.release,.int .i64 s.target,.int .i64 s.module_]),(some g8,38,[.slice none 0 0,.slice none 0 0,.slice none 0 0]),(some g7,44,[.int .i64 t,.int .i64 i,.int .i64 0]),(some g6,38,[.slice Xm xm ym,.slice Xa xa ya,.slice Xb xb yb]),(some g4,27,[.slice Ac nc cc,.slice Am nm cm,.slice Al nl cl,.slice At nt ct])]++e0)∧Sl ε [(1,.int .i64 m),(4,.pointer (some ⟨g4,0,none⟩)),(6,.pointer (some ⟨g6,0,none⟩)),(7,.pointer (some ⟨g7,0,none⟩)),(8,.pointer (some ⟨g8,0,none⟩)),(10,.pointer (some ⟨u0,0,none⟩)),(11,.pointer (some ⟨m1,0,none⟩))]) ?_ ?_)
  ·refine wB C0.k [.o 4] rfl ⟨rfl,⟨⟩⟩ (fun P2=>?_) fun P2=>?_
   ·have q6:=C4 (by omega);refine lO C0.k [.o 0,.o 4] rfl ⟨rfl,rfl,⟨⟩⟩ (w0a O0a.slT rfl (by rfl) rfl (by omega) (by omega) rfl ?_)
    first|refine B0a (kk:=2) C0 u9a rfl (by conv=>lhs;whnf) rfl rfl (by(simp;omega)) ?_
    intro O3 v1 E1;replace KM:=KM.fresh2 E1 (by exact .inr (by simp));refine lP0 rfl ⟨⟩ ?_;have SF:=v1.setEnt 2 rfl (show _=(atC c t s).map (Value.int .i64)++h0 by exact L5b P2 (by omega) (by omega) (by simp) (by simp));exact⟨rfl,KM,SF,rfl⟩
   refine lP0 rfl ⟨⟩ ?_;have SF:=C0.setEnt 2 rfl (show _=(atC c t s).map (Value.int .i64)++h0 by exact U0c P2 (by omega) (by simp));exact⟨rfl,KM,SF,rfl⟩
  rintro D ε w ⟨rfl,KM,S,eZ⟩;refine wK eZ (wCn 1 S.k [] rfl ⟨⟩ ?_);have H2:=KM.size;have z4:∀g∈Gm.toList++M,g<w.heap.size:=fun g hg=>by
   rcases List.mem_append.1 hg with h|h
   ·exact a7a S (k:=3) rfl g h
   ·have:=hM g h;have:=S.size;omega
  have B4:t0a (Gm.toList++M) w c _:=(hX.more (fun g hg=>(List.mem_append.1 hg).elim (fun h=>.inr (n5b S 3 rfl g h)) .inl)).keep (S.keep0 _);refine wO S.k [.w 7,.o 6] rfl ⟨rfl,⟨rfl,rfl⟩,⟨⟩⟩ (x0a S H4c rfl rfl (F3b p c t b (Gm.toList++M) _ _ hp z4 B4 hf L0) ?_);rintro r5 y3 hV s0 j4;replace KM:=KM.trans (j4.of_nil);obtain⟨Av,nv,cv,rfl⟩:=hV.form;have KV:=y0a.refl Gm.toList y3;have H2:=KM.size;refine lB s0.k [.o 4] rfl ⟨rfl,⟨⟩⟩ (fun Q2=>?_) fun Q2=>?_
  ·refine lO s0.k [.o 7,.o 4] rfl ⟨rfl,rfl,⟨⟩⟩ ?_;have U1:∀a∈s.set,(0≤a.cell∧a.cell<c.mem.length)∧i64 (a.to.evl (c1a c t) (c1a c t)):=fun a ha=>by
    have q1:=(F0.set a ha).1;unfold D2a at q1;have q2:=q5a (F0.set a ha).2.1 (c1a c t) (c1a c t);rw[(F0.set a ha).2.2] at q2;have N3:=j9a hp a.cell;exact⟨by omega,by unfold i64;omega⟩
   have W1:¬(s.kind=3∧m≠0):=fun z=>by exact Q2 z.1
   rw[S6a W1] at v0;refine x0a s0 Q4c rfl rfl (K2b (M:=m1::g8::M) (w1b c.mem (c1a c t) s.set M _ _ _ _ (Q1.keep (s0.keep0 M)) ((hV.keep (KV.mono (fun g hg=>List.mem_append_left _ hg))).less (fun g hg=>List.mem_append_right _ hg)) (RdS.keepW q0 (s0.keep0 M) (U0a.keep (s0.keep0 M))) (by omega) (fun a ha=>(U1 a ha).1) (fun a ha=>(U1 a ha).2)) (h1b s0 (i:=0) (j:=5) rfl rfl hM) (X2a hp v0.mem) (by simp;omega)) ?_;rintro M4 Y4 hW B2 E2;replace KM:=KM.trans (E2.of_nil);obtain⟨Aw,nw,cw,rfl⟩:=hW.form;refine lO0 rfl ⟨⟩ ?_
   first|refine B0a (kk:=0) B2 W0b rfl (by conv=>lhs;whnf) rfl rfl (by exact Nat.le_of_ble_eq_true rfl) ?_
   intro m2 j0 n0;replace KM:=KM.fresh2 n0 (by exact .inl y0);replace hW:=hW.keep (n0.mono (by simp));refine lO j0.k [.w 0] rfl ⟨⟨rfl,by rfl⟩,⟨⟩⟩ ?_
   first|refine e0a (kk:=5) (vs:=[_,_,_]) j0 e2a rfl rfl rfl rfl rfl rfl rfl ?_
   intro G0 a0 o0;dsimp only[k0a,List.set] at a0;replace KM:=KM.fresh2 o0 (by exact .inr (by simp));replace hW:=hW.keep (o0.mono (by simp));refine lR0 rfl ⟨⟩ ?_;rw[m4a h1,o1,S6a W1];have I0:=hR.keep (w':=G0) (KM.mono (fun g hg=>by simp at hg ⊢;rcases hg with h|h|h<;>simp[h]));refine g2a (n:=3) rfl a1a rfl (a0.cells 5 rfl) rfl rfl ⟨⟨_,rfl,_,_,_,rfl,hW.less (fun g hg=>by simp[hg]),?_,?_⟩,a0.fin⟩
   ·have:=(d3a.ofPad (g:=ga) (l:=atC c t s) (pad:=h0) (by rw[J0];exact i1)).rdI a0 (k:=2) rfl hM (W5a hp v0) (by rw[J0];omega);rw[J0] at this;exact this
   ·have hA:=a0.apartM (A:=[_,_,_,_,_,_,_,_,_]) hM;have:=a0.rdBs (M:=M) 1 rfl (Q0a hM (a0.new 1 rfl)) (bs:=c.buf) (by omega) (I0.rd (A:=[_,_,_,_,_,_,_,_,_]) a0 (Mx:=M) (fun g hg=>by simp[hg]) hA (fun x hx=>by
     obtain⟨q,hq,rfl⟩:=List.getElem_of_mem hx;have:=(v0.bufs q _ (List.getElem?_eq_getElem hq)).1;omega))
    exact this
  refine lB0 rfl ⟨⟩ (fun R2=>?_) fun R2=>?_
  ·refine lO s0.k [.o 7,.o 4] rfl ⟨rfl,rfl,⟨⟩⟩ ?_;have U1:∀a∈s.set,(0≤a.cell∧a.cell<c.mem.length)∧i64 (a.to.evl (c1a c t) (c1a c t)):=fun a ha=>by
    have q1:=(F0.set a ha).1;unfold D2a at q1;have q2:=q5a (F0.set a ha).2.1 (c1a c t) (c1a c t);rw[(F0.set a ha).2.2] at q2;have N3:=j9a hp a.cell;exact⟨by omega,by unfold i64;omega⟩
   have W1:¬(s.kind=3∧m≠0):=fun z=>by exact z.2 R2
   rw[S6a W1] at v0;refine x0a s0 Q4c rfl rfl (K2b (M:=m1::g8::M) (w1b c.mem (c1a c t) s.set M _ _ _ _ (Q1.keep (s0.keep0 M)) ((hV.keep (KV.mono (fun g hg=>List.mem_append_left _ hg))).less (fun g hg=>List.mem_append_right _ hg)) (RdS.keepW q0 (s0.keep0 M) (U0a.keep (s0.keep0 M))) (by omega) (fun a ha=>(U1 a ha).1) (fun a ha=>(U1 a ha).2)) (h1b s0 (i:=0) (j:=5) rfl rfl hM) (X2a hp v0.mem) (by simp;omega)) ?_;rintro M4 Y4 hW B2 E2;replace KM:=KM.trans (E2.of_nil);obtain⟨Aw,nw,cw,rfl⟩:=hW.form;refine lO0 rfl ⟨⟩ ?_
   first|refine B0a (kk:=0) B2 W0b rfl (by conv=>lhs;whnf) rfl rfl (by exact Nat.le_of_ble_eq_true rfl) ?_
   intro m2 j0 n0;replace KM:=KM.fresh2 n0 (by exact .inl y0);replace hW:=hW.keep (n0.mono (by simp));refine lO j0.k [.w 0] rfl ⟨⟨rfl,by rfl⟩,⟨⟩⟩ ?_
   first|refine e0a (kk:=5) (vs:=[_,_,_]) j0 e2a rfl rfl rfl rfl rfl rfl rfl ?_
   intro G0 a0 o0;dsimp only[k0a,List.set] at a0;replace KM:=KM.fresh2 o0 (by exact .inr (by simp));replace hW:=hW.keep (o0.mono (by simp));refine lR0 rfl ⟨⟩ ?_;rw[m4a h1,o1,S6a W1];have I0:=hR.keep (w':=G0) (KM.mono (fun g hg=>by simp at hg ⊢;rcases hg with h|h|h<;>simp[h]));refine g2a (n:=3) rfl a1a rfl (a0.cells 5 rfl) rfl rfl ⟨⟨_,rfl,_,_,_,rfl,hW.less (fun g hg=>by simp[hg]),?_,?_⟩,a0.fin⟩
   ·have:=(d3a.ofPad (g:=ga) (l:=atC c t s) (pad:=h0) (by rw[J0];exact i1)).rdI a0 (k:=2) rfl hM (W5a hp v0) (by rw[J0];omega);rw[J0] at this;exact this
   ·have hA:=a0.apartM (A:=[_,_,_,_,_,_,_,_,_]) hM;have:=a0.rdBs (M:=M) 1 rfl (Q0a hM (a0.new 1 rfl)) (bs:=c.buf) (by omega) (I0.rd (A:=[_,_,_,_,_,_,_,_,_]) a0 (Mx:=M) (fun g hg=>by simp[hg]) hA (fun x hx=>by
     obtain⟨q,hq,rfl⟩:=List.getElem_of_mem hx;have:=(v0.bufs q _ (List.getElem?_eq_getElem hq)).1;omega))
    exact this
  have h3:s.kind=3:=Q2;have K3:¬m=0:=R2;refine lO0 rfl ⟨⟩ (m0a s0 W7a rfl rfl ?_);intro I3 t5 b4 D3 z3;have N0:=Nat.le_trans KM.size z3;have O0:=Nat.le_trans KV.size z3;replace KM:=KM.trans (D3.of_nil);replace KV:=KV.trans (D3.of_nil);refine lC0 rfl ⟨⟩ ?_;refine wL (fun μk D ε w=>D=[]∧∃k:Nat,∃Gc:Option Nat,∃L2:List Value,∃vc:Value,∃Gv:Option Nat,∃N2:List Value,∃vv:Value,∃g1:List Value,(k+μk=(s.set.length))∧(B1a Y2c 1 [] w0 Gc L2 vc ((X0b p s k).map L1a.cell))∧(B1a Y2c 1 [] w0 Gv N2 vv ((X0b p s k).map fun a=>a.to.evl (c1a c t) (c1a c t)))∧(∀g∈Gc.toList++Gv.toList,y3.heap.size≤g)∧(d3a Gm 1 c.mem.length g1 (.slice Bm J2 dm) ((B7a (h9a p s k) (c1a c t) c.mem).map (Value.int .i64)))∧(y0a (g8::ga::Gm.toList) s2 w)∧(y0a Gm.toList y3 w)∧St [] w0 w ([(Gc,3,L2),(Gv,3,N2),(some I3,88,[vc,vv]),(some m1,38,[.slice Bm J2 dm,.slice (some ⟨ga,0,none⟩) c.at_.length (c.at_.length+h0.length),.slice (some ⟨gb,0,none⟩) c.buf.length c.buf.length]),(some gb,86,vs),(some ga,3,(atC c t s).map (Value.int .i64)++h0),(Gm,3,g1),(some u0,97,[.int .i64 s.kind,.int .i64 s.frm,.int .i64 s.to,.int .i64 s.guard.op,.int .i64 s.guard.w,.int .i64 s.guard.n,.slice p1 i2 J1,.slice r1 j2 M1,.bool s.release,.int .i64 s.target,.int .i64 s.module_]),(some g8,38,[.slice none 0 0,.slice none 0 0,.slice none 0 0]),(some g7,44,[.int .i64 t,.int .i64 i,.int .i64 0]),(some g6,38,[.slice Xm xm ym,.slice Xa xa ya,.slice Xb xb yb]),(some g4,27,[.slice Ac nc cc,.slice Am nm cm,.slice Al nl cl,.slice At nt ct])]++e0)∧Sl ε [(4,.pointer (some ⟨g4,0,none⟩)),(7,.pointer (some ⟨g7,0,none⟩)),(8,.pointer (some ⟨g8,0,none⟩)),(10,.pointer (some ⟨u0,0,none⟩)),(11,.pointer (some ⟨m1,0,none⟩)),(12,.slice Av nv cv),(13,.pointer (some ⟨I3,0,none⟩)),(14,.int .i64 k)]) (μ:=(s.set.length)) ⟨rfl,0,none,[],.slice none 0 0,none,[],.slice none 0 0,H3,by omega,by rw[L7a];exact B1a.nil,by rw[L7a];exact B1a.nil,by simp,by rw[v4b];exact Rm,KM,KV,((b4.nilEnt 3).nilEnt 3),rfl⟩ ?_;rintro μk D ε w ⟨rfl,k,Gc,L2,vc,Gv,N2,vv,g1,hk,o2,r2,K0,j3,KM,KV,S,eZ⟩;refine wK eZ (wO0 rfl ⟨⟩ ?_);refine s0a W3b rfl (by exact S.cell 7 rfl rfl) rfl ?_;refine lB0 rfl ⟨⟩ (fun y4=>?_) fun y4=>?_
  ·refine lO0 rfl ⟨⟩ (s0a W3b rfl (by exact S.cell 7 rfl rfl) rfl ?_);obtain⟨a,p4,I4,_,M3,U2,_,d3,Z2,i3⟩:=RdS.get (q0) (k) (by omega);obtain⟨_,_,_,rfl,t3,V2⟩:=U0a.open_ i3;have g0:=M3;have q1:=(F0.set a (c0a g0)).1;unfold D2a at q1;have q2:=q5a (F0.set a (c0a g0)).2.1 (c1a c t) (c1a c t);rw[(F0.set a (c0a g0)).2.2] at q2;have N3:=j9a hp a.cell;have q3:i64 (a.to.evl (c1a c t) (c1a c t)):=by unfold i64;omega
   refine lO (S.k.a Z2) [.x p4 I4,.v 0] rfl ⟨⟨rfl,d3⟩,⟨U2,by omega⟩,⟨⟩⟩ (m0a S c8a rfl rfl ?_);intro h5 u5 d4 E3 A3;have s1:=Nat.le_trans KM.size A3;have t1:=Nat.le_trans KV.size A3;replace KM:=KM.trans (E3.of_nil);replace KV:=KV.trans (E3.of_nil)
   first|refine e0a (kk:=0) (vs:=[_,_,_,_,_]) d4 d8a rfl rfl rfl rfl rfl rfl rfl ?_
   intro P3 r0 R0;dsimp only[k0a,List.set] at r0;replace KM:=KM.fresh2 R0 (by exact .inl s1);replace KV:=KV.fresh2 R0 (by exact .inl t1);refine lO r0.k [.o 0] rfl ⟨rfl,⟨⟩⟩ (g0a r0 U8b rfl rfl (R0b a.to M _ _ _ _ (c1a c t) (c1a c t) (RdE.keep (r0.keep0 M) _ _ V2) ((hV.keep (KV.mono (fun g hg=>List.mem_append_left _ hg))).less (fun g hg=>List.mem_append_right _ hg)) ((hV.keep (KV.mono (fun g hg=>List.mem_append_left _ hg))).less (fun g hg=>List.mem_append_right _ hg))) ?_);intro N4 i0 B1;replace KM:=KM.trans (B1.of_nil);replace KV:=KV.trans (B1.of_nil);refine lO0 rfl ⟨⟩ (s0a t9a rfl (by exact i0.cell 12 rfl rfl) rfl ?_);obtain⟨_,I2,v3,_,h2,N1,_,_,V1,Y1⟩:=RdS.get (hC) (a.cell.toNat) (by omega);obtain⟨rfl,_,_,_,_⟩:=F2a.open_ Y1;have x0:=i1a h2;refine lB (i0.k.a V1) [.o 0,.x I2 v3,.f 0 3] rfl ⟨rfl,⟨N1,by omega⟩,rfl,⟨⟩⟩ (fun p0=>?_) fun p0=>?_
   ·refine lO0 rfl ⟨⟩ (s0a O2a rfl (by exact i0.cell 3 rfl rfl) rfl ?_);refine lO i0.k [.o 0] rfl ⟨rfl,⟨⟩⟩ (u0a i0 O0a (vs:=[.int .i64 _]) (cs:=[_]) (by rfl) rfl rfl rfl rfl rfl rfl ?_);intro t4 O4 u1 C1 W3;replace KM:=KM.trans (C1.of_nil);replace KV:=KV.trans (C1.of_nil);refine Y0a Z2a (k:=2) (M2:=[]) (e1:=a.cell) u1 O0a (by decide) rfl o2 rfl rfl (u1.cells 0 rfl) ⟨rfl,t3⟩ (by have:=T4a (p:=p) (s:=s) (k:=k);simp;omega) rfl ?_;intro J4 d5 r4 P4 x2 Z1 D1 t2;have k4:=KV.size;obtain⟨_,_,rfl⟩:=Z1.form;replace KM:=KM.freshL D1 (fun g hg=>.inl (Nat.le_trans H2 (K0 g (List.mem_append_left _ hg))));replace KV:=KV.freshL D1 (fun g hg=>.inl (K0 g (List.mem_append_left _ hg)));refine lO0 rfl ⟨⟩ ?_
    first|refine B0a (kk:=4) x2 W0b rfl (by conv=>lhs;whnf) rfl rfl (by exact Nat.le_of_ble_eq_true rfl) ?_
    intro Q3 P0 S0;replace KM:=KM.fresh2 S0 (by exact .inl N0);replace KV:=KV.fresh2 S0 (by exact .inl O0);refine lO0 rfl ⟨⟩ (s0a O2a rfl (by exact P0.cell 4 rfl rfl) rfl ?_);refine lO0 rfl ⟨⟩ (u0a P0 O0a (vs:=[.int .i64 _]) (cs:=[_]) (by rfl) rfl rfl rfl rfl rfl rfl ?_);intro u4 Q4 x1 F1 X3;replace KM:=KM.trans (F1.of_nil);replace KV:=KV.trans (F1.of_nil);refine Y0a Z2a (k:=4) (M2:=[]) (e1:=a.to.evl (c1a c t) (c1a c t)) x1 O0a (by decide) rfl r2 rfl rfl (x1.cells 0 rfl) ⟨rfl,q3⟩ (by have:=T4a (p:=p) (s:=s) (k:=k);simp;omega) rfl ?_;intro K4 e5 s4 R4 y2 d2 G1 u2;have m4:=KV.size;obtain⟨_,_,rfl⟩:=d2.form;replace KM:=KM.freshL G1 (fun g hg=>.inl (Nat.le_trans H2 (K0 g (List.mem_append_right _ hg))));replace KV:=KV.freshL G1 (fun g hg=>.inl (K0 g (List.mem_append_right _ hg)));refine lO0 rfl ⟨⟩ ?_
    first|refine B0a (kk:=5) y2 W0b rfl (by conv=>lhs;whnf) rfl rfl (by exact Nat.le_of_ble_eq_true rfl) ?_
    intro R3 z1 T0;replace KM:=KM.fresh2 T0 (by exact .inl N0);replace KV:=KV.fresh2 T0 (by exact .inl O0);refine lP0 rfl ⟨by omega,⟨⟩⟩ ⟨μk-1,by omega,rfl,(k+1),(_),(_),(_),(_),(_),(_),(_),(by omega),?_,?_,?_,?_,(KM),(KV),z1.tail.tail.tail,rfl⟩
    ·rw[(R6a h3 g0 (x0.trans p0)).1,List.map_append];exact Z1
    ·rw[(R6a h3 g0 (x0.trans p0)).1,List.map_append];exact d2
    ·intro g hg;rcases List.mem_append.1 hg with hg|hg
     ·rcases t2 g hg with h|h
      ·exact K0 g (List.mem_append_left _ h)
      ·omega
     ·rcases u2 g hg with h|h
      ·exact K0 g (List.mem_append_right _ h)
      ·omega
    ·rw[(R6a h3 g0 (x0.trans p0)).2];exact j3
   obtain⟨gm,pad,rfl,E4,rfl,D4⟩:=j3.pad (by simp;omega);have j5:(B7a (h9a p s k) (c1a c t) c.mem).length=c.mem.length:=by simp
   cases E4;refine lO0 rfl ⟨⟩ (s0a O2a rfl (by exact i0.cell 4 rfl rfl) rfl ?_);refine lO i0.k [.o 0] rfl ⟨rfl,⟨⟩⟩ (w0a O0a.slT rfl (by rfl) rfl (by omega) (by omega) rfl ?_)
   first|refine B0a (kk:=7) i0 u9a rfl (by conv=>lhs;whnf) rfl rfl (by(simp;omega)) ?_
   intro S3 A1 U0;replace KM:=KM.fresh2 U0 (by exact .inr (by simp));replace KV:=KV.fresh2 U0 (by exact .inr (by simp));refine lP0 rfl ⟨by omega,⟨⟩⟩ ⟨μk-1,by omega,rfl,(k+1),(_),(_),(_),(_),(_),(_),(_),(by omega),?_,?_,?_,?_,(KM),(KV),A1.tail,rfl⟩
   ·rw[(F5a g0 (fun _=>by rw[x0];exact p0)).1];exact o2
   ·rw[(F5a g0 (fun _=>by rw[x0];exact p0)).1];exact r2
   ·exact K0
   ·have e2:h9a p s (k+1)=h9a p s k++[a]:=(F5a g0 (fun _=>by rw[x0];exact p0)).2;rw[e2,f6a];have:=d3a.ofPad (g:=gm) (l:=(B7a (h9a p s k) (c1a c t) c.mem).set a.cell.toNat (a.to.evl (c1a c t) (c1a c t))) (pad:=pad) (by simpa using D4);rw[←H5a (by omega)] at this;simpa using this
  have W0:=hR.keep (w':=w) (KM.mono (fun g hg=>by simp at hg ⊢;rcases hg with h|h|h<;>simp[h]));obtain⟨G,q4,v,p2,L3,m3⟩:=W0.2.2 t b L0;obtain⟨_,_,rfl⟩:=m3.form;obtain⟨_,_,rfl⟩:=o2.form;obtain⟨_,_,rfl⟩:=r2.form;have n5:vs.length=c.buf.length:=W0.2.1;have J3:∀g∈G.toList,g∈(Gm.toList++((some ga).toList++(gb::u0::g8::g7::g6::g4::M)))++V5a e0:=fun g hg=>List.mem_append_right _ (r2a.2 ⟨_,List.mem_of_getElem? p2,by cases G<;>simp at hg ⊢;exact hg.symm⟩);have O1:RdI ((Gm.toList++((some ga).toList++(gb::u0::g8::g7::g6::g4::M)))++V5a e0) w _ _:=B1a.rd (M:=(Gm.toList++((some ga).toList++(gb::u0::g8::g7::g6::g4::M)))++V5a e0) (w:=w) Z2a o2 S (k:=0) rfl (fun g hg hm=>by have:=K0 g (by rw[hg];simp);have:=R1 g hm;omega) (by have:=T4a (p:=p) (s:=s) (k:=k);simp;omega);have P1:RdI ((Gm.toList++((some ga).toList++(gb::u0::g8::g7::g6::g4::M)))++V5a e0) w _ _:=B1a.rd (M:=(Gm.toList++((some ga).toList++(gb::u0::g8::g7::g6::g4::M)))++V5a e0) (w:=w) Z2a r2 S (k:=1) rfl (fun g hg hm=>by have:=K0 g (by rw[hg];simp);have:=R1 g hm;omega) (by have:=T4a (p:=p) (s:=s) (k:=k);simp;omega);refine lC0 rfl ⟨⟩ (g9a b0a (fun i=>[0,1,2,3,4,5,6,7,8,9,10,13].contains i) [0,1,2,3,4,5,6,7,8,9,10,11,12,13] 14 (by kernel_rfl) (by kernel_rfl) (clF (A:=[_,_,_,_,_,_,_,_,_,_,_,_]) (R:=e0) S G.toList) _ rfl ?_);have b0:=S.drew;have E0:y0a [] w w.drew:=s2a _ _;generalize w.drew=b5 at b0 E0 ⊢;have d0:y0a (G.toList) _ _:=E0.of_nil;replace W0:=W0.keep E0.of_nil;replace O1:=O1.keep E0.of_nil;replace P1:=P1.keep E0.of_nil;refine z1a ⟨(St.front (A:=[_,_,_,_,_,_,_,_,_,_,_,_]) b0),d0⟩ rfl rfl rfl ?_;refine z0a y3a rfl rfl ?_;refine d0a ?_;refine z1a ⟨(St.front (A:=[_,_,_,_,_,_,_,_,_,_,_,_]) b0),d0⟩ rfl rfl rfl ?_;refine j0a K3a rfl (fun w1 hw=>by exact hw.1.cell 3 rfl rfl) rfl ?_;refine d0a ?_;refine z1a ⟨(St.front (A:=[_,_,_,_,_,_,_,_,_,_,_,_]) b0),d0⟩ rfl rfl rfl ?_;refine z0a U9a rfl rfl ?_;refine d0a ?_;refine z1a ⟨(St.front (A:=[_,_,_,_,_,_,_,_,_,_,_,_]) b0),d0⟩ rfl rfl rfl ?_;refine j0a K0a rfl (fun w1 hw=>by exact hw.1.cell 9 rfl rfl) rfl ?_;refine d0a ?_;refine z1a ⟨(St.front (A:=[_,_,_,_,_,_,_,_,_,_,_,_]) b0),d0⟩ rfl rfl rfl ?_;refine z0a y3a rfl rfl ?_;refine d0a ?_;refine z1a ⟨(St.front (A:=[_,_,_,_,_,_,_,_,_,_,_,_]) b0),d0⟩ rfl rfl rfl ?_;refine j0a K3a rfl (fun w1 hw=>by exact hw.1.cell 3 rfl rfl) rfl ?_;refine d0a ?_;refine z1a ⟨(St.front (A:=[_,_,_,_,_,_,_,_,_,_,_,_]) b0),d0⟩ rfl rfl rfl ?_;refine z0a U9a rfl rfl ?_;refine d0a ?_;refine z1a ⟨(St.front (A:=[_,_,_,_,_,_,_,_,_,_,_,_]) b0),d0⟩ rfl rfl rfl ?_;refine j0a K0a rfl (fun w1 hw=>by exact hw.1.cell 9 rfl rfl) rfl ?_;refine d0a ?_;refine z1a ⟨(St.front (A:=[_,_,_,_,_,_,_,_,_,_,_,_]) b0),d0⟩ rfl rfl rfl ?_;refine n0a V2a.slT rfl (by rfl) rfl (by omega) (by omega) rfl ?_;refine d0a ?_;refine z1a ⟨(St.front (A:=[_,_,_,_,_,_,_,_,_,_,_,_]) b0),d0⟩ rfl rfl rfl ?_;refine j0a e9a rfl (fun w1 hw=>by exact hw.1.cell 4 rfl ((congrArg (vs[·]?) (show 0+(t:Int).toNat*1=t by simp)).trans L3)) rfl ?_;refine d0a ?_;refine z1a ⟨(St.front (A:=[_,_,_,_,_,_,_,_,_,_,_,_]) b0),d0⟩ rfl rfl rfl ?_;refine J1a j2b rfl (fun w1 hw=>hw.1.cells 2 rfl) rfl rfl ?_;refine d0a ?_;refine q8a ⟨(St.front (A:=[_,_,_,_,_,_,_,_,_,_,_,_]) b0),d0⟩ rfl rfl rfl rfl ?_;refine u0a b0 h3a (vs:=[.agg _]) (cs:=[_,_]) (by rfl) rfl rfl rfl rfl rfl rfl ?_;intro v4 T4 Y0 H0 Y3;have D0:=d0.trans (H0.mono (by simp));replace W0:=W0.keep (H0.of_nil);replace O1:=O1.keep (H0.of_nil);replace P1:=P1.keep (H0.of_nil);refine L0a ⟨rfl,?_⟩;refine q8a ⟨(St.front (A:=[_,_,_,_,_,_,_,_,_,_,_,_,_]) Y0).tail,D0⟩ rfl rfl rfl rfl ?_;obtain⟨G',K2,_,a2,n3,b2⟩:=W0.2.2 t b L0;obtain⟨rfl,rfl⟩:G=G'∧q4=K2:=by rw[p2] at a2;cases a2;exact⟨rfl,rfl⟩
  obtain rfl:=Option.some.inj (L3.symm.trans n3);refine Y0a D1a (k:=13+t) (e1:=⟨(X0b p s k).map L1a.cell,(X0b p s k).map fun a=>a.to.evl (c1a c t) (c1a c t)⟩) Y0 h3a (by decide) ((d5c [_,_,_,_,_,_,_,_,_,_,_,_,_] e0 t 13 rfl).trans p2) b2 rfl rfl (Y0.cells 0 rfl) ⟨_,_,rfl,O1.more (by omega) (fun g hg=>.inl (by rcases List.mem_append.1 hg with h|h;exact J3 g h;exact h)),P1.more (by omega) (fun g hg=>.inl (by rcases List.mem_append.1 hg with h|h;exact J3 g h;exact h))⟩ (by omega) rfl ?_;intro L4 w2 K1 w3 y1 t0 H1 v2;have z2:St [] w0 w3 ([_,_,_,_,_,_,_,_,_,_,_,_,_]++e0.set t (w2,88,K1)):=(O8c [_,_,_,_,_,_,_,_,_,_,_,_,_] e0 t 13 rfl _)▸y1;have z0:=z2.tail;have V0:=D0.trans H1;have I0:=W0.put (k:=t) (by omega) t0 H1 v2 p2;obtain⟨_,_,g2⟩:=t0.form;subst g2;clear hR;refine L0a ⟨rfl,?_⟩;refine z1a ⟨(St.front (A:=[_,_,_,_,_,_,_,_,_,_,_,_]) z0),V0⟩ rfl rfl rfl ?_;refine n0a V2a.slT rfl (by rfl) rfl (by omega) (by omega) rfl ?_;refine d0a ?_;refine j5a ⟨(St.front (A:=[_,_,_,_,_,_,_,_,_,_,_,_]) z0),V0⟩ ?_
  first|refine B0a (kk:=4) z0 R7b rfl (by conv=>lhs;whnf) rfl rfl (by(simp;omega)) ?_
  intro x3 A0 d1;replace I0:=I0.keep (d1.mono (by simp));refine L0a ⟨rfl,?_⟩;refine fO0 rfl ⟨⟩ (w1a a1a rfl (A0.cells 3 rfl) rfl rfl ?_)
  first|refine e0a (kk:=8) (vs:=[_,_,_]) A0 e2a rfl rfl rfl rfl rfl rfl rfl ?_
  intro T3 Q0 I1;dsimp only[k0a,List.set] at Q0;replace I0:=I0.keep (I1.mono (by simp));refine lR0 rfl ⟨⟩ ?_;rw[K6a K3 h3 L0 (k:=k) (by omega)] at v0;rw[m4a h1,o1,K6a K3 h3 L0 (k:=k) (by omega)];have SG:=Q0.setEnt 4 rfl (congrArg (fun i=>vs.set i _) (show 0+(t:Int).toNat*1=t by simp));refine g2a (n:=3) rfl a1a rfl (SG.cells 8 rfl) rfl rfl ⟨⟨_,rfl,_,_,_,rfl,j3.rdI SG (k:=6) rfl hM (X2a hp v0.mem) (by simp;omega),?_,?_⟩,SG.fin⟩
  ·have:=(d3a.ofPad (g:=ga) (l:=atC c t s) (pad:=h0) (by rw[J0];exact i1)).rdI SG (k:=5) rfl hM (W5a hp v0) (by rw[J0];omega);rw[J0] at this;exact this
  ·have hA:=SG.apartM (A:=[_,_,_,_,_,_,_,_,_,_,_,_]) hM;have:=SG.rdBs (M:=M) 4 rfl (Q0a hM (SG.new 4 rfl)) (bs:=c.buf.set t _) (by simp;omega) (I0.rd (A:=[_,_,_,_,_,_,_,_,_,_,_,_]) SG (Mx:=M) (fun g hg=>by simp[hg]) hA (fun x hx=>by
    obtain⟨q,hq,rfl⟩:=List.getElem_of_mem hx;have:=(v0.bufs q _ (List.getElem?_eq_getElem hq)).1;omega))
   rw[List.length_set] at this;exact this
 refine lO0 rfl ⟨⟩ (f1a u4a (vs:=[]) (cs:=[_,_,_]) rfl rfl rfl rfl ?_)
 first|refine e0a (kk:=0) (vs:=[_,_,_]) B0 e2a rfl rfl rfl rfl rfl rfl rfl ?_
 intro V4 Z0 i4;dsimp only[k0a,List.set] at Z0;refine lR0 rfl ⟨⟩ ?_;rw[E3a (of_decide_eq_false O2)];exact g2a (n:=3) rfl a1a rfl (Z0.cells 0 rfl) rfl rfl ⟨⟨_,rfl,x2a⟩,Z0.fin⟩
section
variable {α:Type}
def g8b(s:α→List α)(l:List α)(j:Nat):List α:=match l[j]? with|some c=>s c|none=>[]
def k4c(s:α→List α)(l:List α)(i:Nat)(D:List α)(F:List Int):Prop :=
 F.length=l.length∧∀(k:Nat) (d:α),l[k]?=some d→∃v:Nat,F[k]?=some (v:Int)∧(v=l.length∨(v<i∧d∈g8b s l v)∨(v=i∧d∈D))∧(∀j,j<i→d∈g8b s l j→v≤j)∧(d∈D→v≤i)
variable {s:α→List α} {l D:List α} {i k:Nat} {F:List Int} {d:α}
theorem x1c:k4c s l 0 [] (List.replicate l.length (l.length:Int)) :=
 ⟨by simp,fun k d hk=>⟨l.length,by rw[List.getElem?_replicate_of_lt (List.getElem?_eq_some_iff.1 hk).1],.inl rfl,fun j hj=>by omega,fun h=>by cases h⟩⟩
theorem r2c(h:k4c s l i D F)(hn:l.Nodup)(hk:l[k]?=some d)(hi:i<l.length):∃x,F[k]?=some x∧0≤x∧x≤l.length∧k4c s l i (D++[d]) (F.set k (min x i)):=by
 obtain⟨hl,h⟩:=h;obtain⟨v,h1,h2,h3,_⟩:=h k d hk;refine⟨v,h1,by omega,by omega,by simpa using hl,fun k' d' a0=>?_⟩;have b0:=(List.getElem?_eq_some_iff.1 hk).1;by_cases he:k=k'
 ·subst he;obtain rfl:d=d':=Option.some.inj (hk.symm.trans a0);refine⟨min v i,by rw[List.getElem?_set_self (by omega)];congr 1;omega,?_,fun j hj hd=>?_,fun _=>by omega⟩
  ·rcases h2 with h2|h2|h2
   ·right;right;exact⟨by omega,by simp⟩
   ·right;left;rw[show min v i=v by omega];exact h2
   ·right;right;exact⟨by omega,by simp⟩
  ·have:=h3 j hj hd;omega
 ·obtain⟨v',g1,g2,g3,g4⟩:=h k' d' a0;have d0:d'≠d:=fun hh=>he ((List.getElem?_inj b0 hn).1 (hk.trans (by rw[a0,hh])));refine⟨v',by rw[List.getElem?_set_ne he];exact g1,?_,g3,fun hm=>?_⟩
  ·rcases g2 with g2|g2|g2
   ·exact .inl g2
   ·exact .inr (.inl g2)
   ·exact .inr (.inr ⟨g2.1,List.mem_append_left _ g2.2⟩)
  ·rcases List.mem_append.1 hm with hm|hm
   ·exact g4 hm
   ·exact absurd (List.mem_singleton.1 hm) d0
theorem C2c{c:α}(h:k4c s l i (s c) F)(hc:l[i]?=some c):k4c s l (i+1) [] F:=by
 have hs:g8b s l i=s c:=by unfold g8b;rw[hc]
 refine⟨h.1,fun k d hk=>?_⟩;obtain⟨v,h1,h2,h3,h4⟩:=h.2 k d hk;refine⟨v,h1,?_,fun j hj hd=>?_,fun h=>by cases h⟩
 ·rcases h2 with h2|h2|h2
  ·exact .inl h2
  ·exact .inr (.inl ⟨by omega,h2.2⟩)
  ·obtain⟨rfl,h2⟩:=h2;exact .inr (.inl ⟨by omega,by rw[hs];exact h2⟩)
 ·rcases Nat.lt_or_ge j i with a0|a0
  ·exact h3 j a0 hd
  ·obtain rfl:j=i:=by omega
   rw[hs] at hd;exact h4 hd
variable [DecidableEq α]
theorem y3b{a:α}{n:Nat}(hl:l=bfs s a n)(hn:l.length≤n)(h:k4c s l l.length [] F):∀k,1≤k→k<l.length→∃v:Nat,F[k]?=some (v:Int)∧v<k∧(bfs s a v).length≤k∧k<(bfs s a (v+1)).length:=by
 subst hl;intro k hk b0;obtain⟨i,_,h2,h3⟩:=C3b s a n k hk b0;obtain⟨_,g1,g2,g3,g4⟩:=t6c s a h2 (List.getElem?_eq_getElem h3);have e1:(bfs s a n)[k]?=some (bfs s a (i+1))[k]:=by rw[O9a s a (show i+1≤n by omega) h3,List.getElem?_eq_getElem h3]
 obtain⟨v,f1,f2,f3,_⟩:=h.2 k _ e1;have il:i<(bfs s a i).length:=(List.getElem?_eq_some_iff.1 g1).1;have hv:=f3 i (by omega) (by unfold g8b;rw[O9a s a (show i≤n by omega) il,g1];exact g2);have a0:v=i:=by
  rcases f2 with f2|f2|f2
  ·omega
  ·rcases Nat.lt_or_ge v i with a0|a0
   ·exfalso;have vl:v<(bfs s a i).length:=by omega
    have:=f2.2;unfold g8b at this;rw[O9a s a (show i≤n by omega) vl,List.getElem?_eq_getElem vl] at this;exact g4 v a0 _ (List.getElem?_eq_getElem vl) this
   ·omega
  ·cases f2.2
 subst a0;exact⟨v,f1,g3,h2,h3⟩
theorem D3c{a:α}{n:Nat}(hl:l=bfs s a n)(hn:l.length≤n)(h:k4c s l l.length [] F){x y:Int}(h1:1≤k)(hk:k<l.length)(hx:F[k]?=some x):x<k∧(1<k→F[k-1]?=some y→y≤x):=by
 obtain⟨_,f1,_,_,f4⟩:=y3b hl hn h k h1 hk;obtain rfl:=Option.some.inj (f1.symm.trans hx);refine⟨by omega,fun h2 hy=>?_⟩;obtain⟨_,g1,_,g3,_⟩:=y3b hl hn h (k-1) (by omega) (by omega);obtain rfl:=Option.some.inj (g1.symm.trans hy);have:=W1c s a (show k-1≤k by omega) g3 f4;omega
end
def S3b(l:List q0a):List (Value×Value):=l.zipIdx.map fun x=>(.string (d1b x.1),.int .i64 x.2)
theorem M8b(l:List q0a)(c:q0a):S3b (l++[c])=S3b l++[(.string (d1b c),.int .i64 l.length)]:=by simp[S3b,List.zipIdx_append]
theorem X3b{l:List q0a}{k v:Value}(h:(k,v)∈S3b l):∃(i:Nat) (c:q0a),l[i]?=some c∧k=.string (d1b c)∧v=.int .i64 i:=by
 obtain⟨⟨c,i⟩,hx,he⟩:=List.mem_map.1 h;have h1:=List.mem_zipIdx_iff_getElem?.1 hx;cases he;exact⟨i,c,h1,rfl,rfl⟩
theorem T4b{p:f0a}(hp:d1a p){l:List q0a}{k:Nat}{c:q0a}(hn:l.Nodup)(hf:∀x∈l,c3a p x)(hc:l[k]?=some c):∀x∈S3b (l.take k),x.1≠Value.string (d1b c):=by
 rintro⟨_,_⟩ hx he;obtain⟨i,y,hy,rfl,rfl⟩:=X3b hx;have a0:i<k:=by have:=(List.getElem?_eq_some_iff.1 hy).1;rw[List.length_take] at this;omega
 rw[List.getElem?_take,if_pos a0] at hy;have h1:d1b y=d1b c:=by injection he
 have h3:=h7b hp (hf y (List.mem_of_getElem? hy)) (hf c (List.mem_of_getElem? hc)) h1;subst h3;have:=(List.getElem?_inj (List.getElem?_eq_some_iff.1 hy).1 hn).1 (hy.trans hc.symm);omega
theorem i1c{l:List q0a}{c:q0a}(h:c∈l)(hn:∀x∈S3b l,x.1≠Value.string (d1b c)):False:=by
 obtain⟨i,hi⟩:=List.getElem_of_mem h;obtain⟨hi,he⟩:=hi;refine hn (.string (d1b c),.int .i64 i) (List.mem_map.2 ⟨(c,i),List.mem_zipIdx_iff_getElem?.2 ?_,rfl⟩) rfl;rw[List.getElem?_eq_getElem hi,he]
theorem C1c{p:f0a}(hp:d1a p){l:List q0a}{c:q0a}{v:Value}(hf:∀x∈l,c3a p x)(hc:c3a p c)(h:(Value.string (d1b c),v)∈S3b l):∃i:Nat,l[i]?=some c∧v=.int .i64 i:=by
 obtain⟨i,y,hy,h1,rfl⟩:=X3b h;have h2:d1b c=d1b y:=by injection h1
 obtain rfl:=h7b hp hc (hf y (List.mem_of_getElem? hy)) h2;exact⟨i,hy,rfl⟩
theorem o0b{p:f0a}{m:Int}{a0:Nat}{l:List q0a}(h:f7a p m a0 l 0):∃n,l=bfs (Z5a p m) (T0a p) n∧l.length≤n:=by
 rcases h with⟨_,n,h1,_,rfl⟩|⟨h,_⟩
 ·exact⟨n,t4a ..,by simpa using h1⟩
 ·cases h
theorem n2b{p:f0a}{m:Int}{a0:Nat}{l:List q0a}(h:f7a p m a0 l 0){c d:q0a}(hc:c∈l)(hd:d∈Z5a p m c):d∈l :=
 (N6a h d).2 (.next ((N6a h c).1 hc) hd)
theorem F0b{p:f0a}{m:Int}{a0:Nat}{l:List q0a}(h:f7a p m a0 l 0):l[0]?=some (T0a p):=by
 obtain⟨n,rfl,-⟩:=o0b h;exact p7b _ _ n
theorem e8b{p:f0a}{m:Int}{c:q0a}{j:Nat}{x:A0a}(h:(G0a p m c)[j]?=some x):(Z5a p m c).take (j+1)=(Z5a p m c).take j++[doC p m c x] :=
 H0a (by unfold Z5a;rw[List.getElem?_map,h];rfl)
theorem D9a{F:List Int}{k:Nat}{x:Int}(h:F[k]?=some x){i:Nat}(hi:i=k):(F.map (Value.int .i64))[0+i*1]?=some (.int .i64 x):=by
 subst hi;simp[h]
theorem X7b(p:f0a)(c:q0a)(m:Int)(x:A0a)(hm:(m=0∧t3a c)∨m=1∨m=2)(hx:x∈G0a p m c)(M:List Nat)(w0:World)(cs xs:List Value)(hI:InP p M w0 cs)(hX:t0a M w0 c xs)(hf:c3a p c):
 M0a Tryz.prog 13 #[.agg cs.toArray,.int .i64 m,.agg xs.toArray,.agg #[.int .i64 x.thread,.int .i64 x.step,.int .i64 x.cell]] w0 fun v w'=>(∃ys,v=.tuple #[.agg ys.toArray,.int .i64 0]∧t0a M w' (doC p m c x) ys)∧Below w0.heap.size w0 w':=by
 have:=d0c p c m x hm M w0 cs xs hI hX hf
 rwa [m4a hx] at this
theorem b9a(p:f0a)(m:Int)(hm:0≤m∧m≤255)(w0:World)(cs:List Value)(hP:q1a [] w0 p cs)(hN:y2b p)(hK:q3a [] w0):
 M0a Tryz.prog 3 #[.agg cs.toArray,.int .u8 m] w0 fun v w'=>v=.bool true∧Below w0.heap.size w0 w':=by
 obtain⟨Ac,nc,cc,Am,nm,cm,Al,nl,cl,At,nt,ct,rfl,-⟩:=hP.open_;have S:=St.refl w0;refine a0a Tryz.func3 rfl Tryz.ntmps3 rfl ?_;refine wO0 rfl ⟨⟩ (h0a S (by conv=>lhs;whnf) rfl ?_);intro g2 w2 S2 X2 G2;refine lO0 rfl ⟨⟩ (g0a S2 m1d rfl rfl (o0c _ (hK.keep (S2.keep0 []))) ?_);intro t4 x1 b4;refine lO0 rfl ⟨⟩ (U5b Tryz.underlying5 Tryz.underlying3 rfl rfl ?_);rw[F4a (by unfold i64;omega)];refine R0d rfl rfl (by omega) (by omega) rfl ?_;obtain⟨k3,L3⟩:∃k,k=m % 3:=⟨_,rfl⟩;rw[←L3];have D2:k3=0∨k3=1∨k3=2:=by omega
 refine lO x1.k [.w 0] rfl ⟨⟨rfl,rfl⟩,⟨⟩⟩ (S1c x1 T0d rfl rfl (Y7b p [] _ _ (hP.keep (x1.keep0 [])) (by simp) hN) (fun q0 Z3 H0 q3=>?_) (fun Z3 H0 q3=>?_))
 ·refine lO H0.k [.w 0] rfl ⟨⟨rfl,rfl⟩,⟨⟩⟩ (x0a H0 E4b rfl rfl (U6a p k3 D2 2000 (by omega) (by omega) [] _ _ ⟨hP.keep (H0.keep0 []),q0,hK.keep (H0.keep0 []),by simp⟩) ?_);rintro k4 o1 ⟨_,l,er,rfl,hA,hD⟩ y1 d4;have KA:=y0a.refl [] o1;obtain⟨Av,nv,cv,rfl⟩:=hA.form;obtain⟨E2,-,_⟩:=hA.len;have f2:=w3b hD;have F0:=a8b q0 hD;have i4:=d8b hD;have C2:=N1b hD;refine lB0 rfl ⟨⟩ (fun y3=>?_) fun y3=>?_
  ·refine lB0 rfl ⟨⟩ (fun z3=>?_) (fun z3=>by exfalso;rcases C2 with h|h<;>omega);refine lB0 rfl ⟨⟩ (fun A3=>?_) (fun A3=>by exfalso;rcases C2 with h|⟨-,h⟩;omega;subst h;simp at E2;omega);exact lT rfl ⟨⟩ rfl ⟨rfl,y1.fin⟩
  obtain rfl:er=0:=by omega
  have hg:=fun c hc=>B5a D2 ((N6a hD c).1 hc);refine lO0 rfl ⟨⟩ (G4a (k:=9) y1 rfl ?_);intro e0 W2 j3 u2 a3 d1;have F3:RdS [e0] W2 3 (g3a [e0] W2) (.slice Av nv cv) l:=by
   have f1:∀x∈[e0],x∈([]:List Nat)∨o1.heap.size≤x:=fun x hx=>by rw[List.mem_singleton] at hx;subst hx;exact .inr a3
   have h1:RdS [e0] o1 3 (g3a [e0] o1) (.slice Av nv cv) l:=RdS.moreW (RdS.keepW hA KA (g3a.keep KA)) (by omega) f1 (fun _ _=>t0a.more f1);exact RdS.keepW h1 u2.of_nil (g3a.keep u2.of_nil)
  have d2:w0.heap.size≤e0:=by have:=y1.size;omega
  refine lC0 rfl ⟨⟩ (wL (fun μk D ε w=>D=[]∧∃k:Nat,(k+μk=(l.length))∧(B3a Tryz.prog 9 w e0 (S3b (l.take k)))∧(RdS [e0] w 3 (g3a [e0] w) (.slice Av nv cv) l)∧St [] w0 w [(some g2,27,[.slice Ac nc cc,.slice Am nm cm,.slice Al nl cl,.slice At nt ct])]∧Sl ε [(2,.pointer (some ⟨g2,0,none⟩)),(5,.int .i64 k3),(6,.slice Av nv cv),(8,.map (some e0)),(48,.slice Av nv cv),(49,.int .i64 nv),(50,.int .i64 k)]) (μ:=(l.length)) ⟨rfl,0,by omega,d1,F3,j3,rfl⟩ ?_);rintro μk D ε w ⟨rfl,k,hk,r0,Z0,S,eZ⟩;refine wK eZ ?_;have KW:=y0a.refl [] w;refine wB0 rfl ⟨⟩ (fun B3=>?_) fun B3=>?_
  ·obtain⟨c,u3,Q3,_,s0,P1,_,Z1,U1,G0⟩:=RdS.get (Z0) (k) (by omega);obtain⟨_,_,_,_,_,_,_,_,_,rfl,_,_,_,_,_,_,_,_,_⟩:=t0a.open_ G0;refine lO (S.k.b U1) [.x u3 Q3,.v 0] rfl ⟨⟨rfl,Z1⟩,⟨P1,by omega⟩,⟨⟩⟩ (m0a S Q3a rfl rfl ?_);intro e4 p4 e3 o3 Z2;have P0:=Nat.le_trans KW.size Z2;replace KW:=KW.trans o3;refine lO0 rfl ⟨⟩ (e0a (kk:=0) (vs:=[_,_,_]) e3 e2a rfl rfl rfl rfl rfl rfl rfl ?_);intro Q2 n0 W0;dsimp only[k0a,List.set] at n0;replace KW:=KW.fresh W0 (by first|exact P0);refine lO n0.k [.w 0] rfl ⟨⟨rfl,by rfl⟩,⟨⟩⟩ (x0a n0 u0c rfl rfl (s5b p q0 c (F0 c (c0a s0)) [e0] _ _ (t0a.keep KW.of_nil G0)) ?_);rintro m4 u4 ⟨rfl,M3⟩ s2 r3;replace KW:=KW.trans r3;have x0:keyOf Tryz.prog 9 (.string (d1b c))=some (.string (d1b c).data.toList):=Go.WideMaps.keyOf_string_mk Tryz.underlying9 (by unfold d1b;rw[c6a];unfold maxLen;omega);refine C6a (Go.Maps.string_keyed Tryz.underlying9) Tryz.underlying34 p0d (r0.keep KW (by simp)) rfl rfl x0 rfl (fun v hv=>absurd rfl (T4b q0 f2 F0 s0 _ hv)) (fun _=>?_);refine lO s2.k [.w 0] rfl ⟨⟨rfl,by rfl⟩,⟨⟩⟩ (x0a s2 u0c rfl rfl (s5b p q0 c (F0 c (c0a s0)) [e0] _ _ (t0a.keep KW.of_nil G0)) ?_);rintro n4 v4 ⟨rfl,_⟩ m3 s3;replace KW:=KW.trans s3;refine lO0 rfl ⟨⟩ (m8a m3 (Go.Maps.string_keyed Tryz.underlying9) Tryz.underlying34 (r0.keep KW (by simp)) rfl rfl rfl x0 (T4b q0 f2 F0 s0) (.inl d2) ?_);intro wm Sm Xm Mm;have G3:RdS [e0] wm 3 (g3a [e0] wm) (.slice Av nv cv) l:=RdS.keepW (RdS.keepW Z0 KW.of_nil (g3a.keep KW.of_nil)) Xm (g3a.keep Xm);have KV:=y0a.refl [] wm;refine lP0 rfl ⟨by omega,⟨⟩⟩ ⟨μk-1,by omega,rfl,(k+1),(by omega),?_,?_,Sm.tail,rfl⟩
   ·have z:=Mm.keep KV (by simp);rw[H0a s0,M8b,List.length_take,Nat.min_eq_left (by omega)];exact z
   ·exact RdS.keepW G3 KV.of_nil (g3a.keep KV.of_nil)
  rw[List.take_of_length_le (by omega)] at r0;obtain⟨wa,H2⟩:∃wa,wa=w:=⟨_,rfl⟩;have a0:y0a [] wa w:=H2▸y0a.refl [] _;rw[←H2] at Z0 r0;refine lO0 rfl ⟨⟩ (z1b (n:=nv) (c:=nv) S O0a rfl rfl (by omega) (by omega) (by omega) rfl rfl ?_);intro b0 p1 t2 t3 b3;have h0:=Nat.le_trans a0.size b3;replace a0:=a0.trans t3;refine lCn 5 t2.k [] rfl ⟨⟩ ?_;have x2:RdS [b0] p1 3 (g3a [b0] p1) (.slice Av nv cv) l:=by
   have f1:∀x∈[b0],x∈([]:List Nat)∨wa.heap.size≤x:=fun x hx=>by rw[List.mem_singleton] at hx;subst hx;exact .inr h0
   have h1:RdS [b0] wa 3 (g3a [b0] wa) (.slice Av nv cv) l:=RdS.moreW (RdS.lessW Z0 (M':=[]) (by simp) (fun _ _=>t0a.less (by simp))) (by omega) f1 (fun _ _=>t0a.more f1);exact RdS.keepW h1 a0.of_nil (g3a.keep a0.of_nil)
  obtain⟨wb,I2⟩:∃wb,wb=p1:=⟨_,rfl⟩;have K3:y0a [b0] wb p1:=I2▸y0a.refl _ _;rw[←I2] at x2;refine wC0 rfl ⟨⟩ ?_;refine wL (fun μk D ε w=>D=[]∧∃k:Nat,(k+μk=(nv))∧(y0a [] wa w)∧(y0a [b0] wb w)∧St [] w0 w [(some b0,3,C2a (List.replicate nv (.int .i64 nv)) (.int .i64 0) k),(some g2,27,[.slice Ac nc cc,.slice Am nm cm,.slice Al nl cl,.slice At nt ct])]∧Sl ε [(2,.pointer (some ⟨g2,0,none⟩)),(5,.int .i64 k3),(6,.slice Av nv cv),(8,.map (some e0)),(13,.slice (some ⟨b0,0,none⟩) nv nv),(72,.int .i64 nv),(73,.int .i64 k)]) (μ:=(nv)) ⟨rfl,0,by omega,a0,K3,(t2.setEnt 0 rfl (by rw[I4a];simp)),rfl⟩ ?_;rintro μk D ε w ⟨rfl,k,hk,a0,K3,S,eZ⟩;refine wK eZ (wB0 rfl ⟨⟩ (fun C3=>?_) fun C3=>?_)
  ·refine lO S.k [.i] rfl ⟨by omega,⟨⟩⟩ ?_
   first|refine B0a (kk:=0) S u9a rfl (by conv=>lhs;whnf) rfl rfl (by(simp;omega)) ?_
   intro R2 U0 y0;replace a0:=a0.fresh y0 (by first|exact h0);replace K3:=K3.fresh2 y0 (by exact .inr (by simp));refine lP0 rfl ⟨by omega,⟨⟩⟩ ⟨μk-1,by omega,rfl,(k+1),(by omega),(a0),(K3),(U0.setEnt 0 rfl (m5a (by rw[List.getElem?_replicate_of_lt (by omega)]) (by simp))),rfl⟩
  refine lC0 rfl ⟨⟩ ?_;refine wL (fun μi D ε w=>D=[]∧∃i:Nat,∃F:List Int,(i+μi=(l.length))∧(k4c (Z5a p k3) l i [] F)∧(y0a [] wa w)∧(y0a [b0] wb w)∧St [] w0 w [(some b0,3,F.map (.int .i64)),(some g2,27,[.slice Ac nc cc,.slice Am nm cm,.slice Al nl cl,.slice At nt ct])]∧Sl ε [(2,.pointer (some ⟨g2,0,none⟩)),(5,.int .i64 k3),(6,.slice Av nv cv),(8,.map (some e0)),(13,.slice (some ⟨b0,0,none⟩) nv nv),(82,.slice Av nv cv),(83,.int .i64 nv),(84,.int .i64 i)]) (μ:=(l.length)) ⟨rfl,0,List.replicate l.length (l.length:Int),by omega,x1c,a0,K3,(S.setEnt 0 rfl (by rw[o5a _ _ (by simp;omega)];simp[E2])),rfl⟩ ?_;rintro μi D ε w ⟨rfl,i,F,_,hF,a0,K3,S,eZ⟩;refine wK eZ ?_;obtain⟨wo,J2⟩:∃x,x=w:=⟨_,rfl⟩;have KW:y0a [b0] wo w:=J2▸y0a.refl _ _;refine wB0 rfl ⟨⟩ (fun D3=>?_) fun D3=>?_
  ·obtain⟨c,v3,R3,_,s0,Q1,_,a2,V1,g1⟩:=RdS.get ((RdS.keepW x2 K3 (g3a.keep K3))) (i) (by omega);obtain⟨s1,o2,H1,q1,m2,E1,r1,n2,G1,rfl,_,_,_,_,_,_,_,_,_⟩:=t0a.open_ g1;have y2:=F0 c (c0a s0);have z2:=hg c (c0a s0);have F2:t0a [b0] wo c _:=J2▸g1;refine lO (S.k.b V1) [.x v3 R3,.v 0] rfl ⟨⟨rfl,a2⟩,⟨Q1,by omega⟩,⟨⟩⟩ (m0a S Q3a rfl rfl ?_);intro v2 q4 g3 A1 t1;have A0:=Nat.le_trans a0.size t1;have J0:=Nat.le_trans K3.size t1;have Q0:=Nat.le_trans KW.size t1;replace a0:=a0.trans A1;replace K3:=K3.trans (A1.of_nil);replace KW:=KW.trans (A1.of_nil);refine lO0 rfl ⟨⟩ ?_
   first|refine e0a (kk:=0) (vs:=[_,_,_]) g3 e2a rfl rfl rfl rfl rfl rfl rfl ?_
   intro j1 d0 p0;dsimp only[k0a,List.set] at d0;replace a0:=a0.fresh p0 (by exact A0);replace K3:=K3.fresh2 p0 (by exact .inl J0);replace KW:=KW.fresh2 p0 (by exact .inl Q0);refine lO d0.k [.w 2,.w 0] rfl ⟨⟨rfl,rfl⟩,⟨rfl,rfl⟩,⟨⟩⟩ ?_;have d3:∀g∈[b0],g<j1.heap.size:=fun g hg=>by rw[List.mem_singleton] at hg;subst hg;exact d0.lt 1 rfl
   refine x0a d0 Z4c rfl rfl (z6a p c k3 z2 [] [b0] _ _ _ ⟨hP.keep (d0.keep0 []),q0,hK.keep (d0.keep0 []),by simp⟩ ((F2.keep KW).less (by simp)) y2 d3) ?_;rintro o4 Y2 Y1 n3 B1;replace a0:=a0.trans B1;replace K3:=K3.trans (B1.of_nil);replace KW:=KW.trans (B1.of_nil);have KC:=y0a.refl [b0] Y2;obtain⟨Ach,P2,x3,rfl⟩:=Y1.form;obtain⟨_,-,_⟩:=Y1.len;refine lC0 rfl ⟨⟩ (wL (fun μj D ε w=>D=[]∧∃j:Nat,∃F1:List Int,(j+μj=((G0a p k3 c).length))∧(k4c (Z5a p k3) l i ((Z5a p k3 c).take j) F1)∧(y0a [] wa w)∧(y0a [b0] wb w)∧(y0a [b0] wo w)∧(y0a [b0] Y2 w)∧St [] w0 w [(some v2,38,[.slice s1 o2 H1,.slice q1 m2 E1,.slice r1 n2 G1]),(some b0,3,F1.map (.int .i64)),(some g2,27,[.slice Ac nc cc,.slice Am nm cm,.slice Al nl cl,.slice At nt ct])]∧Sl ε [(2,.pointer (some ⟨g2,0,none⟩)),(5,.int .i64 k3),(6,.slice Av nv cv),(8,.map (some e0)),(13,.slice (some ⟨b0,0,none⟩) nv nv),(15,.int .i64 i),(16,.pointer (some ⟨v2,0,none⟩)),(82,.slice Av nv cv),(83,.int .i64 nv),(84,.int .i64 i),(92,.slice Ach P2 x3),(93,.int .i64 P2),(94,.int .i64 j)]) (μ:=((G0a p k3 c).length)) ⟨rfl,0,F,by omega,(by simpa using hF),a0,K3,KW,KC,n3,rfl⟩ ?_);rintro μj D ε w ⟨rfl,j,F1,_,T1,a0,K3,KW,KC,S,eZ⟩;refine wK eZ (wB0 rfl ⟨⟩ (fun E3=>?_) fun E3=>?_)
   ·obtain⟨x,w3,S3,_,N2,R1,_,b2,W1,h2⟩:=RdS.get ((Y1.keep KC)) (j) (by omega);obtain⟨rfl,_,_,_⟩:=id h2;have K2:=c0a N2;have B2:=n2b hD (c0a s0) (d:=doC p k3 c x) (List.mem_map.2 ⟨x,K2,rfl⟩);have A2:=F0 _ B2;refine lO (S.k.b W1) [.x w3 S3,.v 0] rfl ⟨⟨rfl,b2⟩,⟨R1,by omega⟩,⟨⟩⟩ (m0a S H2c rfl rfl ?_);intro f4 r4 h3 n1 m1;have B0:=Nat.le_trans a0.size m1;have K0:=Nat.le_trans K3.size m1;have R0:=Nat.le_trans KW.size m1;have N0:=Nat.le_trans KC.size m1;replace a0:=a0.trans n1;replace K3:=K3.trans (n1.of_nil);replace KW:=KW.trans (n1.of_nil);replace KC:=KC.trans (n1.of_nil)
    first|refine e0a (kk:=0) (vs:=[_,_,_]) h3 i4b rfl rfl rfl rfl rfl rfl rfl ?_
    intro T2 f0 i0;dsimp only[k0a,List.set] at f0;replace a0:=a0.fresh i0 (by exact B0);replace K3:=K3.fresh2 i0 (by exact .inl K0);replace KW:=KW.fresh2 i0 (by exact .inl R0);replace KC:=KC.fresh2 i0 (by exact .inl N0);refine lO f0.k [.w 3,.w 1,.w 0] rfl ⟨⟨rfl,by rfl⟩,⟨rfl,rfl⟩,⟨rfl,rfl⟩,⟨⟩⟩ (x0a f0 X9c rfl rfl (X7b p c k3 x z2 K2 [] _ _ _ ⟨hP.keep (f0.keep0 []),q0,hK.keep (f0.keep0 []),by simp⟩ ((F2.keep KW).less (by simp)) y2) ?_);rintro T3 q2 ⟨_,rfl,hy⟩ u1 u0;replace a0:=a0.trans u0;replace K3:=K3.trans (u0.of_nil);replace KW:=KW.trans (u0.of_nil);replace KC:=KC.trans (u0.of_nil);have KY:=y0a.refl [] q2;obtain⟨_,_,_,_,_,_,_,_,_,rfl,-⟩:=hy.open_;refine lO0 rfl ⟨⟩ (m0a u1 Q3a rfl rfl ?_);intro g4 s4 i3 X0 I0;have C0:=Nat.le_trans a0.size I0;have L0:=Nat.le_trans K3.size I0;have S0:=Nat.le_trans KW.size I0;have O0:=Nat.le_trans KC.size I0;have T0:=Nat.le_trans KY.size I0;replace a0:=a0.trans X0;replace KY:=KY.trans X0;replace K3:=K3.trans (X0.of_nil);replace KW:=KW.trans (X0.of_nil);replace KC:=KC.trans (X0.of_nil)
    first|refine e0a (kk:=0) (vs:=[_,_,_]) i3 e2a rfl rfl rfl rfl rfl rfl rfl ?_
    intro U2 o0 g0;dsimp only[k0a,List.set] at o0;replace a0:=a0.fresh g0 (by exact C0);replace KY:=KY.fresh g0 (by exact T0);replace K3:=K3.fresh2 g0 (by exact .inl L0);replace KW:=KW.fresh2 g0 (by exact .inl S0);replace KC:=KC.fresh2 g0 (by exact .inl O0);refine lO o0.k [.w 0] rfl ⟨⟨rfl,by rfl⟩,⟨⟩⟩ (x0a o0 u0c rfl rfl (s5b p q0 _ A2 [] _ _ (hy.keep KY)) ?_);rintro U3 X3 ⟨rfl,M3⟩ t0 v0;replace a0:=a0.trans v0;replace K3:=K3.trans (v0.of_nil);replace KW:=KW.trans (v0.of_nil);replace KC:=KC.trans (v0.of_nil);have x0:keyOf Tryz.prog 9 (.string (d1b (doC p k3 c x)))=some (.string (d1b (doC p k3 c x)).data.toList):=Go.WideMaps.keyOf_string_mk Tryz.underlying9 (by unfold d1b;rw[c6a];unfold maxLen;omega);refine C6a (Go.Maps.string_keyed Tryz.underlying9) Tryz.underlying34 p0d (r0.keep a0 (by simp)) rfl rfl x0 rfl (fun V3 i1=>?_) (fun hn=>(i1c B2 hn).elim);obtain⟨q,L2,rfl⟩:=C1c q0 F0 A2 i1;refine lB0 rfl ⟨⟩ (fun I1=>by exfalso;omega) fun I1=>?_;obtain⟨xF,P3,_,J3,I3⟩:=r2c T1 f2 L2 (u1a s0);have j4:=u1a L2;have H3:=T1.1;refine lO t0.k [.i] rfl ⟨by omega,⟨⟩⟩ (s0a K0a rfl (t0.cell 3 rfl (D9a P3 (by simp))) rfl ?_);refine lO0 rfl ⟨⟩ (o1d rfl rfl rfl ?_);refine lO t0.k [.i] rfl ⟨by omega,⟨⟩⟩ ?_
    first|refine B0a (kk:=3) t0 u9a rfl (by conv=>lhs;whnf) rfl rfl (by(simp;omega)) ?_
    intro V2 V0 j0;replace a0:=a0.fresh j0 (by exact h0);replace K3:=K3.fresh2 j0 (by exact .inr (by simp));replace KW:=KW.fresh2 j0 (by exact .inr (by simp));replace KC:=KC.fresh2 j0 (by exact .inr (by simp));refine lP0 rfl ⟨by omega,⟨⟩⟩ ?_;refine⟨μj-1,by omega,rfl,(j+1),(_),(by omega),?_,(a0),(K3),(KW),(KC),(V0.tail.tail.setEnt 1 rfl (show _=(F1.set q (min xF (i:Int))).map (Value.int .i64) by rw[List.map_set];simp)),rfl⟩;rw[e8b N2];exact I3
   refine lP0 rfl ⟨by omega,⟨⟩⟩ ⟨μi-1,by omega,rfl,(i+1),(F1),(by omega),?_,(a0),(K3),S.tail,rfl⟩;exact C2c (by rw[←List.take_of_length_le (l:=Z5a p k3 c) (i:=j) (by unfold Z5a;rw[List.length_map];omega)];exact T1) s0
  obtain rfl:i=l.length:=by omega
  obtain⟨_,N3,O3⟩:=o0b hD;have J3:=hF.1;refine lC0 rfl ⟨⟩ (wL (fun μk D ε w=>D=[]∧∃k:Nat,(k+μk=max (l.length) 1)∧(1≤k)∧(y0a [] wa w)∧St [] w0 w [(some b0,3,F.map (.int .i64)),(some g2,27,[.slice Ac nc cc,.slice Am nm cm,.slice Al nl cl,.slice At nt ct])]∧Sl ε [(2,.pointer (some ⟨g2,0,none⟩)),(6,.slice Av nv cv),(13,.slice (some ⟨b0,0,none⟩) nv nv),(23,.int .i64 k)]) (μ:=(max (l.length) 1-1)) ⟨rfl,1,by omega,by omega,a0,S,rfl⟩ ?_);rintro μk D ε w ⟨rfl,k,hk,_,a0,S,eZ⟩;refine wK eZ (wB0 rfl ⟨⟩ (fun J1=>?_) fun J1=>?_)
  ·obtain⟨xk,j2⟩:∃x,F[k]?=some x:=⟨F[k]'(by omega),List.getElem?_eq_getElem _⟩;obtain⟨yk,O2⟩:∃x,F[k-1]?=some x:=⟨F[k-1]'(by omega),List.getElem?_eq_getElem _⟩;have zl:=D3c (y:=yk) N3 O3 hF (by omega) (by omega) j2;refine lC0 rfl ⟨⟩ (v0a b0a [0,1,2,3,4,5,6,7,8,9,10,11,12,13,14,15,16,17,18,19,20,21] [] [] (by kernel_rfl) rfl (Cl _ _ _ _) (Cl.start S) ?_);refine qO S.q [.i] rfl ⟨by omega,⟨⟩⟩ (j0a K0a rfl (fun w1 hw=>by exact hw.1.cell 0 rfl (D9a j2 (Int.toNat_natCast k))) rfl ?_);refine qB0 rfl ⟨⟩ (fun K1=>by exfalso;omega) fun K1=>?_;refine qB0 rfl ⟨⟩ (fun M1=>?_) fun M1=>?_
   ·refine qO S.q [.i] rfl ⟨by omega,⟨⟩⟩ (j0a K0a rfl (fun w1 hw=>by exact hw.1.cell 0 rfl (D9a j2 (Int.toNat_natCast k))) rfl ?_);refine qO S.q [.i] rfl ⟨by omega,by omega,⟨⟩⟩ (j0a K0a rfl (fun w1 hw=>by exact hw.1.cell 0 rfl (D9a O2 (Int.toNat_sub k 1))) rfl ?_);refine qB0 rfl ⟨⟩ (fun N1=>by exfalso;have:=zl.2 (by omega) O2;omega) (fun N1=>?_);refine qD rfl ⟨⟩ ?_;rintro r2 ⟨D0,E0⟩;replace a0:=a0.trans E0;refine lP0 rfl ⟨by omega,⟨⟩⟩ ⟨μk-1,by omega,rfl,(k+1),(by omega),(by omega),(a0),D0,rfl⟩
   refine qD rfl ⟨⟩ ?_;rintro r2 ⟨D0,E0⟩;replace a0:=a0.trans E0;refine lP0 rfl ⟨by omega,⟨⟩⟩ ⟨μk-1,by omega,rfl,(k+1),(by omega),(by omega),(a0),D0,rfl⟩
  have h4:=u1a (F0b hD);refine lC0 rfl ⟨⟩ (v0a b0a [0,1,2,3,4,5,6,7] [8] [9,10,11] (by kernel_rfl) rfl (Cl _ _ _ _) (Cl.start S) ?_);refine qB0 rfl ⟨⟩ (fun O1=>?_) (fun O1=>by exfalso;omega);obtain⟨c0,D1,p2,_,i2,Y0,_,b1,a1,z0⟩:=RdS.get ((RdS.keepW Z0 a0.of_nil (g3a.keep a0.of_nil))) (0) (by omega);obtain⟨_,_,_,_,_,_,_,_,_,rfl,_,_,_,_,_,_,_,_,_⟩:=t0a.open_ z0;refine qN (S.q.b a1) [.x D1 p2,.v 0,.w 1] rfl ⟨⟨rfl,rfl⟩,⟨rfl,b1⟩,⟨Y0,by omega⟩,⟨⟩⟩ (V3a ?_);refine o8a (_) rfl rfl B8c rfl (fun _ _ _ ⟨xs,h,hX⟩ K=>⟨xs,h,hX.keep K⟩) (fun w1 S1 X1=>N7b p [] _ _ ⟨hP.keep (S1.keep0 []),q0,hK.keep (S1.keep0 []),by simp⟩) ?_;refine R1a ?_;rintro a4 ⟨z1,C1⟩;rintro W3 ⟨xs,rfl,hX⟩;dsimp only[R3a];obtain⟨_,_,_,_,_,_,_,_,_,rfl,-⟩:=hX.open_;refine lO0 rfl ⟨⟩ (g0a z1 j5c rfl rfl (y4a (R7a c0 (T0a p) [] _ _ _ ((t0a.keep (M:=[e0]) C1.of_nil z0).less (by simp)) hX) (decide_eq_true (Option.some.inj (i2.symm.trans (F0b hD))))) ?_);intro Y3 v1 p3;exact lT rfl ⟨⟩ rfl ⟨rfl,v1.fin⟩
 exact lT rfl ⟨⟩ rfl ⟨rfl,H0.fin⟩
end Go.Fw
