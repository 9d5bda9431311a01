/-
  Part 5 of 9 of the proof of ExploreClosure: what it leans on. No conditions.
-/
import Derived.Test.YtfkfflniambckaaGreatDoorZExploreClosure4
set_option maxRecDepth 100000
set_option maxHeartbeats 4000000
namespace Go.Proofs.YtfkfflniambckaaGreatDoor
end Go.Proofs.YtfkfflniambckaaGreatDoor
namespace Go.Fw
open Go.Proofs.YtfkfflniambckaaGreatDoor Go.Proofs Go.RowKit
theorem F0a.stepM{M Ms:List Nat}{w0 w w':World}(h:F0a M w0 w)(k:F0a Ms w w')(hM:∀g∈Ms,w0.heap.size≤g):F0a M w0 w' :=
 ⟨k.os.trans h.os,k.tape.trans h.tape,k.output.trans h.output,Nat.le_trans h.size k.size,fun i hi hm=>(k.block i (Nat.lt_of_lt_of_le hi h.size) (fun hh=>by have:=hM i hh;omega)).trans (h.block i hi hm)⟩
theorem k8b{A N M:List Nat}{w w':World}{v:Value}{V:List K2a}(h:RdS (A++M) w 7 (g6a (A++M) w) v V)(hk:y0a A w w')(hN:∀g∈N,g∈A++M∨w.heap.size≤g):RdS N w' 7 (g6a N w') v V:=by
 have hm:∀g∈A++N,g∈A++M∨w.heap.size≤g:=fun g hg=>by
  rcases List.mem_append.1 hg with h|h
  ·exact .inl (List.mem_append_left _ h)
  ·exact hN g h
 have a0:y0a (A++N) w w':=hk.mono (fun g hg=>List.mem_append_left _ hg);have h1:RdS (A++N) w 7 (g6a (A++N) w) v V:=RdS.moreW h (by omega) hm (fun _ _=>g6a.more hm);have h2:RdS (A++N) w' 7 (g6a (A++N) w') v V:=RdS.keepW h1 a0 (fun _ _=>g6a.keep a0);exact RdS.lessW h2 (fun g hg=>List.mem_append_right _ hg) (fun _ _=>g6a.more (fun g hg=>.inl (List.mem_append_right _ hg)))
theorem NC.keepW{w w':World}{rs:List (Nat×Obj)}(h:NC w rs){Gs:List Nat}(k:y0a Gs w w')(hg:∀x∈rs,x.1∉Gs):NC w' rs:=fun x hx =>
 ⟨(k.same x.1 (h.lt x hx) (hg x hx)).trans (h x hx).1,(h x hx).2⟩
theorem St.keepsW{M:List Nat}{w0 w w':World}{L:List Ent}(S:St M w0 w L){Ws:List Nat}(hB:F0a Ws w w')(h1:∀g∈Ws,g<w0.heap.size→g∈M)(h2:∀b∈L,∀g,b.1=some g→g∉Ws):St M w0 w' L :=
 S.keeps ⟨hB.os.trans S.below.os,hB.tape.trans S.below.tape,hB.output.trans S.below.output,Nat.le_trans S.below.size hB.size,fun k hk hm=>(hB.block k (Nat.lt_of_lt_of_le hk S.below.size) (fun hh=>hm (h1 k hh hk))).trans (S.below.block k hk hm)⟩
  (fun b hb g hg=>hB.block g (S.own b hb g hg).2.lt (h2 b hb g hg))
section
variable {P:Program} {fn:Func} {R:Value→World→Prop} {D:List Deferred} {e:Env} {w:World}
theorem v0b{a1 t1 a2 t2 g1 g2:Nat}{v1 v2:Value}(h:fn.results=#[.cell a1 t1,.cell a2 t2])(o1:One P t1)(o2:One P t2)(e1:e a1=.pointer (some ⟨g1,0,none⟩))(e2:e a2=.pointer (some ⟨g2,0,none⟩))
 (rs:List Nat) (hD:D=rs.map f8a) (hn:rs.Nodup) (hO:NC w (K7a rs)) (a0:w.cell? ⟨g1,0,none⟩=some v1) (b0:w.cell? ⟨g2,0,none⟩=some v2) (d0:g1∉rs) (e0:g2∉rs) (hR:∀w',F0a rs w w'→R (.tuple #[v1,v2]) w'):I6a P fn R D e w :=
 ⟨rs,hD,hn,hO,fun w' hb _ tmps he=>by
  have hk:y0a rs w w':=⟨hb.size,hb.block⟩;have c1:=hk.cell (a:=⟨g1,0,none⟩) d0 a0;have c2:=hk.cell (a:=⟨g2,0,none⟩) e0 b0;subst he;simp only[W0a,Array.getD_eq_getD_getElem?] at e1 e2;have h1:(loadVar t1 ⟨g1,0,none⟩).run P w'=.ok v1 w':=by rw[o1 w'];simp[load,Sem.run,c1]
  have h2:(loadVar t2 ⟨g2,0,none⟩).run P w'=.ok v2 w':=by rw[o2 w'];simp[load,Sem.run,c2]
  exact⟨_,by simp[results,h,asAddr,e1,e2,h1,h2],hR w' hb⟩⟩
end
theorem H9c(gS:Nat)(w0:World):
 M0a Tryz.prog 73 #[.pointer (some ⟨gS,0,none⟩)] w0 fun v w'=>(∃gP,v=.func (.func 110) #[] #[.pointer (some ⟨gP,0,none⟩)]∧w0.heap.size≤gP∧p0a w' (gP,77,[.pointer (some ⟨gS,0,none⟩)]))∧Below w0.heap.size w0 w':=by
 have S:=St.refl w0;refine a0a Tryz.func73 rfl Tryz.ntmps73 rfl ?_;refine wO0 rfl ⟨⟩ (Z6a S (v:=.pointer _) rfl rfl rfl ?_);intro g1 w1 S1 X1 G1;refine lO0 rfl ⟨⟩ (N1a rfl rfl ?_);refine lR0 rfl ⟨⟩ (o0a rfl (by conv=>lhs;whnf) ?_);exact⟨⟨g1,rfl,by simpa using S1.new 0 rfl,S1.blk 0 rfl⟩,S1.fin⟩
structure Acc (p:f0a) (m:Int) (gS:Nat) (f:FuncId) (caps:List Value) (Bs0 M0:List Nat) (wf:World) (acc:q0a→Bool) (J0:Nat→List Nat→List Nat→World→Prop):Prop where
 has:Has Tryz.prog f
 start:J0 0 Bs0 [gS] wf
 own:∀k Bs Ts Ts' w w',J0 k Bs Ts w→(∀g∈Ts,g∉Bs∧(g=gS∨wf.heap.size≤g))→(∀g∈Ts',g∈Ts∨w.heap.size≤g)→y0a Ts w w'→J0 k Bs Ts' w'
 lt:∀k Bs Ts w,J0 k Bs Ts w→∀g∈Bs,g<w.heap.size
 call:∀k Bs Ts w V y ys,J0 k Bs Ts w→(∀g∈Ts,g∉Bs∧(g=gS∨wf.heap.size≤g))→X3a p m V→V.length=k+1→V[k]?=some y→t0a (Ts++(Bs++M0)) w y.conf ys→wf.heap.size≤w.heap.size→k<100000 →
  M0a Tryz.prog f (Value.agg ys.toArray::caps).toArray w fun r w'=>r=.bool (acc y.conf)∧∃Bs',J0 (k+1) Bs' Ts w'∧F0a Bs w w'∧∀g∈Bs',g∈Bs∨w.heap.size≤g
structure W0d (gS:Nat) (wf:World) (Bs N Ts:List Nat):Prop where
 sub:∀g∈N,g∈Ts
 ok:∀g∈Ts,g∉Bs∧(g=gS∨wf.heap.size≤g)
def e7a(p:f0a)(m:Int)(limit gS:Nat)(c0 c1 c2 c3:Value)(N M:List Nat)(wf:World)(acc:q0a→Bool)(J0:Nat→List Nat→List Nat→World→Prop)(w:World)(i err:Int):Prop :=
 (err=0∧∃(k:Nat) (V:List K2a) (v:Value) (Bs Ts:List Nat),i=k∧X3a p m V∧V.length=k+1∧k<limit∧(∀j y,j<k→V[j]?=some y→acc y.conf=false)∧(∃y,V[k]?=some y∧acc y.conf=true)∧W0d gS wf Bs N Ts ∧
   p0a w (gS,80,[c0,c1,c2,c3,.int .i64 m,v])∧RdS (Bs++M) w 7 (g6a (Bs++M) w) v V∧J0 (k+1) Bs Ts w) ∨
 (err=2∧∃V,X3a p m V∧V.length=limit+1∧∀j y,j<limit→V[j]?=some y→acc y.conf=false) ∨
 (err=4∧∃n Bs Ts,(e3a p m n).length≤n∧(e3a p m n).length≤limit∧(∀y∈e3a p m n,acc y.conf=false)∧W0d gS wf Bs N Ts∧J0 (e3a p m n).length Bs Ts w)
theorem e7a.keep{p:f0a}{m:Int}{a0 gS:Nat}{c0 c1 c2 c3:Value}{N A M Bs0 M0:List Nat}{acc:q0a→Bool}{J0:Nat→List Nat→List Nat→World→Prop}{w w' wf:World}{i b0:Int}{f:FuncId}{caps:List Value}(hA:Acc p m gS f caps Bs0 M0 wf acc J0)
 (h:e7a p m a0 gS c0 c1 c2 c3 N M wf acc J0 w i b0) (hk:y0a A w w') (h1:∀g∈A,g∈N∧g∈M) (h2:gS∉A):e7a p m a0 gS c0 c1 c2 c3 N M wf acc J0 w' i b0:=by
 rcases h with⟨he,k,V,v,Bs,Ts,q1,q2,q3,q4,q5,q6,q7,q8,q9,e0⟩|h|⟨he,n,Bs,Ts,q1,q2,q3,q4,q5⟩
 ·have d0:y0a (Bs++M) w w':=hk.mono (fun g hg=>List.mem_append_right _ (h1 g hg).2);exact .inl ⟨he,k,V,v,Bs,Ts,q1,q2,q3,q4,q5,q6,q7,x1a hk h2 q8,RdS.keepW q9 d0 (fun _ _=>g6a.keep d0),hA.own _ _ Ts Ts _ _ e0 q7.ok (fun g hg=>.inl hg) (hk.mono fun g hg=>q7.sub g (h1 g hg).1)⟩
 ·exact .inr (.inl h)
 ·exact .inr (.inr ⟨he,n,Bs,Ts,q1,q2,q3,q4,hA.own _ _ Ts Ts _ _ q5 q4.ok (fun g hg=>.inl hg) (hk.mono fun g hg=>q4.sub g (h1 g hg).1)⟩)
theorem e7a.less{p:f0a}{m:Int}{a0 gS:Nat}{c0 c1 c2 c3:Value}{N N' M M':List Nat}{acc:q0a→Bool}{J0:Nat→List Nat→List Nat→World→Prop}{w wf:World}{i b0:Int}
 (h:e7a p m a0 gS c0 c1 c2 c3 N M wf acc J0 w i b0) (hN:∀g∈N',g∈N) (hM:∀g∈M',g∈M):e7a p m a0 gS c0 c1 c2 c3 N' M' wf acc J0 w i b0:=by
 rcases h with⟨he,k,V,v,Bs,Ts,q1,q2,q3,q4,q5,q6,q7,q8,q9,d0⟩|h|⟨he,n,Bs,Ts,q1,q2,q3,q4,q5⟩
 ·have hB:∀g∈Bs++M',g∈Bs++M:=fun g hg=>by
   rcases List.mem_append.1 hg with h|h
   ·exact List.mem_append_left _ h
   ·exact List.mem_append_right _ (hM g h)
  exact .inl ⟨he,k,V,v,Bs,Ts,q1,q2,q3,q4,q5,q6,⟨fun g hg=>q7.sub g (hN g hg),q7.ok⟩,q8,RdS.lessW q9 hB (fun _ _=>g6a.more (fun g hg=>.inl (hB g hg))),d0⟩
 ·exact .inr (.inl h)
 ·exact .inr (.inr ⟨he,n,Bs,Ts,q1,q2,q3,⟨fun g hg=>q4.sub g (hN g hg),q4.ok⟩,q5⟩)
theorem K6b(p:f0a)(m:Int)(hm:m=0∨m=1∨m=2)(a0 gS:Nat)(o1:a0≤100000)(c0 c1 c2 c3:Value)(f:FuncId)(caps:List Value)(Bs0 M0:List Nat)(w0:World)(acc:q0a→Bool)(J0:Nat→List Nat→List Nat→World→Prop)(hI:InP p (gS::(Bs0++M0)) w0 [c0,c1,c2,c3])
 (P0:p0a w0 (gS,80,[c0,c1,c2,c3,.int .i64 m,.slice none 0 0])) (I1:gS∉Bs0) (hA:Acc p m gS f caps Bs0 M0 w0 acc J0) :
 M0a Tryz.prog 35 #[.pointer (some ⟨gS,0,none⟩),.int .i64 a0,.func (.func f) #[] caps.toArray] w0 fun v w'=>(∃i t0,v=.tuple #[.int .i64 i,.int .i64 t0]∧e7a p m a0 gS c0 c1 c2 c3 [] M0 w0 acc J0 w' i t0)∧F0a (gS::Bs0) w0 w':=by
 have S:=St.base (gS::Bs0) w0;have K0:=y0a.refl [] w0;have hp:=hI.ok;refine u7a Tryz.func35 rfl Tryz.ntmps35 rfl (wI ?_);refine wO0 rfl ⟨⟩ (Z6a S (v:=.pointer _) rfl rfl rfl ?_);intro g3 w3 S3 X3 G3;replace K0:=K0.trans X3;refine Z6a S3 (v:=.int .i64 _) rfl rfl rfl ?_;intro g4 w4 S4 X4 G4;replace K0:=K0.trans X4;refine Z6a S4 (v:=.func _ _ _) rfl rfl rfl ?_;intro g5 w5 S5 X5 G5;replace K0:=K0.trans X5;refine m0a S5 p0d rfl rfl ?_;intro g6 w6 S6 X6 G6;replace K0:=K0.trans X6;refine m0a S6 w9c rfl rfl ?_;intro g7 w7 S7 X7 G7;replace K0:=K0.trans X7;refine lO S7.k [.o 4] rfl ⟨rfl,⟨⟩⟩ (x0a S7 d9c rfl rfl (H9c gS _) ?_);rintro C2 h0 ⟨gP,rfl,P1,f2⟩ r0 Q1;replace K0:=K0.trans Q1;have J2:w0.heap.size≤gP:=Nat.le_trans S7.size P1;have H2:w0.heap.size≤g6∧g6<h0.heap.size:=⟨by have:=S5.size;omega,r0.lt 1 rfl⟩;have I2:w0.heap.size≤g7∧g7<h0.heap.size:=⟨by have:=S6.size;omega,r0.lt 0 rfl⟩;have G2:w0.heap.size≤g5∧g5<h0.heap.size:=⟨by have:=S4.size;omega,r0.lt 2 rfl⟩;have F2:w0.heap.size≤g4∧g4<h0.heap.size:=⟨by have:=S3.size;omega,r0.lt 3 rfl⟩;have E2:w0.heap.size≤g3∧g3<h0.heap.size:=⟨by omega,r0.lt 4 rfl⟩;refine lC0 rfl ⟨⟩ (wJ ?_);have Y1:p0a h0 (gS,80,[c0,c1,c2,c3,.int .i64 m,.slice none 0 0]):=x1a K0 (by simp) P0;have Zw:=r0.size;have lS:=P0.lt;simp only at lS;refine z7a (vs:=fun y=>#[y,_]) j6c rfl (fun _=>rfl) (fun rc wi t1 N1 r2 m1 p2 has g2 i2 hl hB z2=>?_);obtain⟨l,M1⟩:∃l,l=h0.heap.size+1:=⟨_,rfl⟩;obtain⟨mk,p1⟩:∃mk,mk=h0.heap.size:=⟨_,rfl⟩;have V0:=p7a (NC.nil (w:=h0)) i2 hl hB;rw[←M1,←p1] at V0;rw[←M1] at hl ⊢;have Si:=r0.later hB;have Ki:y0a [] h0 wi:=y0a.of_below hB;have A1:=K0.trans Ki;have G0:∀g∈Bs0,g<w0.heap.size:=hA.lt _ _ _ _ hA.start;have E1:=x1a Ki (by simp) Y1;have y0:=x1a Ki (by simp) f2;have d0:∀x∈[(mk,Obj.deferred (some []))],x.1≠l:=fun x hx=>by
  rw[List.mem_singleton] at hx;subst hx;show mk≠l;omega
 have a2:∀g∈l::mk::g6::[g7],w0.heap.size≤g∧g<wi.heap.size:=fun g hg=>by
  simp only[List.mem_cons,List.not_mem_nil,or_false] at hg;rcases hg with rfl|rfl|rfl|rfl<;>omega
 have n0:∀(Ba Ts:List Nat),(∀g∈Ba,g∈Bs0∨wi.heap.size≤g)→(∀g∈Ts,g∉l::mk::Ba∧(g=gS∨wi.heap.size≤g))→∀g∈l::mk::g6::g7::Ts,g∉Ba∧(g=gS∨w0.heap.size≤g):=fun Ba Ts f0 hT g hg=>by
  by_cases hh:g∈l::mk::g6::[g7]
  ·have h1:=a2 g hh;refine⟨fun h2=>?_,.inr h1.1⟩;rcases f0 g h2 with h|h
   ·have:=G0 g h;omega
   ·omega
  ·have h1:=hT g (by simp only[List.mem_cons,List.not_mem_nil,or_false] at hg hh;grind);exact⟨fun h2=>h1.1 (by simp[h2]),h1.2.imp id (fun h=>by omega)⟩
 have V1:J0 0 Bs0 (l::mk::g6::g7::[gS]) wi:=hA.own 0 Bs0 [gS] _ w0 wi hA.start (fun g hg=>by rw[List.mem_singleton] at hg;subst hg;exact⟨I1,.inl rfl⟩) (fun g hg=>by
  simp only[List.mem_cons,List.not_mem_nil,or_false] at hg ⊢;rcases hg with rfl|rfl|rfl|rfl|rfl
  ·right;omega
  ·right;omega
  ·right;omega
  ·right;omega
  ·left;rfl) A1.of_nil
 have U1:InP p (gS::((l::mk::Bs0)++([g6,g7]++M0))) wi [c0,c1,c2,c3]:=InP.grow (Bs0:=[]) hI A1 (fun g hg=>by
  simp only[List.cons_append,List.nil_append,List.mem_cons,List.mem_append] at hg ⊢;rcases hg with rfl|rfl|rfl|hg|rfl|rfl|hg
  ·simp
  ·right;omega
  ·right;omega
  ·simp[hg]
  ·right;omega
  ·right;omega
  ·simp[hg]) (fun g hg=>by
  simp only[List.cons_append,List.nil_append,List.mem_cons,List.mem_append] at hg;rcases hg with rfl|rfl|rfl|hg|rfl|rfl|hg
  ·omega
  ·omega
  ·omega
  ·have:=G0 g hg;omega
  ·omega
  ·omega
  ·have:=hI.lt g (by simp[hg]);omega)
 have g1:∀b∈([(some g7,31,[.int .i64 0]),(some g6,3,[.int .i64 0]),(some g5,83,[.func (.func f) #[] caps.toArray]),(some g4,3,[.int .i64 a0]),(some g3,77,[.pointer (some ⟨gS,0,none⟩)])]:List Ent),∀g,b.1=some g→∀Ws:List Nat,(∀g∈Ws,g=gS∨wi.heap.size≤g)→g∉Ws:=fun b hb g hg Ws hW hh=>by
  have h1:=(Si.own b hb g hg).2;rcases hW g hh with rfl|h2
  ·simp only[List.mem_cons,List.not_mem_nil,or_false] at hb;rcases hb with rfl|rfl|rfl|rfl|rfl<;>exact a6a h1 E1 (by decide) rfl
  ·have:=h1.lt;simp at this;omega
 have o0:∀b∈([(some g7,31,[.int .i64 0]),(some g6,3,[.int .i64 0]),(some g5,83,[.func (.func f) #[] caps.toArray]),(some g4,3,[.int .i64 a0]),(some g3,77,[.pointer (some ⟨gS,0,none⟩)])]:List Ent),∀g,b.1=some g→w0.heap.size≤g∧g<wi.heap.size:=fun b hb g hg=>by
  simp only[List.mem_cons,List.not_mem_nil,or_false] at hb;rcases hb with rfl|rfl|rfl|rfl|rfl<;>(simp only[Option.some.injEq] at hg;subst hg;omega)
 refine M0a.mono (A6c p m hm gP gS l c0 c1 c2 c3 (l::mk::Bs0) ([g6,g7]++M0) a0 o1 wi (fun k Bs Ts w=>∃Ba,Bs=l::mk::Ba∧k≤a0∧J0 k Ba (l::mk::g6::g7::Ts) w∧NC w [(l,.loop rc),(mk,.deferred (some []))]∧St (gS::Bs0) w0 w [(some g7,31,[.int .i64 0]),(some g6,3,[.int .i64 0]),(some g5,83,[.func (.func f) #[] caps.toArray]),(some g4,3,[.int .i64 a0]),(some g3,77,[.pointer (some ⟨gS,0,none⟩)])]∧(∀g∈Ba,g∈Bs0∨wi.heap.size≤g)∧∀V,X3a p m V→∀j y,j<k→V[j]?=some y→acc y.conf=false) (fun w=>∃i t0,NC w [(l,.loop { rc with state:=.done,pending:=some .ret }),(mk,.deferred (some []))]∧St (gS::Bs0) w0 w [(some g7,31,[.int .i64 t0]),(some g6,3,[.int .i64 i]),(some g5,83,[.func (.func f) #[] caps.toArray]),(some g4,3,[.int .i64 a0]),(some g3,77,[.pointer (some ⟨gS,0,none⟩)])]∧e7a p m a0 gS c0 c1 c2 c3 [l,mk,g6,g7] ([l,mk,g6,g7]++M0) w0 acc J0 w i t0) U1 y0 E1 (fun hh=>?_) (fun hh=>?_) ⟨?_,?_,fun k Bs Ts w V v hJ L0 b2 e0 S0 Q0 n1 q2 A2=>?_⟩ ⟨Bs0,rfl,Nat.zero_le _,V1,V0,Si,fun g hg=>.inl hg,fun V _ j y hj=>absurd hj (by omega)⟩) ?_
 ·simp only[List.mem_cons] at hh;have:=y0.lt;rcases hh with rfl|rfl|hh
  ·have h1:=(V0 (gP,.loop rc) (by simp)).1;unfold p0a at y0;rw[y0] at h1;cases h1
  ·have h1:=(V0 (gP,.deferred (some [])) (by simp)).1;unfold p0a at y0;rw[y0] at h1;cases h1
  ·have:=G0 gP hh;omega
 ·simp only[List.mem_cons] at hh;rcases hh with hh|hh|hh
  ·omega
  ·omega
  ·exact I1 hh
 ·rintro k Bs Ws y2 w w' ⟨Ba,rfl,hk,hj,hO,S3,f0,q0⟩ hW d2 f1;have H1:∀g∈Ws,g=gS∨wi.heap.size≤g:=fun g hg=>(hW g hg).2;exact⟨Ba,rfl,hk,hA.own k Ba _ _ w w' hj (n0 Ba Ws f0 hW) (fun g hg=>by
   simp only[List.mem_cons] at hg ⊢;rcases hg with rfl|rfl|rfl|rfl|hg
   ·simp
   ·simp
   ·simp
   ·simp
   ·rcases d2 g hg with h|h
    ·simp[h]
    ·exact .inr h) ((y0a.of_belowM f1).mono (fun g hg=>by simp[hg])),hO.keepW (y0a.of_belowM f1) (fun x hx hh=>by
   simp only[List.mem_cons,List.not_mem_nil,or_false] at hx;rcases hx with rfl|rfl
   ·exact(hW _ hh).1 (by simp)
   ·exact(hW _ hh).1 (by simp)),S3.keepsW f1 (fun g hg o2=>(H1 g hg).elim (fun h=>by simp[h]) (fun h=>by omega)) (fun b hb g hg=>g1 b hb g hg Ws H1),f0,q0⟩
 ·rintro k Bs Ts w ⟨Ba,rfl,hk,hj,hO,S3,f0,q0⟩ g hg;simp only[List.mem_cons] at hg;rcases hg with rfl|rfl|hg
  ·exact hO.lt (g,.loop rc) (by simp)
  ·exact hO.lt (g,.deferred (some [])) (by simp)
  ·exact hA.lt k Ba _ w hj g hg
 ·obtain⟨Ba,rfl,hk,hj,g0,S3,f0,q0⟩:=hJ;have z3:=S3.size;have x1:∀g,w0.heap.size≤g→g<wi.heap.size→g∉Ba:=fun g h1 h2 hh=>by
   rcases f0 g hh with h|h
   ·have:=G0 g h;omega
   ·omega
  refine Y6c (g0 (l,.loop rc) (by simp)).1 t1 r2 m1 p2 has g2 rfl ?_;refine wI ?_;refine wF0 rfl ⟨⟩ ?_;refine⟨(g0 (l,.loop rc) (by simp)).1,?_⟩;have Sb:=S3.putObj (.loop { rc with state:=.busy }) g0 (List.mem_cons_self) (.inl (by omega));have b0:=g0.put (o':=.loop { rc with state:=.busy }) d0 (by simp);have Kw:y0a [l] w (w.putObj l (.loop { rc with state:=.busy })):=V1a w l (.loop { rc with state:=.busy });generalize w.putObj l (.loop { rc with state:=.busy })=wb at Sb b0 Kw ⊢;have D1:=x1a Kw (by simp;omega) Q0;have W0:RdS (l::mk::(Ba++([g6,g7]++M0))) wb 7 (g6a (Ts++(l::mk::(Ba++([g6,g7]++M0)))) wb) v V:=RdS.keepW q2 (Kw.mono (by simp)) (fun _ _=>g6a.keep (Kw.mono (by simp)));have I0:=n0 Ba Ts f0 L0;have j2:=hA.own k Ba _ _ w wb hj I0 (fun g hg=>.inl hg) (Kw.mono (by simp));obtain⟨Av,nv,cv,rfl⟩:=W0.form;obtain⟨_,-,_⟩:=W0.len;have cV:=D1.cell (o:=5) rfl;refine wI ?_;refine wO0 rfl ⟨⟩ (s0a K0a rfl (by exact Sb.cell 3 rfl rfl) rfl ?_);refine lB0 rfl ⟨⟩ (fun R1=>?_) fun R1=>?_
  ·refine lO0 rfl ⟨⟩ (B0a (kk:=1) Sb u9a rfl (by conv=>lhs;whnf) rfl rfl (by exact Nat.le_of_ble_eq_true rfl) ?_);intro s2 z0 a1;replace b0:=by exact b0.keepS a1 (Sb.blk 1 rfl)
   refine B0a (kk:=0) z0 v8a rfl (by conv=>lhs;whnf) rfl rfl (by exact Nat.le_of_ble_eq_true rfl) ?_;intro y1 Y0 b1;replace b0:=by exact b0.keepS b1 (z0.blk 0 rfl)
   refine lR0 rfl ⟨⟩ ?_;refine⟨{ rc with state:=.busy },(b0 (l,_) (by simp)).1,.inr ⟨rfl,?_⟩⟩;have H0:=b0.put (o':=.loop { rc with state:=.done,pending:=some .ret }) d0 (by simp);have Sn:=Y0.putObj (.loop { rc with state:=.done,pending:=some .ret }) b0 (List.mem_cons_self) (.inl (by omega));have Kx:=V1a y1 l (.loop { rc with state:=.done,pending:=some .ret });exact⟨_,_,H0,Sn,.inr (.inl ⟨rfl,V,e0,by omega,fun j y hj hy=>q0 V e0 j y (by omega) hy⟩)⟩
  refine lC0 rfl ⟨⟩ (v0a b0a [0,1,2,3,4,5,6,7,8] [] [9] (by kernel_rfl) rfl (Cl _ _ _ _) (Cl.start Sb) ?_);refine j0a m5c rfl (fun w1 hw=>by exact hw.1.cell 2 rfl rfl) rfl ?_;refine j0a O4a rfl (fun w1 hw=>by exact hw.1.cell 4 rfl rfl) rfl ?_;refine qO0 rfl ⟨⟩ (j0a k8a rfl (fun w1 hw=>by exact hw.2.cell List.not_mem_nil cV) rfl ?_);obtain⟨y,C1,O1,_,u1,d1,_,_,j1,q1⟩:=RdS.get (W0) (k) (by omega);obtain⟨_,rfl,N0,-,-⟩:=q1;obtain⟨Xm,xm,ym,Xa,xa,ya,Xb,xb,yb,rfl,-⟩:=N0.open_;refine qO Sb.q [.x C1 O1] rfl ⟨⟨d1,by omega⟩,⟨⟩⟩ (J1a a1a rfl (fun w1 hw=>(show t1a wb C1 (O1+k*7) [.slice Xm xm ym,.slice Xa xa ya,.slice Xb xb yb] from t1a.sub j1 0 3).keep hw.2 List.not_mem_nil) rfl rfl ?_);refine qD rfl ⟨⟩ ?_;rintro w2 ⟨B1,j0⟩;replace b0:=b0.keep j0;have R0:=hA.call k Ba _ w2 V y _ (hA.own k Ba _ _ _ _ j2 I0 (fun g hg=>.inl hg) j0.of_nil) I0 e0 S0 u1 ((N0.more (fun g hg=>by simp only[List.mem_append,List.mem_cons] at hg ⊢;grind)).keep j0.of_nil) (by have:=B1.size;omega) (by omega);refine e5a hA.has rfl rfl rfl R0 ?_;rintro D2 x0 ⟨rfl,i0,J1,u0,T0⟩;have Wz:=u0.size;have Wx:=j0.size;have Ww:=Kw.size;replace b0:=b0.keepW (y0a.of_belowM u0) (fun x hx hh=>by
   simp only[List.mem_cons,List.not_mem_nil,or_false] at hx;rcases hx with rfl|rfl
   ·exact x1 l (by omega) (by omega) hh
   ·exact x1 mk (by omega) (by omega) hh)
  have X0:=B1.keepsW u0 (fun g hg o2=>(f0 g hg).elim (fun h=>by simp[h]) (fun h=>by omega)) (fun b hb g hg hh=>x1 g (o0 b hb g hg).1 (o0 b hb g hg).2 hh);have v0:∀g∈i0,g∈Bs0∨wi.heap.size≤g:=fun g hg=>by
   rcases T0 g hg with h|h
   ·exact f0 g h
   ·right;omega
  have B2:∀g,w0.heap.size≤g→g<wi.heap.size→g∉i0:=fun g h1 h2 hh=>by
   rcases v0 g hh with h|h
   ·have:=G0 g h;omega
   ·omega
  have F1:=n0 i0 Ts v0 (fun g hg=>⟨fun hh=>by
   simp only[List.mem_cons] at hh;rcases hh with hh|hh|hh
   ·exact(L0 g hg).1 (by simp[hh])
   ·exact(L0 g hg).1 (by simp[hh])
   ·rcases T0 g hh with h|h
    ·exact(L0 g hg).1 (by simp[h])
    ·have:=b2 g hg;omega,(L0 g hg).2⟩)
  have Z1:W0d gS w0 i0 [l,mk,g6,g7] (l::mk::g6::g7::Ts):=⟨fun g hg=>by simp at hg ⊢;grind,F1⟩;have KR:=y0a.refl [g6,g7] x0;cases O0:acc y.conf
  ·refine lF0 rfl ⟨⟩ ?_;refine⟨{ rc with state:=.busy },(b0 (l,_) (by simp)).1,.inl ⟨rfl,?_⟩⟩;have H0:=b0.put (o':=.loop rc) d0 (by simp);have Sn:=X0.putObj (.loop rc) b0 (List.mem_cons_self) (.inl (by omega));have Kn:=V1a x0 l (.loop rc);rw[Z1b t1 N1];refine⟨by omega,l::mk::i0,⟨i0,rfl,by omega,hA.own _ _ _ _ _ _ J1 F1 (fun g hg=>.inl hg) (Kn.mono (by simp)),H0,Sn,v0,fun V' G1 j y' hj v1=>?_⟩,?_,fun g hg=>?_⟩
   ·by_cases m2:j<k
    ·exact q0 V' G1 j y' m2 v1
    ·obtain rfl:j=k:=by omega
     have hl:=(List.getElem?_eq_some_iff.1 v1).1;obtain rfl:=Option.some.inj ((q7a (e0.cmp G1 (by omega)) u1).symm.trans v1);exact O0
   ·exact(((Kw.mono (by simp)).trans j0.of_nil).trans ((y0a.of_belowM u0).mono (fun g hg=>by simp[hg]))).trans (Kn.mono (by simp))
   ·simp only[List.mem_cons] at hg ⊢;rcases hg with rfl|rfl|hg
    ·exact .inl (.inl rfl)
    ·exact .inl (.inr (.inl rfl))
    ·rcases T0 g hg with h|h
     ·exact .inl (.inr (.inr h))
     ·right;omega
  refine lO0 rfl ⟨⟩ (B0a (kk:=1) X0 u9a rfl (by conv=>lhs;whnf) rfl rfl (by exact Nat.le_of_ble_eq_true rfl) ?_);intro t2 A0 C0;replace KR:=KR.fresh2 C0 (by exact .inr (by simp));replace b0:=by exact b0.keepS C0 (X0.blk 1 rfl)
  refine B0a (kk:=0) A0 v8a rfl (by conv=>lhs;whnf) rfl rfl (by exact Nat.le_of_ble_eq_true rfl) ?_;intro z1 Z0 D0;replace KR:=KR.fresh2 D0 (by exact .inr (by simp));replace b0:=by exact b0.keepS D0 (A0.blk 0 rfl)
  refine lR0 rfl ⟨⟩ ?_;refine⟨{ rc with state:=.busy },(b0 (l,_) (by simp)).1,.inr ⟨rfl,?_⟩⟩;have H0:=b0.put (o':=.loop { rc with state:=.done,pending:=some .ret }) d0 (by simp);have Sn:=Z0.putObj (.loop { rc with state:=.done,pending:=some .ret }) b0 (List.mem_cons_self) (.inl (by omega));have Kx:=V1a z1 l (.loop { rc with state:=.done,pending:=some .ret });have i1:p0a x0 (gS,80,[c0,c1,c2,c3,.int .i64 m,.slice Av nv cv]):=x1a (y0a.of_belowM u0) (fun hh=>n1 (by simp only[List.mem_cons];exact .inr (.inr hh))) (x1a j0 (by simp) D1);have n2:y0a (l::mk::(Ba++([g6,g7]++M0))) wb x0:=(j0.of_nil).trans ((y0a.of_belowM u0).mono (fun g hg=>by simp[hg]));have s1:RdS ((l::mk::Ba)++([g6,g7]++M0)) wb 7 (g6a ((l::mk::Ba)++([g6,g7]++M0)) wb) (.slice Av nv cv) V:=RdS.mono (show RdS ((l::mk::Ba)++([g6,g7]++M0)) wb 7 (g6a (Ts++(l::mk::(Ba++([g6,g7]++M0)))) wb) (.slice Av nv cv) V from W0) (fun _ _ hr=>g6a.more (fun g hg=>.inl (by simp at hg ⊢;grind)) hr);have r1:RdS (i0++([l,mk,g6,g7]++M0)) x0 7 (g6a (i0++([l,mk,g6,g7]++M0)) x0) (.slice Av nv cv) V:=k8b (A:=l::mk::Ba) s1 ((j0.of_nil).trans ((y0a.of_belowM u0).mono (fun g hg=>by simp[hg]))) (fun g hg=>?_)
  ·exact⟨_,_,H0,Sn,e7a.keep hA (A:=[l,g6,g7]) (w:=x0) (.inl ⟨rfl,k,V,_,i0,l::mk::g6::g7::Ts,rfl,e0,S0,by omega,fun j y hj hy=>q0 V e0 j y hj hy,⟨y,u1,O0⟩,Z1,i1,r1,J1⟩) ((KR.mono (by simp)).trans (Kx.mono (by simp))) (fun g hg=>by simp only[List.mem_cons,List.not_mem_nil,or_false] at hg;rcases hg with rfl|rfl|rfl<;>exact⟨by simp,by simp⟩) (by simp;omega)⟩
  ·simp only[List.mem_append,List.mem_cons,List.not_mem_nil,or_false] at hg ⊢;rcases hg with hg|(rfl|rfl|rfl|rfl)|hg
   ·rcases T0 g hg with h|h
    ·simp[h]
    ·right;have:=j0.size;omega
   ·simp
   ·simp
   ·simp
   ·simp
   ·simp[hg]
 rintro v w3 (⟨N3,x2,W1,X1,Ts,I0,Ba,rfl,hk,hj,g0,S3,f0,q0⟩|⟨i,t0,g0,S3,hF⟩)
 rotate_left
 ·refine⟨{ rc with state:=.done,pending:=some .ret },(g0 (l,_) List.mem_cons_self).1,by simp,.inr ⟨rfl,?_⟩⟩;have Sa:=S3.putObj (.loop { rc with state:=.exhausted,pending:=some .ret }) g0 (List.mem_cons_self) (.inl (by omega));have p0:=(g0.put (o':=.loop { rc with state:=.exhausted,pending:=some .ret }) d0 (by simp)).tail;have Ka:=V1a w3 l (.loop { rc with state:=.exhausted,pending:=some .ret });have U0:=hF.keep hA (A:=[l]) Ka (fun g hg=>by rw[List.mem_singleton] at hg;subst hg;exact⟨by simp,by simp⟩) (by simp;omega);exact v0b rfl K0a L1c rfl rfl [mk] (by rw[p1];rfl) (by simp) p0 (Sa.cell 1 rfl rfl) (Sa.cell 0 rfl rfl) (by simp;omega) (by simp;omega) (fun w' hb=>⟨⟨i,t0,rfl,(U0.keep hA (A:=[mk]) (y0a.of_belowM hb) (fun g hg=>by rw[List.mem_singleton] at hg;subst hg;exact⟨by simp,by simp⟩) (by simp;omega)).less (by simp) (fun g hg=>by simp[hg])⟩,F0a.stepM Sa.below hb (fun g hg=>by rw[List.mem_singleton] at hg;omega)⟩)
 refine⟨rc,(g0 (l,.loop rc) (by simp)).1,by rw[t1];simp,.inl ⟨N1,?_⟩⟩;have Sa:=S3.putObj (.loop { rc with state:=.exhausted }) g0 (List.mem_cons_self) (.inl (by omega));have p0:=(g0.put (o':=.loop { rc with state:=.exhausted }) d0 (by simp)).tail;have Ka:=V1a w3 l (.loop { rc with state:=.exhausted });have T1:e7a p m a0 gS c0 c1 c2 c3 [l,mk,g6,g7] ([l,mk,g6,g7]++M0) w0 acc J0 w3 0 4:=.inr (.inr ⟨rfl,N3,Ba,l::mk::g6::g7::Ts,W1,X1,fun y hy=>by
  obtain⟨j,K1,rfl⟩:=List.getElem_of_mem hy;exact q0 _ ⟨N3,List.prefix_refl _⟩ j _ K1 (List.getElem?_eq_getElem K1),⟨fun g hg=>by simp at hg ⊢;grind,n0 Ba Ts f0 I0⟩,hj⟩)
 have U0:=T1.keep hA (A:=[l]) Ka (fun g hg=>by rw[List.mem_singleton] at hg;subst hg;exact⟨by simp,by simp⟩) (by simp;omega);generalize w3.putObj l (.loop { rc with state:=.exhausted })=wa at Sa p0 U0 ⊢;have KA:=y0a.refl [g6,g7] wa;refine fO0 rfl ⟨⟩ (B0a (kk:=1) Sa u9a rfl (by conv=>lhs;whnf) rfl rfl (by exact Nat.le_of_ble_eq_true rfl) ?_);intro u2 B0 E0;replace KA:=KA.fresh2 E0 (by exact .inr (by simp));replace p0:=by exact p0.keepS E0 (Sa.blk 1 rfl)
 refine B0a (kk:=0) B0 v8a rfl (by conv=>lhs;whnf) rfl rfl (by exact Nat.le_of_ble_eq_true rfl) ?_;intro v2 s0 F0;replace KA:=KA.fresh2 F0 (by exact .inr (by simp));replace p0:=by exact p0.keepS F0 (B0.blk 0 rfl)
 refine lR0 rfl ⟨⟩ ?_;exact v0b rfl K0a L1c rfl rfl [mk] (by rw[p1];rfl) (by simp) p0 (s0.cell 1 rfl rfl) (s0.cell 0 rfl rfl) (by simp;omega) (by simp;omega) (fun w' hb=>⟨⟨0,4,rfl,((U0.keep hA (A:=[g6,g7]) KA (fun g hg=>by simp only[List.mem_cons,List.not_mem_nil,or_false] at hg;rcases hg with rfl|rfl<;>exact⟨by simp,by simp⟩) (by simp;omega)).keep hA (A:=[mk]) (y0a.of_belowM hb) (fun g hg=>by rw[List.mem_singleton] at hg;subst hg;exact⟨by simp,by simp⟩) (by simp;omega)).less (by simp) (fun g hg=>by simp[hg])⟩,F0a.stepM s0.below hb (fun g hg=>by rw[List.mem_singleton] at hg;omega)⟩)
def f7a(p:f0a)(m:Int)(limit:Nat)(l:List q0a)(err:Int):Prop :=
 (err=0∧∃n,(e3a p m n).length≤n∧(e3a p m n).length≤limit∧l=n2a (e3a p m n))∨(err=2∧l=[]∧∃V,X3a p m V∧V.length=limit+1)
theorem F1c{p:f0a}{m:Int}{V:List K2a}(h:X3a p m V):(n2a V).Nodup:=by
 obtain⟨n,hn⟩:=h;have:=Y7a (Z5a p m) (T0a p) n;rw[←t4a] at this;exact List.Sublist.nodup (hn.sublist.map _) this
theorem K5b(p:f0a)(m:Int)(n:Nat):X3a p m (e3a p m n):=⟨n,List.prefix_refl _⟩
theorem Y0c{p:f0a}{m:Int}{n k:Nat}(h1:(e3a p m n).length≤n)(h2:(e3a p m k).length≤k):e3a p m n=e3a p m k :=
 List.IsPrefix.eq_of_length_le ((K5b p m n).done h2) ((K5b p m k).done h1).length_le
theorem N6a{p:f0a}{m:Int}{a0:Nat}{l:List q0a}(h:f7a p m a0 l 0)(c:q0a):c∈l↔y6a (Z5a p m) (T0a p) c:=by
 rcases h with⟨_,n,h1,_,rfl⟩|⟨h,_⟩
 ·rw[t4a];exact⟨F6a _ _ n c,p9b _ _ (by rw[←t4a,List.length_map];exact h1)⟩
 ·cases h
theorem w3b{p:f0a}{m:Int}{a0:Nat}{l:List q0a}{b0:Int}(h:f7a p m a0 l b0):l.Nodup:=by
 rcases h with⟨_,n,_,_,rfl⟩|⟨_,rfl,_⟩
 ·exact F1c (K5b p m n)
 ·exact List.nodup_nil
theorem d8b{p:f0a}{m:Int}{a0:Nat}{l:List q0a}{b0:Int}(h:f7a p m a0 l b0):l.length≤a0:=by
 rcases h with⟨_,n,_,h,rfl⟩|⟨_,rfl,_⟩
 ·rw[List.length_map];exact h
 ·simp
theorem N1b{p:f0a}{m:Int}{a0:Nat}{l:List q0a}{b0:Int}(h:f7a p m a0 l b0):b0=0∨(b0=2∧l=[]):=by
 rcases h with⟨h,_⟩|⟨h,h2,_⟩
 ·exact .inl h
 ·exact .inr ⟨h,h2⟩
theorem a8b{p:f0a}{m:Int}{a0:Nat}{l:List q0a}{b0:Int}(hp:d1a p)(h:f7a p m a0 l b0):∀c∈l,c3a p c:=fun c hc=>by
 rcases N1b h with rfl|⟨rfl,rfl⟩
 ·exact E4a hp ((N6a h c).1 hc)
 ·cases hc
def W4a(V:List K2a):Nat→Nat→List A0a
 | 0,_=>[]
 | n+1,i=>match V[i]? with
   | some y=>if 0≤y.frm then y.ch::W4a V n y.frm.toNat else[]
   | none=>[]
def x5c(p:f0a)(m:Int)(aim:Bool)(acc:q0a→Bool)(limit:Nat)(v:List A0a)(h:Int):Prop :=
 (aim=false∧h=1∧v=[]) ∨
 (∃(k:Nat) (V:List K2a),X3a p m V∧V.length=k+1∧k<limit∧(∀j y,j<k→V[j]?=some y→acc y.conf=false)∧(∃y,V[k]?=some y∧acc y.conf=true) ∧
   aim=true∧((120<(W4a V (k+1) k).length∧h=2∧v=[])∨((W4a V (k+1) k).length≤120∧h=0∧v=(W4a V (k+1) k).reverse))) ∨
 (aim=true∧h=2∧v=[]∧∃V,X3a p m V∧V.length=limit+1∧∀j y,j<limit→V[j]?=some y→acc y.conf=false) ∨
 (aim=true∧h=4∧v=[]∧∃n,(e3a p m n).length≤n∧(e3a p m n).length≤limit∧∀y∈e3a p m n,acc y.conf=false)
theorem b8a(p:f0a)(M:List Nat)(w0:World)(cs:List Value)(hI:InP p M w0 cs):
 M0a Tryz.prog 67 #[.agg cs.toArray] w0 fun v w'=>v=.bool true∧Below w0.heap.size w0 w':=by
 obtain⟨_,_,_,_,_,_,_,_,_,_,_,_,rfl,_,_,_,_,_,_,_,_,_,_,_,_⟩:=hI.rd.open_;have S:=St.refl w0;refine a0a Tryz.func67 rfl Tryz.ntmps67 rfl ?_;refine wO0 rfl ⟨⟩ (h0a S (by conv=>lhs;whnf) rfl ?_);intro g1 w1 S1 X1 G1;refine lO S1.k [.w 0] rfl ⟨⟨rfl,by rfl⟩,⟨⟩⟩ (g0a S1 E5b rfl rfl (d0b p M _ _ (hI.keep (S1.keep0 M)).rd hI.ok (hI.keep (S1.keep0 M)).msk (hI.keep (S1.keep0 M)).lt) ?_);intro w8 S8 X8;refine lB0 rfl ⟨⟩ (fun a0=>?_) (fun a0=>by exfalso;omega);exact lT rfl ⟨⟩ rfl ⟨rfl,S8.fin⟩
def b3a(m lim:Int):Bool:=(m==0||m==1||m==2)&&(decide (1≤lim)&&decide (lim≤20000))
theorem F8a(p:f0a)(m f0:Int)(M:List Nat)(w0:World)(cs:List Value)(hI:InP p M w0 cs):
 M0a Tryz.prog 34 #[.agg cs.toArray,.int .i64 m,.int .i64 f0] w0 fun v w'=>v=.bool (b3a m f0)∧Below w0.heap.size w0 w':=by
 obtain⟨_,_,_,_,_,_,_,_,_,_,_,_,rfl,_,_,_,_,_,_,_,_,_,_,_,_⟩:=hI.rd.open_;have S:=St.refl w0;refine a0a Tryz.func34 rfl Tryz.ntmps34 rfl ?_;refine wO0 rfl ⟨⟩ (h0a S (by conv=>lhs;whnf) rfl ?_);intro g3 w3 S3 X3 G3;refine lB0 rfl ⟨⟩ (fun h8=>?_) fun h8=>?_
 ·refine lB0 rfl ⟨⟩ (fun h0=>?_) fun h0=>?_
  ·refine lB0 rfl ⟨⟩ (fun i0=>?_) fun i0=>?_
   ·refine lR0 rfl ⟨⟩ (o0a rfl (by conv=>lhs;whnf) ?_)
    (refine⟨?_,S3.fin⟩;unfold b3a;simp_all<;>omega)
   refine lB0 rfl ⟨⟩ (fun b0=>?_) fun b0=>?_
   ·refine lB0 rfl ⟨⟩ (fun d0=>?_) fun d0=>?_
    ·refine lO S3.k [.w 0] rfl ⟨⟨rfl,by rfl⟩,⟨⟩⟩ (g0a S3 U6b rfl rfl (b8a p M _ _ (hI.keep (S3.keep0 M))) ?_);intro g0 a0 e0;refine lR0 rfl ⟨⟩ (o0a rfl (by conv=>lhs;whnf) ?_)
     (refine⟨?_,a0.fin⟩;unfold b3a;simp_all<;>omega)
    refine lR0 rfl ⟨⟩ (o0a rfl (by conv=>lhs;whnf) ?_)
    (refine⟨?_,S3.fin⟩;unfold b3a;simp_all<;>omega)
   refine lR0 rfl ⟨⟩ (o0a rfl (by conv=>lhs;whnf) ?_)
   (refine⟨?_,S3.fin⟩;unfold b3a;simp_all<;>omega)
  refine lB0 rfl ⟨⟩ (fun b0=>?_) fun b0=>?_
  ·refine lB0 rfl ⟨⟩ (fun d0=>?_) fun d0=>?_
   ·refine lO S3.k [.w 0] rfl ⟨⟨rfl,by rfl⟩,⟨⟩⟩ (g0a S3 U6b rfl rfl (b8a p M _ _ (hI.keep (S3.keep0 M))) ?_);intro g0 a0 e0;refine lR0 rfl ⟨⟩ (o0a rfl (by conv=>lhs;whnf) ?_)
    (refine⟨?_,a0.fin⟩;unfold b3a;simp_all<;>omega)
   refine lR0 rfl ⟨⟩ (o0a rfl (by conv=>lhs;whnf) ?_)
   (refine⟨?_,S3.fin⟩;unfold b3a;simp_all<;>omega)
  refine lR0 rfl ⟨⟩ (o0a rfl (by conv=>lhs;whnf) ?_)
  (refine⟨?_,S3.fin⟩;unfold b3a;simp_all<;>omega)
 refine lB0 rfl ⟨⟩ (fun b0=>?_) fun b0=>?_
 ·refine lB0 rfl ⟨⟩ (fun d0=>?_) fun d0=>?_
  ·refine lO S3.k [.w 0] rfl ⟨⟨rfl,by rfl⟩,⟨⟩⟩ (g0a S3 U6b rfl rfl (b8a p M _ _ (hI.keep (S3.keep0 M))) ?_);intro g0 a0 e0;refine lR0 rfl ⟨⟩ (o0a rfl (by conv=>lhs;whnf) ?_)
   (refine⟨?_,a0.fin⟩;unfold b3a;simp_all<;>omega)
  refine lR0 rfl ⟨⟩ (o0a rfl (by conv=>lhs;whnf) ?_)
  (refine⟨?_,S3.fin⟩;unfold b3a;simp_all<;>omega)
 refine lR0 rfl ⟨⟩ (o0a rfl (by conv=>lhs;whnf) ?_)
 (refine⟨?_,S3.fin⟩;unfold b3a;simp_all<;>omega)
theorem J9b(gl:Nat)(M2:List Nat)(w0:World)(G:Option Nat)(cs:List Value)(v:Value)(l:List q0a)(c:q0a)(ys:List Value)(hb:p0a w0 (gl,30,[v]))(d0:B1a g3a 3 (gl::M2) w0 G cs v l)(h0:G=none→cs=[])(i0:∀g,G=some g→p0a w0 (g,38,cs))(hX:t0a (G.toList++(gl::M2)) w0 c ys)(hl:l.length≤100000):
 M0a Tryz.prog 36 #[.agg ys.toArray,.pointer (some ⟨gl,0,none⟩)] w0 fun r w'=>r=.bool false∧∃G' f0 v',p0a w' (gl,30,[v'])∧B1a g3a 3 (gl::M2) w' G' f0 v' (l++[c])∧(G'=none→f0=[])∧(∀g,G'=some g→p0a w' (g,38,f0))∧F0a (gl::G.toList) w0 w'∧∀g∈G'.toList,g∈G.toList∨w0.heap.size≤g:=by
 obtain⟨_,_,_,_,_,_,_,_,_,rfl,-⟩:=hX.open_;have S:St (gl::G.toList) w0 w0 [(some gl,30,[v]),(G,38,cs)]:=((St.base _ w0).pushO h0 i0 (fun g hg=>by rw[hg];simp) (fun g hg b hb=>by simp at hb)).push hb (.inr (by simp)) (fun b g0 he=>by
  simp only[List.mem_singleton] at g0;subst g0;exact a6a (i0 gl he) hb (by decide) rfl)
 obtain⟨_,_,rfl⟩:=d0.form;refine a0a Tryz.func36 rfl Tryz.ntmps36 rfl ?_;refine wO0 rfl ⟨⟩ (h0a S (by conv=>lhs;whnf) rfl ?_);intro g2 w2 S2 X2 G2;refine lO0 rfl ⟨⟩ (s0a U1c rfl (by exact S2.cell 1 rfl rfl) rfl ?_);refine lO S2.k [.w 0] rfl ⟨⟨rfl,by rfl⟩,⟨⟩⟩ (u0a S2 Z8b (vs:=[.agg _]) (cs:=[_,_,_]) (by rfl) rfl rfl rfl rfl rfl rfl ?_);intro g6 w6 S6 X6 G6;have z7:=S6.size;refine Y0a G9a (k:=3) (M2:=gl::M2) (e1:=c) S6 Z8b (by decide) rfl (d0.keep G9a (S6.keepM.mono (fun g hg=>by simp at hg ⊢;grind))) rfl rfl (S6.cells 0 rfl) (t0a.keep (S6.keepM.mono (fun g hg=>by simp at hg ⊢;grind)) hX) (by omega) rfl ?_;intro v7 G7 n0 w7 S7 a0 X7 F7;obtain⟨_,_,rfl⟩:=a0.form;have KS:=y0a.refl [gl] w7;refine B0a (kk:=2) S7 i1d rfl (by conv=>lhs;whnf) rfl rfl (by exact Nat.le_of_ble_eq_true rfl) ?_;intro o0 b0 e0;replace KS:=KS.fresh2 e0 (by first  | exact .inr (by simp));refine lR0 rfl ⟨⟩ (o0a rfl (by conv=>lhs;whnf) ?_)
 (have j0:=a0.keep G9a (KS.mono (fun g hg=>by simp at hg ⊢;grind));exact⟨rfl,G7,n0,_,b0.blk 2 rfl,j0,fun h=>by subst h;exact absurd (o2b j0) (by simp),fun g hg=>b0.blk 3 (by rw[hg];rfl),b0.below,fun g hg=>(F7 g hg).imp id (fun h=>by omega)⟩)
def u7b(p:f0a)(m:Int)(gl:Nat)(M0:List Nat)(wf:World)(k:Nat)(Bs Ts:List Nat)(w:World):Prop :=
 ∃G cs v V,Bs=gl::G.toList∧V.length=k∧X3a p m V∧p0a w (gl,30,[v])∧B1a g3a 3 (gl::(Ts++M0)) w G cs v (n2a V)∧(G=none→cs=[])∧(∀g,G=some g→p0a w (g,38,cs))∧∀g∈G.toList,wf.heap.size≤g
theorem A0c(p:f0a)(m:Int)(gS gl:Nat)(M0:List Nat)(wf:World)(hb:p0a wf (gl,30,[.slice none 0 0])):Acc p m gS 36 [.pointer (some ⟨gl,0,none⟩)] [gl] M0 wf (fun _=>false) (u7b p m gl M0 wf) where
 has:=x8c
 start:=⟨none,[],_,[],rfl,rfl,⟨0,List.nil_prefix⟩,hb,B1a.nil,fun _=>rfl,fun g hg=>(by cases hg),fun g hg=>by simp at hg⟩
 own:=by
  rintro k Bs Ts e0 w w' ⟨G,cs,v,V,rfl,h1,h2,h3,h4,h5,h6,h7⟩ hT d0 hk;refine⟨G,cs,v,V,rfl,h1,h2,x1a hk (fun hh=>(hT gl hh).1 (by simp)) h3,h4.grow G9a hk (fun g hg=>by simp[hg]) (fun g hg=>?_),h5,fun g hg=>x1a hk (fun hh=>(hT g hh).1 (by simp[hg])) (h6 g hg),h7⟩;simp only[List.mem_cons,List.mem_append] at hg ⊢;rcases hg with rfl|hg|hg
  ·simp
  ·rcases d0 g hg with h|h
   ·simp[h]
   ·exact .inr h
  ·simp[hg]
 lt:=by
  rintro k Bs Ts w ⟨G,cs,v,V,rfl,h1,h2,h3,h4,h5,h6,h7⟩ g hg;simp only[List.mem_cons,Option.mem_toList] at hg;rcases hg with rfl|hg
  ·exact h3.lt
  ·exact(h6 g hg).lt
 call:=by
  rintro k Bs Ts w V y ys ⟨G,cs,v,V',rfl,h1,h2,h3,h4,h5,h6,h7⟩ hT hv hl hy hX hw hk;have hV:V=V'++[y]:=by
   obtain⟨t,ht⟩:=h2.cmp hv (by omega);have a0:t.length=1:=by have:=congrArg List.length ht;simp at this;omega
   obtain⟨_,rfl⟩:=List.length_eq_one_iff.1 a0;subst ht;rw[List.getElem?_append_right (by omega),h1,Nat.sub_self] at hy;simp at hy;rw[hy]
  have e1:n2a V=n2a V'++[y.conf]:=by rw[hV];simp[n2a]
  refine(J9b gl (Ts++M0) w G cs v (n2a V') y.conf ys h3 h4 h5 h6 (hX.less (fun g hg=>by simp only[List.mem_cons,List.mem_append] at hg ⊢;grind)) (by simp[n2a];omega)).mono fun r w' hr=>?_;obtain⟨rfl,G',b0,v',q1,q2,q3,q4,q5,q6⟩:=hr;refine⟨rfl,gl::G'.toList,⟨G',b0,v',V,rfl,hl,hv,q1,by rw[e1];exact q2,q3,q4,fun g hg=>?_⟩,q5,fun g hg=>?_⟩
  ·rcases q6 g hg with h|h
   ·exact h7 g h
   ·omega
  ·rcases List.mem_cons.1 hg with rfl|hg
   ·exact .inl (by simp)
   ·rcases q6 g hg with h|h
    ·exact .inl (by simp[h])
    ·exact .inr h
theorem u7b.rd{p:f0a}{m:Int}{gl k:Nat}{M0 Bs Ts:List Nat}{wf w:World}(h:u7b p m gl M0 wf k Bs Ts w)(hT:∀g∈Ts,g∉Bs)(hM:∀g∈M0,g<wf.heap.size)(hk:k≤100000):
 ∃v V,V.length=k∧X3a p m V∧p0a w (gl,30,[v])∧RdS M0 w 3 (g3a M0 w) v (n2a V):=by
 obtain⟨G,cs,v,V,rfl,h1,h2,h3,h4,h5,h6,h7⟩:=h;refine⟨v,V,h1,h2,h3,?_⟩;have S:St (gl::G.toList) w w [(G,38,cs)]:=(St.base _ w).pushO h5 h6 (fun g hg=>by rw[hg];simp) (fun g hg b hb=>by simp at hb);exact RdS.lessW (h4.rdG S (k:=0) rfl (fun g hg hh=>by
  simp only[List.mem_cons,List.mem_append] at hh;rcases hh with rfl|hh|hh
  ·exact a6a (h6 g hg) h3 (by decide) rfl
  ·exact hT g hh (by simp[hg])
  ·have:=hM g hh;have:=h7 g (by simp[hg]);omega) (by simp[n2a];omega)) (fun g hg=>by simp[hg]) (fun _ _ h=>t0a.less (fun g hg=>by simp[hg]) h)
theorem U6a(p:f0a)(m:Int)(hm:m=0∨m=1∨m=2)(n:Nat)(h1:1≤n)(h2:n≤20000)(M:List Nat)(w0:World)(cs:List Value)(hI:InP p M w0 cs):
 M0a Tryz.prog 10 #[.agg cs.toArray,.int .i64 m,.int .i64 n] w0 fun r w'=>(∃v l e0,r=.tuple #[v,.int .i64 e0]∧RdS M w' 3 (g3a M w') v l∧f7a p m n l e0)∧Below w0.heap.size w0 w':=by
 obtain⟨_,_,_,_,_,_,_,_,_,_,_,_,rfl,_,_,_,_,_,_,_,_,_,_,_,_⟩:=hI.rd.open_;have S:=St.refl w0;have s0:b3a m n=true:=by rcases hm with rfl|rfl|rfl<;>(simp[b3a];omega)
 refine a0a Tryz.func10 rfl Tryz.ntmps10 rfl ?_;refine wO0 rfl ⟨⟩ (h0a S (by conv=>lhs;whnf) rfl ?_);intro g3 w3 S3 X3 G3;refine lO S3.k [.w 0] rfl ⟨⟨rfl,by rfl⟩,⟨⟩⟩ (g0a S3 Q1c rfl rfl (s0▸F8a p m n M _ _ (hI.keep (S3.keep0 M))) ?_);intro A0 p0 u0;refine lO0 rfl ⟨⟩ (m0a p0 n1d rfl rfl ?_);intro g8 w8 S8 X8 G8;refine lO S8.k [.w 1] rfl ⟨⟨rfl,by rfl⟩,⟨⟩⟩ (f1a X4c (vs:=[(0,.agg _),(1,.int .i64 _)]) (cs:=[_,_,_,_,_,_]) rfl rfl rfl rfl ?_);refine h0a S8 (by conv=>lhs;whnf) rfl ?_;intro d0 b0 a0 v0 t0;refine lO0 rfl ⟨⟩ (N1a rfl rfl ?_);have z8:w0.heap.size≤g8∧g8<b0.heap.size:=⟨by simpa using a0.new 1 rfl,a0.lt 1 rfl⟩;have B0:w0.heap.size≤d0∧d0<b0.heap.size:=⟨by simpa using a0.new 0 rfl,a0.lt 0 rfl⟩;have i0:InP p (d0::([g8]++M)) b0 _:=InP.grow (Bs0:=[]) (M0:=M) hI (a0.keep0 []) (fun g hg=>by
  simp only[List.cons_append,List.nil_append,List.mem_cons] at hg ⊢;rcases hg with rfl|rfl|hg
  ·right;omega
  ·right;omega
  ·exact .inl hg) (fun g hg=>by
  simp only[List.cons_append,List.nil_append,List.mem_cons] at hg;have:=a0.size;rcases hg with rfl|rfl|hg
  ·omega
  ·omega
  ·have:=hI.lt g hg;omega)
 have g0:d0∉[g8]:=fun hh=>a6a (a0.blk 0 rfl) (a0.blk 1 rfl) (by decide) (List.mem_singleton.1 hh);obtain⟨wb,y0⟩:∃wb,wb=b0:=⟨_,rfl⟩;have j0:=A0c p m d0 g8 M b0 (a0.blk 1 rfl);refine e5a A4c rfl rfl rfl (K6b p m hm n d0 (by omega) _ _ _ _ 36 [.pointer (some ⟨g8,0,none⟩)] [g8] M b0 (fun _=>false) (u7b p m g8 M b0) i0 (a0.blk 0 rfl) g0 j0) ?_;rintro z0 n0 ⟨⟨_,e0,rfl,hF⟩,h0⟩;have f0:=(a0.tail.tail).keepsW h0 (fun g hg x0=>by simp at hg;omega) (fun b hb g hg hh=>by
  have o0:=(a0.own b (List.mem_cons_of_mem _ (List.mem_cons_of_mem _ hb)) g hg).2;simp only[List.mem_cons,List.not_mem_nil,or_false] at hh hb;subst hb;rcases hh with rfl|rfl
  ·exact a6a o0 (a0.blk 0 rfl) (by decide) rfl
  ·exact a6a o0 (a0.blk 1 rfl) (by decide) rfl)
 refine lB0 rfl ⟨⟩ (fun r0=>?_) fun r0=>?_
 ·refine lR0 rfl ⟨⟩ (d4b rfl (by conv=>lhs;whnf) (by conv=>lhs;whnf) ?_);refine⟨⟨_,[],_,rfl,V4a,.inr ⟨?_,rfl,?_⟩⟩,f0.fin⟩
  ·omega
  ·rcases hF with⟨he,_⟩|⟨_,V,q1,q2,_⟩|⟨he,_⟩
   ·omega
   ·exact⟨V,q1,q2⟩
   ·omega
 refine lO0 rfl ⟨⟩ ?_;obtain⟨k,v,q1,q2,q3,q4,rfl⟩:∃k v,(e3a p m k).length≤k∧(e3a p m k).length≤n∧p0a n0 (g8,30,[v])∧RdS M n0 3 (g3a M n0) v (n2a (e3a p m k))∧e0=4:=by
  rcases hF with⟨_,_,_,_,_,_,_,_,_,_,_,⟨y,_,hy⟩,_⟩|⟨he,_⟩|⟨he,k,Bs,Ts,q1,q2,q3,q4,q5⟩
  ·cases hy
  ·omega
  ·obtain⟨v,V,r1,r2,r3,r4⟩:=q5.rd (fun g hg=>(q4.ok g hg).1) (fun g hg=>by have:=hI.lt g hg;have:=f0.size;omega) (by omega);obtain rfl:=List.IsPrefix.eq_of_length (r2.done q1) r1;exact⟨k,v,q1,q2,r3,r4,he⟩
 obtain⟨_,_,_,rfl⟩:=q4.form;have q0:=q3.cell (o:=0) rfl;refine s0a U1c rfl (by exact q0) rfl ?_;exact lT2 rfl ⟨⟩ rfl ⟨⟨_,_,_,rfl,q4,.inl ⟨rfl,k,q1,q2,rfl⟩⟩,f0.fin⟩
theorem r5b(p:f0a)(m:Int)(n:Int)(b0:b3a m n=false)(M:List Nat)(w0:World)(cs:List Value)(hI:InP p M w0 cs):
 M0a Tryz.prog 10 #[.agg cs.toArray,.int .i64 m,.int .i64 n] w0 fun r w'=>r=.tuple #[.slice none 0 0,.int .i64 1]∧Below w0.heap.size w0 w':=by
 obtain⟨_,_,_,_,_,_,_,_,_,_,_,_,rfl,_,_,_,_,_,_,_,_,_,_,_,_⟩:=hI.rd.open_;have S:=St.refl w0;refine a0a Tryz.func10 rfl Tryz.ntmps10 rfl ?_;refine wO0 rfl ⟨⟩ (h0a S (by conv=>lhs;whnf) rfl ?_);intro g3 w3 S3 X3 G3;refine lO S3.k [.w 0] rfl ⟨⟨rfl,by rfl⟩,⟨⟩⟩ (g0a S3 Q1c rfl rfl (b0▸F8a p m n M _ _ (hI.keep (S3.keep0 M))) ?_);intro e0 a0 d0;exact lT2 rfl ⟨⟩ rfl ⟨rfl,a0.fin⟩
def Raw(size:Nat)(cs x:List Value):Prop:=cs=x∧x.length=size∧∀u∈x,u.oneCell'=true
theorem o7c(size:Nat):R5a (fun(_:List Nat) (_:World)=>Raw size) size where
 len h:=by rw[h.1];exact h.2.1
 one h u hu:=by rw[h.1] at hu;exact h.2.2 u hu
 keep _ h:=h
 more _ h:=h
abbrev q7b(size:Nat)(w0:World)(G:Option Nat)(cs:List Value)(v:Value)(css:List (List Value)):Prop:=B1a (fun _ _=>Raw size) size [] w0 G cs v css
section
variable {size:Nat}
theorem T6b{u:Value}:∀(css:List (List Value)) (i j:Nat) (c:List Value),(∀x∈css,x.length=size)→css[i]?=some c→j<size→css.flatten.set (i*size+j) u=(css.set i (c.set j u)).flatten
 | [],i,j,c,_,hi,_=>by simp at hi
 | x::css,0,j,c,hl,hi,hj=>by
   simp at hi;subst hi;have hx:=hl x (by simp);rw[List.flatten_cons,Nat.zero_mul,Nat.zero_add,List.set_append_left _ _ (by omega)];simp
 | x::css,i+1,j,c,hl,hi,hj=>by
   have hx:=hl x (by simp);have:=T6b (u:=u) css i j c (fun y hy=>hl y (by simp[hy])) (by simpa using hi) hj;rw[List.flatten_cons,List.set_append_right _ _ (by rw[Nat.add_mul];omega),List.set_cons_succ,List.flatten_cons,←this]
   congr 2
   rw[Nat.add_mul];omega
theorem u0b:∀(us:List Value) (css:List (List Value)) (i j:Nat) (c:List Value),(∀x∈css,x.length=size)→css[i]?=some c→j+us.length≤size→k0a css.flatten (i*size+j) us=(css.set i (k0a c j us)).flatten
 | [],css,i,j,c,_,hi,_=>by rw[k0a,k0a,Y2b hi]
 | u::us,css,i,j,c,hl,hi,hj=>by
   have b0:=(List.getElem?_eq_some_iff.1 hi).1;have a0:=hl c (List.mem_of_getElem? hi);simp only[List.length_cons] at hj;rw[k0a,T6b css i j c hl hi (by omega),show i*size+j+1=i*size+(j+1) by omega];rw[u0b us (css.set i (c.set j u)) i (j+1) (c.set j u) (fun x hx=>by
    rcases List.mem_or_eq_of_mem_set hx with h|h
    ·exact hl x h
    ·rw[h,List.length_set];exact a0) (by rw[List.getElem?_set_self b0]) (by omega)]
   rw[List.set_set,k0a]
theorem r9a:∀(us cs:List Value) (o n:Nat),(k0a cs o us).take n=k0a (cs.take n) o us
 | [],_,_,_=>rfl
 | u::us,cs,o,n=>by rw[k0a,r9a us,k0a,List.take_set]
theorem H1b:∀(us cs:List Value) (o:Nat),(∀u∈cs,u.oneCell'=true)→(∀u∈us,u.oneCell'=true)→∀u∈k0a cs o us,u.oneCell'=true
 | [],_,_,h,_=>h
 | v::us,cs,o,h,h2=>by
   rw[k0a];refine H1b us _ _ (fun u hu=>?_) (fun u hu=>h2 u (by simp[hu]));rcases List.mem_or_eq_of_mem_set hu with hu|rfl
   ·exact h u hu
   ·exact h2 u (by simp)
theorem q7b.put{w0:World}{G:Option Nat}{cs us c:List Value}{v:Value}{css:List (List Value)}{i j o:Nat}(h:q7b size w0 G cs v css)(hi:css[i]?=some c)(ho:o=i*size+j)(hj:j+us.length≤size)(h1:∀u∈us,u.oneCell'=true):q7b size w0 G (k0a cs o us) v (css.set i (k0a c j us)):=by
 subst ho;obtain⟨xs,_,q2,⟨_,hr⟩,q4⟩:=h;have hx:xs=css:=by
  refine List.ext_getElem? fun k=>?_;cases hk:css[k]? with
  | none=>rw[List.getElem?_eq_none_iff] at hk ⊢;omega
  | some x=>obtain⟨y,h5,h6⟩:=q4 k x hk;rw[h5,h6.1]
 subst hx;have g0:=(List.getElem?_eq_some_iff.1 hi).1;have e0:∀u∈c,u.oneCell'=true:=by
  obtain⟨y,h5,h6⟩:=q4 i c hi;exact h6.2.2
 have d0:=q2 c (List.mem_of_getElem? hi);have f0:(k0a c j us).length=size:=by rw[o4a];exact d0
 have a0:∀x∈xs.set i (k0a c j us),x.length=size:=fun x hx=>by
  rcases List.mem_or_eq_of_mem_set hx with h|rfl
  ·exact q2 x h
  ·exact f0
 refine⟨xs.set i (k0a c j us),rfl,a0,⟨?_,?_⟩,fun k x hk=>?_⟩
 ·rw[u3a _ a0]
 ·rcases hr with⟨rfl,rfl,h0⟩|⟨g,b0,rfl,rfl,r1,r2,r3,r4⟩
  ·omega
  ·refine .inr ⟨g,b0,rfl,by rw[List.length_set],by rw[List.length_set];exact r1,r2,by rw[o4a];exact r3,?_⟩;rw[r9a,List.length_set,r4,u0b us xs i j c q2 hi hj]
 ·refine⟨x,hk,rfl,?_,?_⟩
  ·exact a0 x (List.mem_of_getElem? hk)
  ·rcases List.mem_or_eq_of_mem_set (List.mem_of_getElem? hk) with h|rfl
   ·obtain⟨n,hn⟩:=List.getElem?_of_mem h;obtain⟨y,h5,h6⟩:=q4 n x hn;exact h6.2.2
   ·exact H1b us c j e0 h1
theorem q7b.len{w0:World}{G:Option Nat}{cs:List Value}{A:Option Addr}{n c:Nat}{css:List (List Value)}(h:q7b size w0 G cs (.slice A n c) css):n=css.length:=by
 obtain⟨_,_,he⟩:=h.form;simp only[Value.slice.injEq] at he;exact he.2.1
theorem q7b.at{w0:World}{G:Option Nat}{cs:List Value}{A:Option Addr}{n c:Nat}{css:List (List Value)}(h:q7b size w0 G cs (.slice A n c) css)(h0:0<n):∃g,G=some g∧A=some ⟨g,0,none⟩:=by
 have hn:=h.len;obtain⟨_,_,_,⟨_,hr⟩,_⟩:=h;rcases hr with⟨rfl,he,h5⟩|⟨g,a0,rfl,he,-⟩
 ·omega
 ·simp only[Value.slice.injEq] at he;exact⟨g,rfl,he.1⟩
theorem q7b.cap{w0:World}{G:Option Nat}{cs:List Value}{v:Value}{css:List (List Value)}(h:q7b size w0 G cs v css):css.length*size≤cs.length∨css=[]:=by
 obtain⟨_,_,_,⟨_,hr⟩,_⟩:=h;rcases hr with⟨rfl,he,h5⟩|⟨g,a0,rfl,he,r1,r2,r3,r4⟩
 ·exact .inr (List.length_eq_zero_iff.1 h5)
 ·left;rw[r3];exact Nat.mul_le_mul_right _ r1
theorem q7b.rd{α:Type}{R:List Value→α→Prop}{M M':List Nat}{w0 w:World}{L:List Ent}{k el:Nat}{G:Option Nat}{cs:List Value}{v:Value}{css:List (List Value)}{l:List α}(h:q7b size w0 G cs v css)(S:St M' w0 w L)(hk:L[k]?=some (G,el,cs))(hM:∀g,G=some g→g∉M)(hl:l.length≤1000000)(b0:css.length=l.length)
 (he:∀(i:Nat) (x:α),l[i]?=some x→∃c,css[i]?=some c∧R c x):RdS M w size R v l:=by
 obtain⟨A,n,c,rfl,_,h2,h3,h4,h5⟩:=B1a.rd (M:=M) (o7c size) (w:=w) (show B1a (fun _ _=>Raw size) size M w G cs v css from h) S hk hM (by omega);refine⟨A,n,c,rfl,by omega,h2,h3,h4,fun hp=>?_⟩;obtain⟨b,o,hA,hb,a0⟩:=h5 hp;refine⟨b,o,hA,hb,fun i x hi=>?_⟩;obtain⟨y,h6,h7⟩:=he i x hi;obtain⟨z,z1,z2,z3⟩:=a0 i y h6;exact⟨z,z1,z2,by rw[z3.1];exact h7⟩
end
theorem c9a:∀(us a r:List Value),r.length=us.length→k0a (a++r) a.length us=a++us
 | [],a,[],_=>rfl
 | [],_,_::_,h=>by simp at h
 | _::_,_,[],h=>by simp at h
 | u::us,a,x::r,h=>by
   have:=c9a us (a++[u]) r (by simpa using h);rw[k0a,List.set_append_right _ _ (Nat.le_refl _),Nat.sub_self,List.set_cons_zero];simpa using this
theorem B1a.toRaw{α:Type}{R0:List Value→α→Prop}{size:Nat}{w0:World}{G:Option Nat}{cs:List Value}{v:Value}{l:List α}(hL:R5a (fun(_:List Nat) (_:World)=>R0) size)(h:B1a (fun _ _=>R0) size [] w0 G cs v l):
 ∃css,q7b size w0 G cs v css∧css.length=l.length∧∀(i:Nat) (x:α),l[i]?=some x→∃c,css[i]?=some c∧R0 c x:=by
 obtain⟨css,q1,q2,q3,q4⟩:=h;refine⟨css,⟨css,rfl,q2,by rw[q1];exact q3,fun i x hi=>⟨x,hi,rfl,q2 x (List.mem_of_getElem? hi),fun u hu=>?_⟩⟩,q1,q4⟩;have a0:=(List.getElem?_eq_some_iff.1 hi).1;obtain⟨c,h5,h6⟩:=q4 i _ (List.getElem?_eq_getElem (by omega));obtain rfl:x=c:=Option.some.inj (hi.symm.trans h5);exact hL.one (M:=[]) (w:=w0) h6 u hu
theorem q7b.toRow{α:Type}{R0:List Value→α→Prop}{size:Nat}{w0:World}{G:Option Nat}{cs:List Value}{v:Value}{css:List (List Value)}{l:List α}(h:q7b size w0 G cs v css)(hl:css.length=l.length)(he:∀(i:Nat) (x:α),l[i]?=some x→∃c,css[i]?=some c∧R0 c x):B1a (fun _ _=>R0) size [] w0 G cs v l:=by
 obtain⟨xs,_,q2,q3,q4⟩:=h;refine⟨xs,by omega,q2,by rw[←hl];exact q3,fun i x hi=>?_⟩;obtain⟨c,h5,h6⟩:=he i x hi;obtain⟨c',h7,h8⟩:=q4 i c h5;exact⟨c',h7,by rw[h8.1];exact h6⟩
theorem B1a.put{α:Type}{R0:List Value→α→Prop}{size:Nat}{w0:World}{G:Option Nat}{cs us:List Value}{v:Value}{l:List α}{i o:Nat}{x y:α}(hL:R5a (fun(_:List Nat) (_:World)=>R0) size)(h:B1a (fun _ _=>R0) size [] w0 G cs v l)(hi:l[i]?=some x)(ho:o=i*size)(hy:R0 us y):B1a (fun _ _=>R0) size [] w0 G (k0a cs o us) v (l.set i y):=by
 obtain⟨_,h1,h2,h3⟩:=h.toRaw hL;obtain⟨c,h4,h5⟩:=h3 i x hi;have e0:us.length=size:=hL.len (M:=[]) (w:=w0) hy;have d0:c.length=size:=hL.len (M:=[]) (w:=w0) h5;have hp:=h1.put h4 (us:=us) (j:=0) (o:=o) (by omega) (by omega) (hL.one (M:=[]) (w:=w0) hy);rw[show k0a c 0 us=us from c9a us [] c (by omega)] at hp;refine hp.toRow (by simp[h2]) (fun k z hz=>?_);have b0:=(List.getElem?_eq_some_iff.1 h4).1;have a0:=(List.getElem?_eq_some_iff.1 hi).1;by_cases hk:i=k
 ·subst hk;rw[List.getElem?_set_self a0] at hz;obtain rfl:=Option.some.inj hz;exact⟨us,List.getElem?_set_self b0,hy⟩
 ·rw[List.getElem?_set_ne hk] at hz ⊢;exact h3 k z hz
theorem B1a.at{α:Type}{R:List Nat→World→List Value→α→Prop}{size:Nat}{M:List Nat}{w0:World}{G:Option Nat}{cs:List Value}{A:Option Addr}{n c:Nat}{l:List α}(h:B1a R size M w0 G cs (.slice A n c) l)(h0:0<l.length):∃g,G=some g∧A=some ⟨g,0,none⟩∧l.length*size≤cs.length:=by
 obtain⟨_,_,_,⟨_,hr⟩,_⟩:=h;rcases hr with⟨rfl,he,h5⟩|⟨g,a0,rfl,he,r1,r2,r3,r4⟩
 ·omega
 ·simp only[Value.slice.injEq] at he;exact⟨g,rfl,he.1,by rw[r3];exact Nat.mul_le_mul_right _ r1⟩
def k2b{α:Type}(l cur:List α)(i:Nat):Prop:=cur.length=l.length∧∀q,q<l.length→cur[q]?=if q<i∨l.length-i≤q then l[l.length-1-q]? else l[q]?
theorem k2b.zero{α:Type}{l:List α}:k2b l l 0:=⟨rfl,fun q hq=>by rw[if_neg (by omega)]⟩
theorem k2b.all{α:Type}{l a0:List α}{i:Nat}(h:k2b l a0 i)(hi:(l.length:Int)-1-i≤i):a0=l.reverse:=by
 refine List.ext_getElem? fun q=>?_;by_cases hq:q<l.length
 ·rw[h.2 q hq,List.getElem?_reverse hq]
  split
  ·rfl
  ·rw[show l.length-1-q=q by omega]
 ·rw[List.getElem?_eq_none (by rw[h.1];omega),List.getElem?_eq_none (by simp;omega)]
theorem k2b.next{α:Type}{l a0:List α}{i j:Nat}{x y:α}(h:k2b l a0 i)(hj:j+1+i=l.length)(e0:i<j)(hx:a0[i]?=some x)(hy:a0[j]?=some y):k2b l ((a0.set i y).set j x) (i+1):=by
 refine⟨by simp[h.1],fun q hq=>?_⟩;have b0:=h.2 i (by omega);have d0:=h.2 j (by omega);rw[if_neg (by omega)] at b0 d0;rw[hx] at b0;rw[hy] at d0;have hl:=h.1;by_cases h1:j=q
 ·subst h1;rw[List.getElem?_set_self (by simp;omega),if_pos (by omega),show l.length-1-j=i by omega,b0]
 ·rw[List.getElem?_set_ne h1];by_cases h2:i=q
  ·subst h2;rw[List.getElem?_set_self (by omega),if_pos (by omega),show l.length-1-i=j by omega,d0]
  ·rw[List.getElem?_set_ne h2,h.2 q hq];by_cases h3:q<i∨l.length-i≤q
   ·rw[if_pos h3,if_pos (by omega)]
   ·rw[if_neg h3,if_neg (by omega)]
theorem Z7b(w0:World)(G:Option Nat)(cs:List Value)(v:Value)(l:List A0a)(t0:B1a (fun _ _=>M1a) 3 [] w0 G cs v l)(h0:G=none→cs=[])(hb:∀g,G=some g→p0a w0 (g,44,cs))(hl:l.length≤100000):
 M0a Tryz.prog 64 #[v] w0 fun _ w'=>∃f0,B1a (fun _ _=>M1a) 3 [] w' G f0 v l.reverse∧(∀g,G=some g→p0a w' (g,44,f0))∧F0a G.toList w0 w':=by
 have S:St G.toList w0 w0 [(G,44,cs)]:=(St.base _ w0).pushO h0 hb (fun g hg=>by rw[hg];simp) (fun g hg b hb=>by simp at hb);obtain⟨Av,cv,rfl⟩:=t0.form;refine a0a Tryz.func64 rfl Tryz.ntmps64 rfl ?_;refine wC0 rfl ⟨by omega,⟨⟩⟩ (wL (fun μi D ε w=>D=[]∧∃i:Nat,∃j:Int,∃r0:List A0a,∃f0:List Value,(i+μi=(l.length))∧(j=(l.length:Int)-1-i)∧(k2b l r0 i)∧(B1a (fun _ _=>M1a) 3 [] w0 G f0 (.slice Av l.length cv) r0)∧St G.toList w0 w [(G,44,f0)]∧Sl ε [(0,.slice Av l.length cv),(2,.int .i64 i),(3,.int .i64 j)]) (μ:=(l.length)) ⟨rfl,0,(l.length:Int)-1,l,cs,by omega,by omega,k2b.zero,t0,S,rfl⟩ ?_);rintro μi D ε w ⟨rfl,i,j,r0,f0,_,_,o0,a0,S,eZ⟩;refine wK eZ (wB0 rfl ⟨⟩ (fun h9=>?_) fun h9=>?_)
 ·refine lCn 5 S.k [] rfl ⟨⟩ (wX (fun D ε w=>D=[]∧∃z0:List Value,∃c1:A0a,∃c2:A0a,(r0[i]?=some c1)∧(r0[j.toNat]?=some c2)∧(B1a (fun _ _=>M1a) 3 [] w0 G z0 (.slice Av l.length cv) ((r0.set i c2).set j.toNat c1))∧((i:Int)<j)∧St G.toList w0 w [(G,44,z0)]∧Sl ε [(0,.slice Av l.length cv),(2,.int .i64 i),(3,.int .i64 j)]) ?_ ?_)
  ·obtain⟨q,rfl⟩:∃q:Nat,j=(q:Int):=⟨j.toNat,by omega⟩;have X0:=o0.1;obtain⟨g,rfl,rfl,_⟩:=a0.at (by omega);have v0:=B1a.rd (M:=[]) (w:=w) K1a a0 S (k:=0) rfl (fun _ _=>by simp) (by omega);refine wC0 rfl ⟨⟩ (E9c b0a (fun i=>[0,1,2,3,4,5,6,8,9,10,12,14].contains i) 7 11 [0,1,2,3,4,5,6,7,8,9,10,11,12,13,14,15] [0,1,2,3,4,5,6,8,9,10,11,7,12,13,14,15] (by kernel_rfl) (fun _=>True) ?_ ?_)
   ·have s0:=S.drew;have e0:y0a [] w w.drew:=s2a _ _;generalize w.drew=W0 at s0 e0 ⊢;have N0:y0a ([g]) _ _:=e0.of_nil;refine b4a trivial rfl rfl rfl ?_;refine h1a (v:=.slice _ _ _) rfl rfl ?_;refine d0a ?_;refine b4a trivial rfl rfl rfl ?_;refine h1a (v:=.int .i64 _) rfl rfl ?_;refine d0a ?_;refine b4a trivial rfl rfl rfl ?_;refine h1a (v:=.slice _ _ _) rfl rfl ?_;refine d0a ?_;refine b4a trivial rfl rfl rfl ?_;refine h1a (v:=.int .i64 _) rfl rfl ?_;refine d0a ?_;refine b4a trivial rfl rfl rfl ?_;refine h1a (v:=.slice _ _ _) rfl rfl ?_;refine d0a ?_;refine b4a trivial rfl rfl rfl ?_;refine h1a (v:=.int .i64 _) rfl rfl ?_;refine d0a ?_;refine b4a trivial rfl rfl rfl ?_;obtain⟨y,O0,S0,Q0,q0,g0,A0,C0,j0,b0⟩:=RdS.get (v0) (q) (by omega);obtain⟨rfl,E0,G0,I0⟩:=id b0;refine n0a W2a.slT rfl (by rfl) rfl (by omega) (by omega) rfl ?_;refine d0a ?_;refine o7b trivial rfl rfl rfl ?_;cases g0;refine w1a e6a rfl (j0.keep e0 List.not_mem_nil) rfl rfl ?_;refine L0a ⟨rfl,?_⟩;refine b4a trivial rfl rfl rfl ?_;refine h1a (v:=.slice _ _ _) rfl rfl ?_;refine d0a ?_;refine b4a trivial rfl rfl rfl ?_;refine h1a (v:=.int .i64 _) rfl rfl ?_;refine d0a ?_;refine b4a trivial rfl rfl rfl ?_;obtain⟨x,P0,T0,R0,p0,i0,B0,D0,n0,d0⟩:=RdS.get (v0) (i) (by omega);obtain⟨rfl,F0,H0,J0⟩:=id d0;refine n0a W2a.slT rfl (by rfl) rfl (by omega) (by omega) rfl ?_;refine d0a ?_;refine o7b trivial rfl rfl rfl ?_;cases i0;refine w1a e6a rfl (n0.keep e0 List.not_mem_nil) rfl rfl ?_;refine L0a ⟨rfl,?_⟩;refine b4a trivial rfl rfl rfl ?_;refine n0a W2a.slT rfl (by rfl) rfl (by omega) (by omega) rfl ?_;refine d0a ?_;refine o7b trivial rfl rfl rfl ?_;refine e0a (kk:=0) (vs:=[.int .i64 y.thread,.int .i64 y.step,.int .i64 y.cell]) s0 i4b rfl rfl rfl rfl rfl rfl (by rw[Nat.ble_eq];omega) ?_;intro U0 x0 K0;refine L0a ⟨rfl,?_⟩;refine b4a trivial rfl rfl rfl ?_;refine n0a W2a.slT rfl (by rfl) rfl (by omega) (by omega) rfl ?_;refine d0a ?_;refine o7b trivial rfl rfl rfl ?_;refine e0a (kk:=0) (vs:=[.int .i64 x.thread,.int .i64 x.step,.int .i64 x.cell]) x0 i4b rfl rfl rfl rfl rfl rfl (by rw[Nat.ble_eq];simp only[o4a];omega) ?_;intro V0 y0 L0;refine L0a ⟨rfl,?_⟩;refine M6b trivial ?_;refine fP0 rfl ⟨⟩ ⟨rfl,(_),(x),(y),(p0),((by simpa using q0)),?_,(h9),y0,rfl⟩;exact B1a.put K1a (B1a.put K1a a0 p0 (by simp) b0) (y:=x) (x:=y) (by simpa[List.getElem?_set_ne (show i≠q by omega)] using q0) (by simp) d0
   have s0:=S.drew;have e0:y0a [] w w.drew:=s2a _ _;generalize w.drew=W0 at s0 e0 ⊢;have N0:y0a ([g]) _ _:=e0.of_nil;refine b4a trivial rfl rfl rfl ?_;refine h1a (v:=.slice _ _ _) rfl rfl ?_;refine d0a ?_;refine b4a trivial rfl rfl rfl ?_;refine h1a (v:=.int .i64 _) rfl rfl ?_;refine d0a ?_;refine b4a trivial rfl rfl rfl ?_;refine h1a (v:=.slice _ _ _) rfl rfl ?_;refine d0a ?_;refine b4a trivial rfl rfl rfl ?_;refine h1a (v:=.int .i64 _) rfl rfl ?_;refine d0a ?_;refine b4a trivial rfl rfl rfl ?_;refine h1a (v:=.slice _ _ _) rfl rfl ?_;refine d0a ?_;refine b4a trivial rfl rfl rfl ?_;refine h1a (v:=.int .i64 _) rfl rfl ?_;refine d0a ?_;refine b4a trivial rfl rfl rfl ?_;obtain⟨y,O0,S0,Q0,q0,g0,A0,C0,j0,b0⟩:=RdS.get (v0) (q) (by omega);obtain⟨rfl,E0,G0,I0⟩:=id b0;refine n0a W2a.slT rfl (by rfl) rfl (by omega) (by omega) rfl ?_;refine d0a ?_;refine b4a trivial rfl rfl rfl ?_;refine h1a (v:=.slice _ _ _) rfl rfl ?_;refine d0a ?_;refine b4a trivial rfl rfl rfl ?_;refine h1a (v:=.int .i64 _) rfl rfl ?_;refine d0a ?_;refine b4a trivial rfl rfl rfl ?_;obtain⟨x,P0,T0,R0,p0,i0,B0,D0,n0,d0⟩:=RdS.get (v0) (i) (by omega);obtain⟨rfl,F0,H0,J0⟩:=id d0;refine n0a W2a.slT rfl (by rfl) rfl (by omega) (by omega) rfl ?_;refine d0a ?_;refine o7b trivial rfl rfl rfl ?_;cases i0;refine w1a e6a rfl (n0.keep e0 List.not_mem_nil) rfl rfl ?_;refine L0a ⟨rfl,?_⟩;refine o7b trivial rfl rfl rfl ?_;cases g0;refine w1a e6a rfl (j0.keep e0 List.not_mem_nil) rfl rfl ?_;refine L0a ⟨rfl,?_⟩;refine b4a trivial rfl rfl rfl ?_;refine n0a W2a.slT rfl (by rfl) rfl (by omega) (by omega) rfl ?_;refine d0a ?_;refine o7b trivial rfl rfl rfl ?_;refine e0a (kk:=0) (vs:=[.int .i64 y.thread,.int .i64 y.step,.int .i64 y.cell]) s0 i4b rfl rfl rfl rfl rfl rfl (by rw[Nat.ble_eq];omega) ?_;intro U0 x0 K0;refine L0a ⟨rfl,?_⟩;refine b4a trivial rfl rfl rfl ?_;refine n0a W2a.slT rfl (by rfl) rfl (by omega) (by omega) rfl ?_;refine d0a ?_;refine o7b trivial rfl rfl rfl ?_;refine e0a (kk:=0) (vs:=[.int .i64 x.thread,.int .i64 x.step,.int .i64 x.cell]) x0 i4b rfl rfl rfl rfl rfl rfl (by rw[Nat.ble_eq];simp only[o4a];omega) ?_;intro V0 y0 L0;refine L0a ⟨rfl,?_⟩;refine M6b trivial ?_;refine fP0 rfl ⟨⟩ ⟨rfl,(_),(x),(y),(p0),((by simpa using q0)),?_,(h9),y0,rfl⟩;exact B1a.put K1a (B1a.put K1a a0 p0 (by simp) b0) (y:=x) (x:=y) (by simpa[List.getElem?_set_ne (show i≠q by omega)] using q0) (by simp) d0
  rintro D ε w ⟨rfl,z0,c1,c2,p0,q0,u0,_,S,eZ⟩;refine wK eZ (wP0 rfl ⟨by omega,by omega,⟨⟩⟩ ?_);refine⟨μi-1,by omega,rfl,(i+1),(j-1),(_),(_),(by omega),(by omega),(o0.next (by omega) (by omega) p0 q0),(u0),S,rfl⟩
 refine lF0 rfl ⟨⟩ (T1a rfl ?_);obtain rfl:=o0.all (by omega);exact⟨f0,a0,fun g hg=>S.blk 0 (by rw[hg];rfl),S.below⟩
structure e4a where
 thread:Int
 point:Int
 expr:E
def J4a(M:List Nat)(w:World)(cs:List Value)(g:e4a):Prop:=∃es,cs=.int .i64 g.thread::.int .i64 g.point::es∧RdE M w g.expr es∧i64 g.thread∧i64 g.point
theorem J4a.keep{M:List Nat}{w w':World}{cs:List Value}{g:e4a}(hk:y0a M w w')(h:J4a M w cs g):J4a M w' cs g:=by
 obtain⟨es,h1,h2,h3⟩:=h;exact⟨es,h1,RdE.keep hk _ _ h2,h3⟩
theorem J4a.more{M M':List Nat}{w:World}{cs:List Value}{g:e4a}(hM:∀x∈M',x∈M∨w.heap.size≤x)(h:J4a M w cs g):J4a M' w cs g:=by
 obtain⟨es,h1,h2,h3⟩:=h;exact⟨es,h1,RdE.more hM _ _ h2,h3⟩
def I5a(p:f0a)(g:e4a):Bool:=decide (-1≤g.thread)&&(decide (g.thread<p.threads.length)&&((decide (g.thread<0)||(match p.threads[g.thread.toNat]? with|some th=>decide (0≤g.point)&&decide (g.point<th.points)|none=>true))&&(g.expr.valid p.cells false&&g.expr.w==1)))
theorem W5b{p:f0a}{g:e4a}(h:g.thread < -1∨(p.threads.length:Int)≤g.thread):I5a p g=false:=by
 unfold I5a;rcases h with h|h
 ·rw[decide_eq_false (by omega)];rfl
 ·rw[decide_eq_false (p:=g.thread<p.threads.length) (by omega)];simp
theorem J0c{p:f0a}{g:e4a}{th:X0a}(h0:0≤g.thread)(a0:p.threads[g.thread.toNat]?=some th)(h:g.point<0∨th.points≤g.point):I5a p g=false:=by
 unfold I5a;simp only[a0];rw[decide_eq_false (p:=g.thread<0) (by omega)];rcases h with h|h
 ·rw[decide_eq_false (p:=0≤g.point) (by omega)];simp
 ·rw[decide_eq_false (p:=g.point<th.points) (by omega)];simp
theorem g7c{p:f0a}{g:e4a}(h0:0≤g.thread)(h2:g.thread<p.threads.length)(h:g.point<0):I5a p g=false :=
 J0c h0 (List.getElem?_eq_getElem (by omega)) (.inl h)
theorem Q2b{p:f0a}{g:e4a}(h1:-1≤g.thread)(h2:g.thread<p.threads.length)(h0:g.thread<0):I5a p g=(g.expr.valid p.cells false&&g.expr.w==1):=by
 unfold I5a;rw[decide_eq_true h1,decide_eq_true h2,decide_eq_true h0];simp
theorem g3b{p:f0a}{g:e4a}{th:X0a}(h0:0≤g.thread)(h2:g.thread<p.threads.length)(a0:p.threads[g.thread.toNat]?=some th)(h3:0≤g.point)(h4:g.point<th.points):I5a p g=(g.expr.valid p.cells false&&g.expr.w==1):=by
 unfold I5a;simp only[a0];rw[decide_eq_true (p:=-1≤g.thread) (by omega),decide_eq_true h2,decide_eq_true h3,decide_eq_true h4];simp
def Q2a(c:q0a)(g:e4a):Bool:=c.buf.all List.isEmpty&&((decide (g.thread<0)||(match c.at_[g.thread.toNat]? with|some n=>n==g.point|none=>true))&&g.expr.evl c.mem c.mem==1)
theorem u9b(c:q0a):dec (t3a c)=c.buf.all List.isEmpty:=by
 unfold dec;rw[Bool.eq_iff_iff,@decide_eq_true_iff _ (Classical.propDecidable _)];simp[t3a]
theorem O4b{a b:Int}(h:a=b):(a==b)=true:=by simp[h]
theorem C1b{a b:Int}(h:a≠b):(a==b)=false:=by simp[h]
theorem p6c{c:q0a}{g:e4a}(h:c.buf.all List.isEmpty=false):Q2a c g=false:=by unfold Q2a;rw[h];rfl
theorem O3c{c:q0a}{g:e4a}{n:Int}(h0:0≤g.thread)(hn:c.at_[g.thread.toNat]?=some n)(a0:n≠g.point):Q2a c g=false:=by
 unfold Q2a;simp only[hn];rw[decide_eq_false (p:=g.thread<0) (by omega),beq_eq_false_iff_ne.2 a0];simp
theorem Q3b{c:q0a}{g:e4a}{n:Int}(h:c.buf.all List.isEmpty=true)(hn:c.at_[g.thread.toNat]?=some n)(a0:n=g.point):Q2a c g=(g.expr.evl c.mem c.mem==1):=by
 unfold Q2a;simp only[hn];rw[h,a0];simp
theorem V3b{c:q0a}{g:e4a}(h:c.buf.all List.isEmpty=true)(h0:g.thread<0):Q2a c g=(g.expr.evl c.mem c.mem==1):=by
 unfold Q2a;rw[h,decide_eq_true h0];simp
theorem z1c(p:f0a)(g:e4a)(M:List Nat)(w0:World)(cs gs:List Value)(hI:InP p M w0 cs)(hG:J4a M w0 gs g):
 M0a Tryz.prog 61 #[.agg cs.toArray,.agg gs.toArray] w0 fun v w'=>v=.bool (I5a p g)∧Below w0.heap.size w0 w':=by
 obtain⟨_,_,_,_,_,_,_,_,_,_,_,_,rfl,hC,_,_,v0,_,_,_,_,_,_,_,_⟩:=hI.rd.open_;obtain⟨_,rfl,hE,_,g2⟩:=hG;obtain⟨_,_,_,rfl,_,_,_,-⟩:=id hE.open_;have S:=St.refl w0;refine a0a Tryz.func61 rfl Tryz.ntmps61 rfl ?_;refine wO0 rfl ⟨⟩ (h0a S (by conv=>lhs;whnf) rfl ?_);intro g2 w2 S2 X2 G2;refine h0a S2 (by conv=>lhs;whnf) rfl ?_;intro g3 w3 S3 X3 G3;refine lB S3.k [.o 0] rfl ⟨rfl,⟨⟩⟩ (fun h7=>?_) fun h7=>?_
 ·refine lR0 rfl ⟨⟩ (o0a rfl (by conv=>lhs;whnf) ?_);exact⟨by rw[W5b (by omega)],S3.fin⟩
 refine lB S3.k [.o 0,.o 1] rfl ⟨rfl,rfl,⟨⟩⟩ (fun r0=>?_) fun r0=>?_
 ·refine lR0 rfl ⟨⟩ (o0a rfl (by conv=>lhs;whnf) ?_);exact⟨by rw[W5b (by omega)],S3.fin⟩
 refine lC0 rfl ⟨⟩ (v0a b0a [0,1,2,3,4,5,6,7,8,9,10,11,12,13,14,15,16,17,18,19] [] [] (by kernel_rfl) rfl (Cl _ _ _ _) (Cl.start S3) ?_);refine qB S3.q [.o 0] rfl ⟨rfl,⟨⟩⟩ (fun s0=>?_) fun s0=>?_
 ·refine qB S3.q [.o 0] rfl ⟨rfl,⟨⟩⟩ (fun t0=>?_) fun t0=>?_
  ·refine qD rfl ⟨⟩ ?_;rintro p0 ⟨a0,g0⟩;refine lR0 rfl ⟨⟩ (o0a rfl (by conv=>lhs;whnf) ?_);exact⟨by rw[g7c (by omega) (by omega) (by omega)],a0.fin⟩
  obtain⟨_,q0,x0,_,e0,i0,_,_,j0,n0⟩:=RdS.get (v0) (g.thread.toNat) (by omega);obtain⟨_,_,_,_,_,_,_,_,_,_,_,_,rfl,_,_,_,_,_,_,_,_,_,_,_,_,_⟩:=N0a.open_ n0;refine qB (S3.q.a j0) [.o 0,.o 1,.o 0,.x q0 x0,.f 0 1] rfl ⟨rfl,⟨i0,by omega⟩,rfl,rfl,rfl,⟨⟩⟩ (fun u0=>?_) fun u0=>?_
  ·refine qD rfl ⟨⟩ ?_;rintro p0 ⟨a0,g0⟩;refine lR0 rfl ⟨⟩ (o0a rfl (by conv=>lhs;whnf) ?_);exact⟨by rw[J0c (by omega) e0 (by omega)],a0.fin⟩
  refine qD rfl ⟨⟩ ?_;rintro p0 ⟨a0,g0⟩;refine lO a0.k [.o 0,.o 1] rfl ⟨rfl,rfl,⟨⟩⟩ (C0a a0 O7a rfl rfl (S2a g.expr M _ _ _ p.cells false (RdE.keep (a0.keep0 M) _ _ hE) (hC.keep (a0.keep0 M)) (hI.keep (a0.keep0 M)).msk) (fun d0 o0 b0 f0=>?_) (fun d0 o0 b0 f0=>?_))
  ·refine lB b0.k [.o 0] rfl ⟨rfl,⟨⟩⟩ (fun h0=>?_) fun h0=>?_
   ·refine lR0 rfl ⟨⟩ (o0a rfl (by conv=>lhs;whnf) ?_);exact⟨by rw[g3b (by omega) (by omega) e0 (by omega) (by omega),d0];simp_all,b0.fin⟩
   refine lR0 rfl ⟨⟩ (o0a rfl (by conv=>lhs;whnf) ?_);exact⟨by rw[g3b (by omega) (by omega) e0 (by omega) (by omega),d0];simp_all,b0.fin⟩
  refine lR0 rfl ⟨⟩ (o0a rfl (by conv=>lhs;whnf) ?_);exact⟨by rw[g3b (by omega) (by omega) e0 (by omega) (by omega),d0];simp_all,b0.fin⟩
 refine qD rfl ⟨⟩ ?_;rintro p0 ⟨a0,g0⟩;refine lO a0.k [.o 0,.o 1] rfl ⟨rfl,rfl,⟨⟩⟩ (C0a a0 O7a rfl rfl (S2a g.expr M _ _ _ p.cells false (RdE.keep (a0.keep0 M) _ _ hE) (hC.keep (a0.keep0 M)) (hI.keep (a0.keep0 M)).msk) (fun d0 o0 b0 f0=>?_) (fun d0 o0 b0 f0=>?_))
 ·refine lB b0.k [.o 0] rfl ⟨rfl,⟨⟩⟩ (fun h0=>?_) fun h0=>?_
  ·refine lR0 rfl ⟨⟩ (o0a rfl (by conv=>lhs;whnf) ?_);exact⟨by rw[Q2b (by omega) (by omega) (by omega),d0];simp_all,b0.fin⟩
  refine lR0 rfl ⟨⟩ (o0a rfl (by conv=>lhs;whnf) ?_);exact⟨by rw[Q2b (by omega) (by omega) (by omega),d0];simp_all,b0.fin⟩
 refine lR0 rfl ⟨⟩ (o0a rfl (by conv=>lhs;whnf) ?_);exact⟨by rw[Q2b (by omega) (by omega) (by omega),d0];simp_all,b0.fin⟩
theorem g7b(c:q0a)(g:e4a)(M:List Nat)(w0:World)(xs gs:List Value)(hX:t0a M w0 c xs)(hG:J4a M w0 gs g)(hK:q3a M w0)(v0:g.thread<c.at_.length):
 M0a Tryz.prog 63 #[.agg xs.toArray,.agg gs.toArray] w0 fun v w'=>v=.bool (Q2a c g)∧Below w0.heap.size w0 w':=by
 obtain⟨_,_,_,_,_,_,_,_,_,rfl,b0,s0,_,_,_,_,_,_,_⟩:=id hX.open_;obtain⟨_,rfl,hE,_,g2⟩:=hG;obtain⟨_,_,_,rfl,_,_,_,-⟩:=id hE.open_;have S:=St.refl w0;refine a0a Tryz.func63 rfl Tryz.ntmps63 rfl ?_;refine wO0 rfl ⟨⟩ (h0a S (by conv=>lhs;whnf) rfl ?_);intro g2 w2 S2 X2 G2;refine h0a S2 (by conv=>lhs;whnf) rfl ?_;intro g3 w3 S3 X3 G3;refine lC0 rfl ⟨⟩ (v0a b0a [0,1,2,3,4,5,6,7,8,9,10,11,12,13,14,15,16,17,18] [] [] (by kernel_rfl) rfl (Cl _ _ _ _) (Cl.start S3) ?_);refine qO S3.q [.w 1] rfl ⟨⟨rfl,by rfl⟩,⟨⟩⟩ (Y1a P8c rfl rfl (fun w1 S1 X1=>u9b c▸e3c c M _ _ (hX.keep (S1.keep0 M))) (fun h6=>?_) fun h6=>?_)
 ·refine qB S3.q [.o 0] rfl ⟨rfl,⟨⟩⟩ (fun q0=>?_) fun q0=>?_
  ·obtain⟨_,p0,t0,_,j0,g0,_,_,h0,i0⟩:=RdS.get (s0) (g.thread.toNat) (by omega);obtain⟨rfl,_⟩:=id i0;refine qB (S3.q.a h0) [.o 1,.o 0,.x p0 t0,.f 0 0,.o 0] rfl ⟨rfl,rfl,⟨g0,by omega⟩,rfl,rfl,⟨⟩⟩ (fun r0=>?_) fun r0=>?_
   ·refine qD rfl ⟨⟩ ?_;rintro n0 ⟨a0,f0⟩;refine lR0 rfl ⟨⟩ (o0a rfl (by conv=>lhs;whnf) ?_);exact⟨by rw[O3c (by omega) j0 (by omega)],a0.fin⟩
   refine qD rfl ⟨⟩ ?_;rintro n0 ⟨a0,f0⟩;refine lO a0.k [.o 0,.o 1,.o 1] rfl ⟨rfl,rfl,rfl,⟨⟩⟩ (g0a a0 k1b rfl rfl (O8a g.expr M _ _ _ _ c.mem c.mem (RdE.keep (a0.keep0 M) _ _ hE) (hK.keep (a0.keep0 M)) (b0.keep (a0.keep0 M)) (b0.keep (a0.keep0 M))) ?_);intro u0 e0 o0;refine lB0 rfl ⟨⟩ (fun d0=>?_) fun d0=>?_
   ·refine lR0 rfl ⟨⟩ (o0a rfl (by conv=>lhs;whnf) ?_);exact⟨by rw[Q3b h6 j0 (by omega),O4b d0],e0.fin⟩
   refine lR0 rfl ⟨⟩ (o0a rfl (by conv=>lhs;whnf) ?_);exact⟨by rw[Q3b h6 j0 (by omega),C1b d0],e0.fin⟩
  refine qD rfl ⟨⟩ ?_;rintro n0 ⟨a0,f0⟩;refine lO a0.k [.o 0,.o 1,.o 1] rfl ⟨rfl,rfl,rfl,⟨⟩⟩ (g0a a0 k1b rfl rfl (O8a g.expr M _ _ _ _ c.mem c.mem (RdE.keep (a0.keep0 M) _ _ hE) (hK.keep (a0.keep0 M)) (b0.keep (a0.keep0 M)) (b0.keep (a0.keep0 M))) ?_);intro u0 e0 o0;refine lB0 rfl ⟨⟩ (fun d0=>?_) fun d0=>?_
  ·refine lR0 rfl ⟨⟩ (o0a rfl (by conv=>lhs;whnf) ?_);exact⟨by rw[V3b h6 (by omega),O4b d0],e0.fin⟩
  refine lR0 rfl ⟨⟩ (o0a rfl (by conv=>lhs;whnf) ?_);exact⟨by rw[V3b h6 (by omega),C1b d0],e0.fin⟩
 refine qD rfl ⟨⟩ ?_;rintro n0 ⟨a0,f0⟩;refine lR0 rfl ⟨⟩ (o0a rfl (by conv=>lhs;whnf) ?_);exact⟨by rw[p6c h6],a0.fin⟩
theorem B0c{w:World}{g t:Nat}{cs:List Value}(h:p0a w (g,t,cs)):t1a w g 0 cs:=fun j v hj=>by
 rw[Nat.zero_add];exact h.cell hj
theorem J4a.less{M M':List Nat}{w:World}{cs:List Value}{g:e4a}(hM:∀x∈M',x∈M)(h:J4a M w cs g):J4a M' w cs g:=h.more fun x hx=>.inl (hM x hx)
theorem P9a{p:f0a}{g:e4a}(h:I5a p g=true):g.thread<p.threads.length:=by
 rcases Int.lt_or_le g.thread p.threads.length with h1|h1
 ·exact h1
 ·rw[W5b (.inr h1)] at h;cases h
theorem t8a{V:List K2a}(hV:w6a V):∀(n i:Nat),i<n→W4a V n i=W4a V (i+1) i
 | 0,i,h=>absurd h (by omega)
 | n+1,i,h=>by
   show(match V[i]? with|some y=>if 0≤y.frm then y.ch::W4a V n y.frm.toNat else[]|none=>[])=(match V[i]? with|some y=>if 0≤y.frm then y.ch::W4a V i y.frm.toNat else[]|none=>[])
   rcases hy:V[i]? with _|y
   ·rfl
   ·simp only
    split
    ·rename_i h0;rcases hV.one i y hy with⟨_,h1⟩|⟨_,h1⟩
     ·omega
     ·rw[t8a hV n _ (by omega),t8a hV i _ (by omega)]
    ·rfl
termination_by n=>n
theorem f8b{V:List K2a}(hV:w6a V){i:Nat}{y:K2a}(hy:V[i]?=some y)(h0:0≤y.frm):W4a V (i+1) i=y.ch::W4a V (y.frm.toNat+1) y.frm.toNat:=by
 show(match V[i]? with|some y=>if 0≤y.frm then y.ch::W4a V i y.frm.toNat else[]|none=>[])=_
 rw[hy];simp only;rw[if_pos h0];rcases hV.one i y hy with⟨_,h1⟩|⟨_,h1⟩
 ·omega
 ·rw[t8a hV i _ (by omega)]
theorem I0c{V:List K2a}{i:Nat}{y:K2a}(hy:V[i]?=some y)(h0:¬0≤y.frm):W4a V (i+1) i=[]:=by
 show(match V[i]? with|some y=>if 0≤y.frm then y.ch::W4a V i y.frm.toNat else[]|none=>[])=_
 rw[hy];simp only;rw[if_neg h0]
theorem H0b{w0 w1 w2:World}(h:Below w0.heap.size w0 w1)(k:Below w1.heap.size w1 w2):Below w0.heap.size w0 w2:=((F0a.of (M:=[]) h).trans (F0a.of k)).nil
theorem q2c(c:q0a)(g:e4a)(gg:Nat)(M:List Nat)(w0:World)(xs gs:List Value)(hX:t0a M w0 c xs)(hb:p0a w0 (gg,70,gs))(hG:J4a M w0 gs g)(hK:q3a M w0)(a0:g.thread<c.at_.length):
 M0a Tryz.prog 62 #[.agg xs.toArray,.pointer (some ⟨gg,0,none⟩)] w0 fun v w'=>v=.bool (Q2a c g)∧Below w0.heap.size w0 w':=by
 obtain⟨_,_,_,_,_,_,_,_,_,rfl,-⟩:=id hX.open_;obtain⟨_,rfl,hE,_,g2⟩:=id hG;obtain⟨_,_,_,rfl,_,_,_,-⟩:=id hE.open_;have b0:=B0c hb;have S:=St.refl w0;refine a0a Tryz.func62 rfl Tryz.ntmps62 rfl ?_;refine wO0 rfl ⟨⟩ (h0a S (by conv=>lhs;whnf) rfl ?_);intro g2 w2 S2 X2 G2;refine lO S2.k [.w 0] rfl ⟨⟨rfl,by rfl⟩,⟨⟩⟩ (w1a k5b rfl (b0.keep (S2.keep0 []) (by simp)) (by rfl) rfl ?_);refine g0a S2 C4c rfl rfl (g7b c g M _ _ _ (hX.keep (S2.keep0 M)) (hG.keep (S2.keep0 M)) (hK.keep (S2.keep0 M)) a0) ?_;intro w6 S6 X6;exact lT rfl ⟨⟩ rfl ⟨rfl,S6.fin⟩
theorem f2c(p:f0a)(m:Int)(g:e4a)(gS gg:Nat)(M0:List Nat)(wf:World)(cs gs:List Value)(hI:InP p (gS::M0) wf cs)(hb:p0a wf (gg,70,gs))(hG:J4a (gS::M0) wf gs g)(d0:gg≠gS)(e0:g.thread<p.threads.length):
 Acc p m gS 62 [.pointer (some ⟨gg,0,none⟩)] [] M0 wf (fun c=>Q2a c g) (fun _ Bs _ w=>Bs=[]∧y0a [gS] wf w) where
 has:=o0d
 start:=⟨rfl,y0a.refl _ _⟩
 own:=by
  rintro k Bs Ts f0 w w' ⟨rfl,hk⟩ hT g0 b0;refine⟨rfl,Nat.le_trans hk.size b0.size,fun i hi hn=>?_⟩;rw[b0.same i (Nat.lt_of_lt_of_le hi hk.size) (fun hh=>by
   rcases(hT i hh).2 with rfl|h
   ·exact hn (by simp)
   ·omega)]
  exact hk.same i hi hn
 lt:=by
  rintro k Bs Ts w ⟨rfl,hk⟩ x hx;cases hx
 call:=by
  rintro k Bs Ts w V y ys ⟨rfl,hk⟩ hT hv hl hy hX hw h0;have hf:c3a p y.conf:=E4a hI.ok (q0b hv (List.mem_of_getElem? hy));have a0:y0a (gS::M0) wf w:=hk.mono (by simp);refine(q2c y.conf g gg M0 w ys gs (hX.less (fun x hx=>by simp[hx])) (x1a hk (by simpa using d0) hb) ((hG.keep a0).less (fun x hx=>by simp[hx])) ⟨fun hh=>(hI.keep a0).msk.1 (List.mem_cons_of_mem _ hh),(hI.keep a0).msk.2⟩ (by rw[hf.nat];exact e0)).mono fun r w' hr=>?_;obtain⟨rfl,hB⟩:=hr;exact⟨rfl,[],⟨rfl,hk.trans (y0a.of_below hB).of_nil⟩,F0a.of hB,fun x hx=>(by cases hx)⟩
theorem N7a(p:f0a)(m:Int)(hm:m=0∨m=1∨m=2)(n:Nat)(h1:1≤n)(h2:n≤20000)(g:e4a)(M:List Nat)(w0:World)(cs gs:List Value)(hI:InP p M w0 cs)(hG:J4a M w0 gs g):
 M0a Tryz.prog 28 #[.agg cs.toArray,.int .i64 m,.agg gs.toArray,.int .i64 n] w0 fun r w'=>(∃v l y0,r=.tuple #[v,.int .i64 y0]∧Q8b M w' v l∧x5c p m (I5a p g) (fun c=>Q2a c g) n l y0)∧Below w0.heap.size w0 w':=by
 obtain⟨_,_,_,_,_,_,_,_,_,_,_,_,rfl,_,_,_,_,_,_,_,_,_,_,_,_⟩:=hI.rd.open_;obtain⟨_,rfl,hE,_,_⟩:=id hG;obtain⟨_,_,_,rfl,_,_,_,-⟩:=id hE.open_;have S:=St.refl w0;have v1:b3a m n=true:=by rcases hm with rfl|rfl|rfl<;>(simp[b3a];omega)
 refine a0a Tryz.func28 rfl Tryz.ntmps28 rfl ?_;refine wO0 rfl ⟨⟩ (h0a S (by conv=>lhs;whnf) rfl ?_);intro g4 w4 S4 X4 G4;refine h0a S4 (by conv=>lhs;whnf) rfl ?_;intro g6 w6 S6 X6 G6;refine lO S6.k [.w 1] rfl ⟨⟨rfl,by rfl⟩,⟨⟩⟩ (g0a S6 Q1c rfl rfl (v1▸F8a p m n M _ _ (hI.keep (S6.keep0 M))) ?_);intro P1 u0 G1;refine lO u0.k [.w 1,.w 0] rfl ⟨⟨rfl,by rfl⟩,⟨rfl,by rfl⟩,⟨⟩⟩ (C0a u0 f5c rfl rfl (z1c p g M _ _ _ (hI.keep (u0.keep0 M)) (hG.keep (u0.keep0 M))) (fun i0 A1 v0 m1=>?_) (fun i0 A1 v0 m1=>?_))
 ·refine lO v0.k [.w 1] rfl ⟨⟨rfl,by rfl⟩,⟨⟩⟩ (f1a X4c (vs:=[(0,.agg _),(1,.int .i64 _)]) (cs:=[_,_,_,_,_,_]) rfl rfl rfl rfl ?_);refine h0a v0 (by conv=>lhs;whnf) rfl ?_;intro a0 q0 e0 H1 D1;refine lO0 rfl ⟨⟩ (N1a rfl rfl ?_);have T1:w0.heap.size≤a0∧a0<q0.heap.size:=⟨by simpa using e0.new 0 rfl,e0.lt 0 rfl⟩;have t0:InP p (a0::M) q0 _:=InP.grow (Bs0:=[]) (M0:=M) hI (e0.keep0 []) (fun x hx=>by
   simp only[List.nil_append,List.mem_cons] at hx ⊢;rcases hx with rfl|hx
   ·right;omega
   ·exact .inl hx) (fun x hx=>by
   simp only[List.mem_cons] at hx;have:=e0.size;rcases hx with rfl|hx
   ·omega
   ·have:=hI.lt x hx;omega)
  have H0:J4a (a0::M) q0 _ g:=J4a.less (M:=a0::M) (fun _ h=>h) ((J4a.more (M':=a0::M) (fun x hx=>by
   rcases List.mem_cons.1 hx with rfl|hx
   ·right;omega
   ·exact .inl hx) hG).keep (e0.keep0 _))
  have U0:g6≠a0:=a6a (e0.blk 1 rfl) (e0.blk 0 rfl) (by decide);have P0:=f2c p m g a0 g6 M q0 _ _ t0 (e0.blk 1 rfl) H0 U0 (P9a i0);have u1:=e0.below;refine e5a A4c rfl rfl rfl (K6b p m hm n a0 (by omega) _ _ _ _ 62 [.pointer (some ⟨g6,0,none⟩)] [] M q0 (fun c=>Q2a c g) (fun _ Bs _ w1=>Bs=[]∧y0a [a0] q0 w1) t0 (e0.blk 0 rfl) (by simp) P0) ?_;rintro M1 r0 ⟨⟨i,y0,rfl,hF⟩,F0⟩;have z0:Below w0.heap.size w0 r0:=(F0a.stepM (Ms:=[a0]) u1 F0 (fun x hx=>by rw[List.mem_singleton] at hx;omega)).nil;have a1:=(St.refl r0).nilEnt 44;refine lB0 rfl ⟨⟩ (fun d1=>?_) fun d1=>?_
  ·refine lR0 rfl ⟨⟩ (d4b rfl (by conv=>lhs;whnf) (by conv=>lhs;whnf) ?_);refine⟨⟨_,[],_,rfl,V4a,?_⟩,H0b z0 a1.fin⟩;rcases hF with⟨he,_⟩|⟨he,V,q1,q2,q3⟩|⟨he,k,_,_,q1,q2,q3,_⟩
   ·exact absurd he d1
   ·exact .inr (.inr (.inl ⟨i0,he,rfl,V,q1,q2,q3⟩))
   ·exact .inr (.inr (.inr ⟨i0,he,rfl,k,q1,q2,q3⟩))
  obtain⟨k,V,v,Bs,_,rfl,hv,g1,f1,i1,⟨yk,j1,f0⟩,-,J0,K0,-⟩:=(hF.resolve_right (fun h=>by rcases h with h|h<;>omega)).2;obtain rfl:y0=0:=by omega
  have b0:RdS M r0 7 (g6a M r0) v V:=RdS.lessW K0 (fun x hx=>by simp[hx]) (fun _ _=>g6a.more (fun x hx=>.inl (by simp[hx])));obtain⟨_,_,_,rfl⟩:=b0.form;obtain⟨_,-,_⟩:=b0.len;have A0:=hv.from
  have cS:=J0.cell (o:=5) rfl;refine lC0 rfl ⟨⟩ (wL (fun μ D ε w=>D=[]∧∃i:Int,∃l:List A0a,∃G:Option Nat,∃s0:List Value,∃v2:Value,(i+1≤μ)∧(0≤i)∧(i≤k)∧(l++W4a V (i.toNat+1) i.toNat=W4a V (k+1) k)∧(l.length+i≤k)∧(B1a (fun _ _=>M1a) 3 [] r0 G s0 v2 l)∧(G=none→s0=[])∧St [] r0 w [(G,44,s0)]∧Sl ε [(10,.pointer (some ⟨a0,0,none⟩)),(11,.int .i64 i),(13,v2)]) (μ:=k+1) ⟨rfl,(k:Int),[],none,[],.slice none 0 0,by omega,by omega,by omega,by simp,by simp,B1a.nil,fun _=>rfl,a1,rfl⟩ ?_);rintro μ D ε w ⟨rfl,i,l,G,s0,v2,_,_,_,g0,_,n0,h0,S,eZ⟩;refine wK eZ (wO0 rfl ⟨⟩ ?_);refine s0a k8a rfl (by exact S.old cS) rfl ?_;obtain⟨y,n1,x1,_,p0,C0,_,_,R0,V0⟩:=RdS.get (b0) (i.toNat) (by omega);obtain⟨_,rfl,L0,_,_⟩:=V0;obtain⟨_,_,_,_,_,_,_,_,_,rfl,-⟩:=L0.open_;refine lB (S.k.a R0) [.x n1 x1,.f 0 3] rfl ⟨rfl,⟨C0,by omega⟩,⟨⟩⟩ (fun s1=>?_) fun s1=>?_
  ·refine lOn 8 S.k [] rfl ⟨⟩ (Z0a (by conv=>lhs;whnf) rfl ?_);refine lO0 rfl ⟨⟩ (s0a k8a rfl (by exact S.old cS) rfl ?_);obtain⟨_,p1,z1,_,Z0,E0,_,_,T0,X0⟩:=RdS.get (b0) (i.toNat) (by omega);obtain rfl:=Option.some.inj (p0.symm.trans Z0);obtain⟨_,rfl,O0,_,I0⟩:=X0;obtain⟨_,_,_,_,_,_,_,_,_,rfl,-⟩:=O0.open_;refine lO S.k [.x p1 z1] rfl ⟨⟨E0,by omega⟩,⟨⟩⟩ (w1a e6a rfl ((t1a.sub T0 4 3).keep (S.keep0 []) List.not_mem_nil) rfl rfl ?_);refine u0a S W2a (vs:=[.agg _]) (cs:=[_,_,_]) (by rfl) rfl rfl rfl rfl rfl rfl ?_;intro K1 Q1 b1 I1 E1;refine Y0a K1a (k:=1) (M2:=[]) (e1:=y.ch) b1 W2a (by decide) rfl n0 rfl rfl (b1.cells 0 rfl) I0 (by omega) rfl ?_;intro N1 F1 r1 R1 B0 d0 J1 C1;refine P0a (by conv=>lhs;whnf) rfl ?_;refine lO0 rfl ⟨⟩ (s0a k8a rfl (by exact B0.old cS) rfl ?_);obtain⟨_,o1,y1,_,Y0,D0,_,_,S0,W0⟩:=RdS.get (b0) (i.toNat) (by omega);obtain rfl:=Option.some.inj (p0.symm.trans Y0);obtain⟨_,rfl,N0,_,_⟩:=W0;obtain⟨_,_,_,_,_,_,_,_,_,rfl,-⟩:=N0.open_;refine lP (B0.k.a S0) [.x o1 y1,.f 0 3] rfl ⟨rfl,⟨D0,by omega⟩,⟨⟩⟩ ?_;refine⟨μ-1,by omega,rfl,(y.frm),(l++[y.ch]),(_),(_),(_),(by have:=A0.one i.toNat y p0;omega),(by omega),(by have:=A0.one i.toNat y p0;omega),(by rw[←g0,f8b A0 p0 (by omega)];simp),(by have:=A0.one i.toNat y p0;simp;omega),(d0),(fun h=>by subst h;exact absurd (o2b d0) (by simp)),B0.tail,rfl⟩
  have j0:l=W4a V (k+1) k:=by rw[←g0,I0c p0 (by omega)];simp
  obtain⟨_,_,rfl⟩:=n0.form;refine lOn 8 S.k [] rfl ⟨⟩ (Z0a (v:=.slice _ _ _) rfl rfl ?_);refine lB0 rfl ⟨⟩ (fun t1=>?_) fun t1=>?_
  ·refine lR0 rfl ⟨⟩ (d4b rfl (by conv=>lhs;whnf) (by conv=>lhs;whnf) ?_);exact⟨⟨_,[],_,rfl,V4a,.inr (.inl ⟨k,V,hv,g1,f1,i1,⟨yk,j1,f0⟩,i0,.inl ⟨by rw[←j0];omega,rfl,rfl⟩⟩)⟩,H0b z0 S.fin⟩
  refine lOn 7 S.k [] rfl ⟨⟩ (Z0a (v:=.slice _ _ _) rfl rfl ?_);refine c2a D9c rfl rfl (Z7b _ G s0 _ l n0 h0 (fun x hx=>S.blk 0 (by rw[hx];rfl)) (by omega)) ?_;rintro O1 B1 ⟨_,o0,Q0,G0⟩;have x0:=S.callRow (k:=0) (G':=G) rfl G0 Q0 (fun x hx=>.inl hx);refine lOn 4 x0.k [] rfl ⟨⟩ (Z0a (v:=.slice _ _ _) rfl rfl ?_);refine P0a (v:=.slice _ _ _) rfl rfl ?_;refine lR0 rfl ⟨⟩ (d4b rfl (by conv=>lhs;whnf) (by conv=>lhs;whnf) ?_);refine⟨⟨_,l.reverse,_,rfl,?_,.inr (.inl ⟨k,V,hv,g1,f1,i1,⟨yk,j1,f0⟩,i0,.inr ⟨by rw[←j0];omega,rfl,by rw[j0]⟩⟩)⟩,H0b z0 x0.fin⟩;refine B1a.rd (M:=M) (w:=B1) K1a o0 x0 (k:=0) rfl (fun x hx hh=>?_) (by simp;omega);have h3:=(x0.own _ (List.mem_cons_self) x (by rw[hx])).1;have h4:=hI.lt x hh;have h5:=z0.size;rcases h3 with h3|h3
  ·omega
  ·cases h3
 refine lR0 rfl ⟨⟩ (d4b rfl (by conv=>lhs;whnf) (by conv=>lhs;whnf) ?_);exact⟨⟨_,[],_,rfl,V4a,.inl ⟨i0,rfl,rfl⟩⟩,v0.fin⟩
theorem j4b(p:f0a)(c:q0a)(g:e4a)(M:List Nat)(w0:World)(cs xs gs:List Value)(hI:InP p M w0 cs)(hX:t0a M w0 c xs)(hf:c3a p c)(hG:J4a M w0 gs g):
 M0a Tryz.prog 31 #[.agg cs.toArray,.agg xs.toArray,.agg gs.toArray] w0 fun v w'=>v=.bool (I5a p g&&Q2a c g)∧Below w0.heap.size w0 w':=by
 obtain⟨_,_,_,_,_,_,_,_,_,_,_,_,rfl,_,_,_,_,_,_,_,_,_,_,_,_⟩:=hI.rd.open_;obtain⟨_,_,_,_,_,_,_,_,_,rfl,_,_,_,_,_,_,_,_,_⟩:=id hX.open_;obtain⟨_,rfl,hE,_,_⟩:=id hG;obtain⟨_,_,_,rfl,_,_,_,-⟩:=id hE.open_;have S:=St.refl w0;have f1:=hf.mem.len;have f2:=hf.nat;have f3:=hf.nbuf;refine a0a Tryz.func31 rfl Tryz.ntmps31 rfl ?_;refine wO0 rfl ⟨⟩ (h0a S (by conv=>lhs;whnf) rfl ?_);intro g3 w3 S3 X3 G3;refine h0a S3 (by conv=>lhs;whnf) rfl ?_;intro g4 w4 S4 X4 G4;refine h0a S4 (by conv=>lhs;whnf) rfl ?_;intro g5 w5 S5 X5 G5;refine lO S5.k [.w 2] rfl ⟨⟨rfl,by rfl⟩,⟨⟩⟩ (g0a S5 U6b rfl rfl (b8a p M _ _ (hI.keep (S5.keep0 M))) ?_);intro w8 S8 X8;refine lO S8.k [.w 2,.w 0] rfl ⟨⟨rfl,by rfl⟩,⟨rfl,by rfl⟩,⟨⟩⟩ (C0a S8 f5c rfl rfl (z1c p g M _ _ _ (hI.keep (S8.keep0 M)) (hG.keep (S8.keep0 M))) (fun b0 i0 a0 e0=>?_) (fun b0 i0 a0 e0=>?_))
 ·refine lB a0.k [.o 1,.o 2] rfl ⟨rfl,rfl,⟨⟩⟩ (fun f0=>by exfalso;omega) fun f0=>?_;refine lB a0.k [.o 1,.o 2] rfl ⟨rfl,rfl,⟨⟩⟩ (fun g0=>by exfalso;omega) fun g0=>?_;refine lB a0.k [.o 1,.o 2] rfl ⟨rfl,rfl,⟨⟩⟩ (fun h0=>by exfalso;omega) fun h0=>?_;refine lO a0.k [.w 1,.w 0] rfl ⟨⟨rfl,by rfl⟩,⟨rfl,by rfl⟩,⟨⟩⟩ ?_;refine g0a a0 C4c rfl rfl (g7b c g M _ _ _ (hX.keep (a0.keep0 M)) (hG.keep (a0.keep0 M)) (hI.keep (a0.keep0 M)).msk (by rw[f2];exact P9a b0)) ?_;intro n0 d0 j0;refine lR0 rfl ⟨⟩ (o0a rfl (by conv=>lhs;whnf) ?_);exact⟨by rw[b0];rfl,d0.fin⟩
 refine lR0 rfl ⟨⟩ (o0a rfl (by conv=>lhs;whnf) ?_);exact⟨by rw[b0];rfl,a0.fin⟩
def y1b(s:ByteArray):Bool:=decide (1≤s.size)&&decide (s.size≤64)&&s.data.toList.all fun b=>decide (33≤b.toNat)&&decide (b.toNat≤126)
theorem G7a{s:ByteArray}(h:y1b s=true):t7a s:=by
 simp only[y1b,Bool.and_eq_true,decide_eq_true_eq,List.all_eq_true] at h;refine⟨h.1.1,h.1.2,fun i hi=>?_⟩;exact h.2 s[i] (by rw[ByteArray.getElem_eq_getElem_data];simp)
def inB(i:Int)(n:Nat):Bool:=decide (0≤i)&&decide (i<n)
theorem p9a{i:Int}{n:Nat}(h:inB i n=true):D2a i n:=by simpa[inB,D2a] using h
def N4b(cells:List w2a)(e:E)(sh:Bool)(t:Int):Bool:=(e.sup 3++e.sup 2).all fun x=>(decide (I1a cells x≠-1)||sh)&&(decide (I1a cells x<0)||decide (I1a cells x=t))
theorem J7a{cells:List w2a}{e:E}{sh:Bool}{t:Int}(h:N4b cells e sh t=true):s5a cells e sh t:=fun x hx=>by
 have:=List.all_eq_true.1 h x hx;simp only[Bool.and_eq_true,Bool.or_eq_true,decide_eq_true_eq] at this;exact⟨fun e=>this.1.resolve_left (fun h=>h e),fun e=>this.2.resolve_left (by omega)⟩
def x1b(cells:List w2a)(e:E)(pair:Bool)(t:Int):Bool:=e.valid cells pair&&decide (e.w=1)&&N4b cells e true t
theorem h8a{cells:List w2a}{e:E}{a0:Bool}{t:Int}(h:x1b cells e a0 t=true):Q7a cells e a0 t:=by
 simp only[x1b,Bool.and_eq_true,decide_eq_true_eq] at h;exact⟨h.1.1,h.1.2,J7a h.2⟩
def U0b:List Int→Bool
 | []=>true
 | x::l=>(l.all fun y=>decide (x<y))&&U0b l
theorem B8a:∀{l:List Int},U0b l=true→d6a l
 | [],_=>List.Pairwise.nil
 | x::l,h=>by
   simp only[U0b,Bool.and_eq_true,List.all_eq_true,decide_eq_true_eq] at h;exact List.Pairwise.cons h.1 (B8a h.2)
def pwB{α:Type}(r:α→α→Bool):List α→Bool
 | []=>true
 | x::l=>l.all (r x)&&pwB r l
theorem S1b{α:Type}{r:α→α→Bool}{R:α→α→Prop}(hr:∀a b,r a b=true→R a b):∀{l:List α},pwB r l=true→l.Pairwise R
 | [],_=>List.Pairwise.nil
 | x::l,h=>by
   simp only[pwB,Bool.and_eq_true,List.all_eq_true] at h;exact List.Pairwise.cons (fun y hy=>hr _ _ (h.1 y hy)) (S1b hr h.2)
def p6b(e:E):Bool:=decide (e.op=0)&&decide (e.w=0)&&decide (e.n=0)&&e.kids.isEmpty
theorem Q7b{e:E}(h:p6b e=true):e.absent:=by
 simp only[p6b,Bool.and_eq_true,decide_eq_true_eq,List.isEmpty_iff] at h;exact⟨h.1.1.1,h.1.1.2,h.1.2,h.2⟩
def S0d(e:E):Bool:=decide (e.op=1)&&decide (e.w=1)&&decide (e.n=1)&&e.kids.isEmpty
theorem T5c{e:E}(h:S0d e=true):e=⟨1,1,1,[]⟩:=by
 simp only[S0d,Bool.and_eq_true,decide_eq_true_eq,List.isEmpty_iff] at h;cases e;simp_all
def ifB(c:Prop)[Decidable c](b:Bool):Bool:=!decide c||b
theorem i8a{c:Prop}[Decidable c]{b:Bool}(h:ifB c b=true)(hc:c):b=true:=by simpa[ifB,hc] using h
def R7c(p:f0a)(t:Int)(s:y1a):Bool :=
 N4b p.cells s.guard (decide (s.kind=4)) t &&
 ((List.range s.set.length).all fun i=>match s.set[i]? with|some a=>ifB (0<i∨s.kind≠2) (N4b p.cells a.to (decide (s.kind=4)) t)|none=>true) &&
 (s.set.all fun a=>decide (I1a p.cells a.cell=t∨I1a p.cells a.cell=-1)) &&
 ifB (s.kind=1) (s.set.all fun a=>decide (I1a p.cells a.cell=t)) &&
 ifB (s.kind=2) (match s.set with|[]=>false|a::l=>decide (I1a p.cells a.cell=t∧E1b p.cells a.cell=false∧a.to.op=2∧I1a p.cells a.to.n=-1∧E1b p.cells a.to.n=false)&&l.all fun b=>decide (I1a p.cells b.cell=t∧E1b p.cells b.cell=true)) &&
 ifB (s.kind=3) (match s.set with|[]=>false|a::l=>decide (I1a p.cells a.cell=-1∧E1b p.cells a.cell=false)&&l.all fun b=>decide (E1b p.cells b.cell=true)) &&
 ifB (5≤s.kind) (s.set.isEmpty&&S0d s.guard) &&
 ifB (6≤s.kind) (inB s.target p.threads.length&&decide (s.target≠t)) &&
 ifB (s.kind=6) (match p.threads[s.target.toNat]? with|some u=>u.asleep|none=>true)
theorem g3c{p:f0a}{t:Int}{s:y1a}(h:R7c p t s=true):J4b p t s:=by
 simp only[R7c,Bool.and_eq_true] at h;obtain⟨⟨⟨⟨⟨⟨⟨⟨a1,a2⟩,a3⟩,a4⟩,a5⟩,a6⟩,a7⟩,a8⟩,a9⟩:=h;refine⟨J7a a1,fun i hi hc=>?_,fun a ha=>of_decide_eq_true (List.all_eq_true.1 a3 a ha),fun hk a ha=>of_decide_eq_true (List.all_eq_true.1 (i8a a4 hk) a ha),fun hk=>?_,fun hk=>?_,fun hk=>?_,fun hk=>?_,fun hk u hu=>?_⟩
 ·have:=List.all_eq_true.1 a2 i (List.mem_range.2 hi);rw[List.getElem?_eq_getElem hi] at this;exact J7a (i8a this hc)
 ·have:=i8a a5 hk
  split at this
  ·cases this
  ·rename_i a l hs;rw[Bool.and_eq_true] at this;obtain⟨b1,b2,b3,b4,b5⟩:=of_decide_eq_true this.1;exact⟨a,l,hs,b1,b2,b3,b4,b5,fun b hb=>of_decide_eq_true (List.all_eq_true.1 this.2 b hb)⟩
 ·have:=i8a a6 hk
  split at this
  ·cases this
  ·rename_i a l hs;rw[Bool.and_eq_true] at this;obtain⟨b1,b2⟩:=of_decide_eq_true this.1;exact⟨a,l,hs,b1,b2,fun b hb=>of_decide_eq_true (List.all_eq_true.1 this.2 b hb)⟩
 ·have:=i8a a7 hk;rw[Bool.and_eq_true,List.isEmpty_iff] at this;exact⟨this.1,T5c this.2⟩
 ·have:=i8a a8 hk;rw[Bool.and_eq_true] at this;exact⟨p9a this.1,of_decide_eq_true this.2⟩
 ·have:=i8a a9 hk;rw[hu] at this;exact this
def stepB(p:f0a)(t:Int)(points:Int)(s:y1a):Bool :=
 decide (1≤s.kind∧s.kind≤7)&&decide (0≤s.frm∧s.frm<points-1)&&decide (0≤s.to∧s.to<points)&&inB s.module_ p.modules.length&&ifB (s.release=true) (decide (s.kind=3)) &&
 ifB (s.target≠0) (decide (s.kind=6∨s.kind=7))&&(s.guard.valid p.cells false&&decide (s.guard.w=1)) &&
 (s.set.all fun a=>inB a.cell p.cells.length&&a.to.valid p.cells false&&decide (a.to.w=wAt p.cells a.cell))&&pwB (fun a b=>decide (a.cell≠b.cell)) s.set&&R7c p t s
theorem y2c{p:f0a}{t points:Int}{s:y1a}(h:stepB p t points s=true):p8a p t points s:=by
 simp only[stepB,Bool.and_eq_true] at h;obtain⟨⟨⟨⟨⟨⟨⟨⟨⟨a1,a2⟩,a3⟩,a4⟩,a5⟩,a6⟩,a7,b0⟩,a8⟩,a9⟩,a0⟩:=h;refine⟨of_decide_eq_true a1,of_decide_eq_true a2,of_decide_eq_true a3,p9a a4,fun hr=>of_decide_eq_true (i8a a5 hr),fun hr=>of_decide_eq_true (i8a a6 hr),⟨a7,of_decide_eq_true b0⟩,fun a ha=>?_,S1b (fun a b h=>of_decide_eq_true h) a9,g3c a0⟩;have:=List.all_eq_true.1 a8 a ha;simp only[Bool.and_eq_true] at this;exact⟨p9a this.1.1,this.1.2,of_decide_eq_true this.2⟩
def c7c(p:f0a)(t points:Int)(l:c6b):Bool:=decide (0≤l.head∧l.head<points)&&U0b l.body&&(l.body.all fun x=>decide (0≤x∧x<points∧x≠l.head))&&(l.variant.valid p.cells false&&N4b p.cells l.variant true t)
theorem D2c{p:f0a}{t points:Int}{l:c6b}(h:c7c p t points l=true):E9b p t points l:=by
 simp only[c7c,Bool.and_eq_true] at h;obtain⟨⟨⟨a1,a2⟩,a3⟩,a4,a5⟩:=h;exact⟨of_decide_eq_true a1,B8a a2,fun x hx=>of_decide_eq_true (List.all_eq_true.1 a3 x hx),a4,J7a a5⟩
def Z4b(p:f0a)(t:Nat)(x:X0a):Bool :=
 y1b x.name&&decide (1≤x.points∧x.points≤48)&&decide (x.steps.length≤64)&&decide (x.loops.length≤8)&&decide ((x.asserts.length:Int)=x.points)&&decide ((x.modules.length:Int)=x.points) &&
 (x.modules.all fun m=>inB m p.modules.length)&&(x.asserts.all fun e=>x1b p.cells e false t)&&(x.steps.all fun s=>stepB p t x.points s)&&(x.loops.all fun l=>c7c p t x.points l)
theorem I8b{p:f0a}{t:Nat}{x:X0a}(h:Z4b p t x=true):V6a p t x:=by
 simp only[Z4b,Bool.and_eq_true] at h;obtain⟨⟨⟨⟨⟨⟨⟨⟨⟨a1,a2⟩,a3⟩,a4⟩,a5⟩,a6⟩,a7⟩,a8⟩,a9⟩,a0⟩:=h;exact⟨G7a a1,of_decide_eq_true a2,of_decide_eq_true a3,of_decide_eq_true a4,of_decide_eq_true a5,of_decide_eq_true a6,fun m hm=>p9a (List.all_eq_true.1 a7 m hm),fun m hm=>h8a (List.all_eq_true.1 a8 m hm),
  fun m hm=>y2c (List.all_eq_true.1 a9 m hm),fun m hm=>D2c (List.all_eq_true.1 a0 m hm)⟩
def d7c(p:f0a)(c:w2a):Bool:=y1b c.name&&decide (1≤c.w∧c.w≤8)&&decide (0≤c.init∧c.init<G3a c.w.toNat)&&decide (-1≤c.thread∧c.thread<p.threads.length)&&inB c.module_ p.modules.length
theorem E3c{p:f0a}{c:w2a}(h:d7c p c=true):P6b p c:=by
 simp only[d7c,Bool.and_eq_true] at h;obtain⟨⟨⟨⟨a1,a2⟩,a3⟩,a4⟩,a5⟩:=h;exact⟨G7a a1,of_decide_eq_true a2,of_decide_eq_true a3,of_decide_eq_true a4,p9a a5⟩
def r1d(p:f0a)(m:v4a):Bool:=y1b m.name&&y1b m.owner&&(p6b m.rely||x1b p.cells m.rely true (-1))&&x1b p.cells m.guar true (-1)&&(m.frame.all fun x=>inB x p.cells.length&&decide (I1a p.cells x=-1))&&U0b m.frame
theorem k8c{p:f0a}{m:v4a}(h:r1d p m=true):r4c p m:=by
 simp only[r1d,Bool.and_eq_true,Bool.or_eq_true] at h;obtain⟨⟨⟨⟨⟨a1,a2⟩,a3⟩,a4⟩,a5⟩,a6⟩:=h;refine⟨G7a a1,G7a a2,a3.imp Q7b h8a,h8a a4,fun x hx=>?_,B8a a6⟩;have:=List.all_eq_true.1 a5 x hx;rw[Bool.and_eq_true] at this;exact⟨p9a this.1,of_decide_eq_true this.2⟩
def I7c(p:f0a)(l:B5b):Bool:=inB l.cell p.cells.length&&decide (I1a p.cells l.cell=-1∧wAt p.cells l.cell=1∧E1b p.cells l.cell=false)&&inB l.module_ p.modules.length&&x1b p.cells l.inv false (-1)
theorem u2c{p:f0a}{l:B5b}(h:I7c p l=true):b7b p l:=by
 simp only[I7c,Bool.and_eq_true] at h;obtain⟨⟨⟨a1,a2⟩,a3⟩,a4⟩:=h;exact⟨⟨p9a a1,of_decide_eq_true a2⟩,p9a a3,h8a a4⟩
def D8c(p:f0a):Bool :=
 decide (p.cells.length≤32)&&decide (p.modules.length≤6)&&decide (p.locks.length≤4)&&decide (p.threads.length≤4) &&
 p.cells.all (d7c p)&&pwB (fun a b=>decide (a.name≠b.name)) p.cells&&p.modules.all (r1d p)&&pwB (fun a b=>decide (a.name≠b.name)) p.modules&&p.locks.all (I7c p)&&pwB (fun a b=>decide (a.cell≠b.cell)) p.locks &&
 ((List.range p.threads.length).all fun t=>match p.threads[t]? with|some x=>Z4b p t x|none=>true)&&pwB (fun a b=>decide (a.name≠b.name)) p.threads
theorem p2c{p:f0a}(h:D8c p=true):d1a p:=by
 simp only[D8c,Bool.and_eq_true] at h;obtain⟨⟨⟨⟨⟨⟨⟨⟨⟨⟨⟨a1,a2⟩,a3⟩,a4⟩,a5⟩,a6⟩,a7⟩,a8⟩,a9⟩,a0⟩,b0⟩,d0⟩:=h;refine⟨of_decide_eq_true a1,of_decide_eq_true a2,of_decide_eq_true a3,of_decide_eq_true a4,fun c hc=>E3c (List.all_eq_true.1 a5 c hc),S1b (fun _ _ h=>of_decide_eq_true h) a6,fun c hc=>k8c (List.all_eq_true.1 a7 c hc),
  S1b (fun _ _ h=>of_decide_eq_true h) a8,fun c hc=>u2c (List.all_eq_true.1 a9 c hc),S1b (fun _ _ h=>of_decide_eq_true h) a0,fun t ht=>?_,S1b (fun _ _ h=>of_decide_eq_true h) d0⟩
 have:=List.all_eq_true.1 b0 t (List.mem_range.2 ht);rw[List.getElem?_eq_getElem ht] at this;exact I8b this
theorem n2c(n wd:Int)(hn:i64 n)(hw:i64 wd)(M:List Nat)(w0:World):
 M0a Tryz.prog 30 #[.int .i64 n,.int .i64 wd] w0 fun v w'=>(∃cs:List Value,v=.agg cs.toArray∧RdE M w' ⟨1,wd,n,[]⟩ cs)∧Below w0.heap.size w0 w':=by
 have S:=St.refl w0;refine a0a Tryz.func30 rfl Tryz.ntmps30 rfl ?_;refine wO0 rfl ⟨⟩ (m0a S j8a rfl rfl ?_);intro g4 w4 S4 X4 G4;refine lO0 rfl ⟨⟩ (f1a s4b (vs:=[(0,.int .i64 _),(1,.int .i64 _),(2,.int .i64 _)]) (cs:=[_,_,_,_]) rfl rfl rfl rfl ?_)
 first|refine e0a (kk:=0) (vs:=[_,_,_,_]) S4 t6a rfl rfl rfl rfl rfl rfl rfl ?_
 intro d0 a0 b0;dsimp only[k0a,List.set] at a0;refine lR0 rfl ⟨⟩ ?_;exact n1a rfl E1a rfl (a0.cells 0 rfl) rfl ⟨⟨_,rfl,A3a (by unfold i64;omega) hw hn⟩,a0.fin⟩
def u1d(a b:E):E:=⟨5,1,0,[a,b]⟩
theorem P5c{M:List Nat}{w:World}{op wd:Int}{a:E}{ca:List Value}{g:Nat}(h1:i64 op)(h2:i64 wd)(hg:g∉M)(hc:t1a w g 0 ca)(ha:RdE M w a ca):
 RdE M w ⟨op,wd,0,[a]⟩ [.int .i64 op,.int .i64 wd,.int .i64 0,.slice (some ⟨g,0,none⟩) 1 1]:=by
 rw[RdE];refine⟨_,1,1,rfl,h1,h2,by unfold i64;simp,rfl,Nat.le_refl _,by unfold maxLen;omega,by omega,fun _=>⟨g,0,rfl,hg,fun i hi=>?_⟩⟩;have a0:i<1:=hi;obtain rfl:i=0:=by omega
 exact⟨ca,by simpa using hc,ha⟩
theorem f6c{M M':List Nat}{w w':World}{op wd n:Int}{cs:List Value}(h:RdE M w ⟨op,wd,n,[]⟩ cs):RdE M' w' ⟨op,wd,n,[]⟩ cs:=by
 rw[RdE] at h ⊢;obtain⟨A,k,c,h1,h2,h3,h4,h5,h6,h7,h8,_⟩:=h;exact⟨A,k,c,h1,h2,h3,h4,h5,h6,h7,h8,fun hk=>absurd hk (by simp at h5;omega)⟩
def RdL(M:List Nat)(w:World)(v:Value)(l:List E):Prop:=RdE M w ⟨0,0,0,l⟩ [.int .i64 0,.int .i64 0,.int .i64 0,v]
theorem RdL.open_{M:List Nat}{w:World}{v:Value}{l:List E}(h:RdL M w v l):∃A n c,v=.slice A n c∧n=l.length∧n≤c∧c≤maxLen∧n≤140737488355328 ∧
 (0<n→∃b o,A=some ⟨b,o,none⟩∧b∉M∧∀(i:Nat) (h:i<l.length),∃a0,t1a w b (o+i*4) a0∧RdE M w l[i] a0):=by
 obtain⟨A,n,c,h1,-,-,-,h2,h3,h4,h5,h6⟩:=RdE.open_ h;cases h1;exact⟨A,n,c,rfl,h2,h3,h4,h5,h6⟩
theorem RdL.at{M:List Nat}{w:World}{A:Option Addr}{n c:Nat}{l:List E}(h:RdL M w (.slice A n c) l):n=l.length∧n≤c∧c≤maxLen∧n≤140737488355328 ∧
 (0<n→∃b o,A=some ⟨b,o,none⟩∧b∉M∧∀(i:Nat) (h:i<l.length),∃a0,t1a w b (o+i*4) a0∧RdE M w l[i] a0):=by
 obtain⟨A,n,c,h1,h2⟩:=h.open_;cases h1;exact h2
theorem RdL.made{M:List Nat}{w:World}{A:Option Addr}{n c:Nat}{l:List E}(h2:n=l.length)(h3:n≤c)(h4:c≤maxLen)(h5:n≤140737488355328)
 (h6:0<n→∃b o,A=some ⟨b,o,none⟩∧b∉M∧∀(i:Nat) (h:i<l.length),∃a0,t1a w b (o+i*4) a0∧RdE M w l[i] a0):RdL M w (.slice A n c) l:=by
 unfold RdL;rw[RdE];exact⟨A,n,c,rfl,by unfold i64;simp,by unfold i64;simp,by unfold i64;simp,h2,h3,h4,h5,h6⟩
theorem RdL.keep{M:List Nat}{w w':World}{v:Value}{l:List E}(h:RdL M w v l)(hk:y0a M w w'):RdL M w' v l:=RdE.keep hk _ _ h
theorem RdL.more{M M':List Nat}{w:World}{v:Value}{l:List E}(h:RdL M w v l)(hM:∀g∈M',g∈M∨w.heap.size≤g):RdL M' w v l:=RdE.more hM _ _ h
def d7a:List E→E
 | []=>⟨1,1,1,[]⟩
 | e::es=>es.foldl u1d e
theorem i0b(l:List E)(k:Nat)(hk:k<l.length):d7a (l.take (k+1))=if k=0 then l[k] else u1d (d7a (l.take k)) l[k]:=by
 cases l with
 | nil=>simp at hk
 | cons e es =>
   cases k with
   | zero=>simp[d7a]
   | succ k =>
     have a0:k<es.length:=by simpa using hk
     simp only[List.take_succ_cons,d7a,List.getElem_cons_succ];rw[if_neg (by omega),List.take_add_one,List.getElem?_eq_getElem a0,Option.toList_some,List.foldl_append];rfl
theorem G8a(a b:List E):E.cnts (a++b)=E.cnts a+E.cnts b:=by
 induction a with
 | nil=>simp[E.cnts]
 | cons x xs ih=>simp only[List.cons_append,E.cnts,ih];omega
theorem F2b(l:List E)(k:Nat)(hk:k<l.length):E.cnts (l.take (k+1))=E.cnts (l.take k)+l[k].cnt∧E.cnts (l.take (k+1))≤E.cnts l:=by
 have h1:E.cnts (l.take (k+1))=E.cnts (l.take k)+l[k].cnt:=by
  rw[List.take_add_one,List.getElem?_eq_getElem hk,Option.toList_some,G8a];simp[E.cnts]
 have h2:=G8a (l.take (k+1)) (l.drop (k+1));rw[List.take_append_drop] at h2;exact⟨h1,by omega⟩
theorem y7b(n wd:Int)(w0:World):M0a Tryz.prog 60 #[.int .i64 n,.int .i64 wd] w0 fun v w'=>v=.agg #[.int .i64 2,.int .i64 wd,.int .i64 n,.slice none 0 0]∧Below w0.heap.size w0 w':=by
 have S:=St.refl w0;refine a0a Tryz.func60 rfl Tryz.ntmps60 rfl ?_;refine wO0 rfl ⟨⟩ (m0a S j8a rfl rfl ?_);intro g4 w4 S4 X4 G4;refine lO0 rfl ⟨⟩ (f1a s4b (vs:=[(0,.int .i64 _),(1,.int .i64 _),(2,.int .i64 _)]) (cs:=[_,_,_,_]) rfl rfl rfl rfl ?_)
 first|refine e0a (kk:=0) (vs:=[_,_,_,_]) S4 t6a rfl rfl rfl rfl rfl rfl rfl ?_
 intro d0 a0 b0;dsimp only[k0a,List.set] at a0;exact lR0 rfl ⟨⟩ (n1a rfl E1a rfl (a0.cells 0 rfl) rfl ⟨rfl,a0.fin⟩)
theorem Z8c(op wd:Int)(ho:i64 op)(hw:i64 wd)(a b:E)(ca cb:List Value)(M:List Nat)(w0:World)(hM:∀g∈M,g<w0.heap.size)(ha:RdE M w0 a ca)(hb:RdE M w0 b cb):
 M0a Tryz.prog 84 #[.int .i64 op,.int .i64 wd,.agg ca.toArray,.agg cb.toArray] w0 fun v w'=>(∃cs:List Value,v=.agg cs.toArray∧RdE M w' ⟨op,wd,0,[a,b]⟩ cs)∧Below w0.heap.size w0 w':=by
 have S:=St.refl w0;obtain⟨_,_,_,rfl,-⟩:=ha.open_;obtain⟨_,_,_,rfl,-⟩:=hb.open_;refine a0a Tryz.func84 rfl Tryz.ntmps84 rfl ?_;refine wO0 rfl ⟨⟩ (h0a S (by conv=>lhs;whnf) rfl ?_);intro g6 w6 S6 X6 G6;refine h0a S6 (by conv=>lhs;whnf) rfl ?_;intro g7 w7 S7 X7 G7;refine m0a S7 j8a rfl rfl ?_;intro g8 w8 S8 X8 G8;refine lO S8.k [.w 2,.w 1] rfl ⟨⟨rfl,by rfl⟩,⟨rfl,by rfl⟩,⟨⟩⟩ (u0a S8 j1a (vs:=[.agg _,.agg _]) (cs:=[_,_,_,_,_,_,_,_]) (by rfl) rfl rfl rfl rfl rfl rfl ?_);intro h0 i0 b0 g0 f0;refine f1a s4b (vs:=[(0,.int .i64 _),(1,.int .i64 _),(3,.slice _ _ _)]) (cs:=[_,_,_,_]) rfl rfl rfl rfl ?_;refine e0a (kk:=1) (vs:=[_,_,_,_]) b0 t6a rfl rfl rfl rfl rfl rfl rfl ?_;intro e0 a0 d0;dsimp only[k0a,List.set] at a0;refine lR0 rfl ⟨⟩ (n1a rfl E1a rfl (a0.cells 1 rfl) rfl ⟨⟨_,rfl,U5c ho hw (fun hm=>?_) (a0.cells 0 rfl) (RdE.keep (a0.keep0 M) _ _ ha) (RdE.keep (a0.keep0 M) _ _ hb)⟩,a0.fin⟩);have h1:=hM _ hm;have h2:=a0.new 0 rfl;simp at h2;omega
theorem A8c(e:E)(n wd:Int)(M:List Nat)(w0:World)(cs:List Value)(hR:RdE M w0 e cs)(ho:e.op≠1):
 M0a Tryz.prog 130 #[.agg cs.toArray,.int .i64 n,.int .i64 wd] w0 fun v w'=>v=.bool false∧Below w0.heap.size w0 w':=by
 obtain⟨_,k,_,rfl,-⟩:=hR.open_;have S:=St.refl w0;refine a0a Tryz.func130 rfl Tryz.ntmps130 rfl ?_;refine wO0 rfl ⟨⟩ (h0a S (by conv=>lhs;whnf) rfl ?_);intro g3 w3 S3 X3 G3;refine lB S3.k [.o 0] rfl ⟨rfl,⟨⟩⟩ (fun h9=>by exfalso;omega) fun h9=>?_;exact lT rfl ⟨⟩ rfl ⟨rfl,S3.fin⟩
theorem O1b(e:E)(M:List Nat)(w0:World)(cs:List Value)(hR:RdE M w0 e cs)(hw:e.wf=true):
 M0a Tryz.prog 81 #[.agg cs.toArray] w0 fun v w'=>v=.bool true∧Below w0.heap.size w0 w':=by
 have h:=E7a e M w0 cs hR
 rwa [hw] at h
theorem p4c(e:E)(M:List Nat)(w0:World)(cs:List Value)(hR:RdE M w0 e cs)(hc:e.cnt≤600):
 M0a Tryz.prog 85 #[.agg cs.toArray,.int .i64 601] w0 fun v w'=>v=.int .i64 (e.cnt:Int)∧Below w0.heap.size w0 w':=by
 have h:=i6b e M w0 cs 601 hR (by unfold i64;omega);have he:e.size 601=(e.cnt:Int):=by rw[E.size_eq e 601 (by omega)];omega
 rwa [he] at h
theorem Q9b(l:List E)(M:List Nat)(w0:World)(vl:Value)(hL:RdL M w0 vl l)(hM:∀g∈M,g<w0.heap.size)(P0:∀e∈l,e.wf=true∧e.w=1∧e.op≠1)(v1:E.cnts l+l.length≤600)(C0:(d7a l).wf=true):
 M0a Tryz.prog 99 #[vl,.int .i64 5,.int .i64 1] w0 fun v w'=>(∃cs:List Value,v=.agg cs.toArray∧RdE M w' (d7a l) cs)∧Below w0.heap.size w0 w':=by
 obtain⟨A,n,c,rfl,_,_,_,_,n1⟩:=hL.open_;have S:=St.refl w0;refine a0a Tryz.func99 rfl Tryz.ntmps99 rfl ?_;refine wO0 rfl ⟨⟩ (m0a S j8a rfl rfl ?_);intro g6 w6 S6 X6 G6;refine lC0 rfl ⟨⟩ (wL (fun μ D ε w=>D=[]∧∃k:Nat,(k+μ=l.length)∧St [] w0 w [(some g6,68,[.int .i64 0,.int .i64 0,.int .i64 0,.slice none 0 0])]∧ε 0=.slice A n c∧ε 1=.int .i64 5∧ε 2=.int .i64 1∧ε 6=.pointer (some ⟨g6,0,none⟩)∧ε 7=.bool false∧ε 8=.int .i64 k) (μ:=l.length) ⟨rfl,0,by omega,S6,rfl,rfl,rfl,rfl,rfl,rfl⟩ ?_);rintro μ D ε w ⟨rfl,k,hk,S,e0,e1,e2,e6,e7,e8⟩;refine r0a 0 e0 (r0a 1 e1 (r0a 2 e2 (r0a 6 e6 (r0a 7 e7 (r0a 8 e8 ?_)))));clear e0 e1 e2 e6 e7 e8;refine wB0 rfl ⟨⟩ (fun b1=>?_) fun b1=>?_
 ·refine lO0 rfl ⟨⟩ ?_;have h0:k<l.length:=by omega
  obtain⟨b,o,hA,O0,E0⟩:=n1 (by omega);obtain⟨ck,B0,G0⟩:=E0 k h0;obtain⟨Ak,nk,qk,rfl,-⟩:=G0.open_;have m1:=B0 1 _ rfl;obtain⟨e1,e2,e3⟩:=P0 l[k] (List.getElem_mem h0);refine w0a j1a.slT rfl (by assumption) rfl (by omega) (by omega) rfl ?_;refine lO0 rfl ⟨⟩ (s0a K0a rfl (by exact S.old m1) rfl ?_);refine lB0 rfl ⟨⟩ (fun N0=>by exfalso;exact N0 e2) (fun N0=>?_);refine lO0 rfl ⟨⟩ (w0a j1a.slT rfl (by assumption) rfl (by omega) (by omega) rfl ?_);refine lO0 rfl ⟨⟩ (w1a E1a rfl (B0.keep (S.keep0 M) O0) (by rfl) rfl ?_);refine lO0 rfl ⟨⟩ (g0a S A4b rfl rfl (O1b l[k] M _ _ (RdE.keep (S.keep0 M) _ _ G0) e1) ?_);intro A1 y0 r1;refine lO0 rfl ⟨⟩ (w0a j1a.slT rfl (by assumption) rfl (by omega) (by omega) rfl ?_);refine lO0 rfl ⟨⟩ (w1a E1a rfl (B0.keep (y0.keep0 M) O0) (by rfl) rfl ?_);refine lO0 rfl ⟨by omega,⟨⟩⟩ (g0a y0 w0c rfl rfl (A8c l[k] _ _ M _ _ (RdE.keep (y0.keep0 M) _ _ G0) e3) ?_);intro B1 U0 s1;exact lP0 rfl ⟨by omega,⟨⟩⟩ ⟨μ-1,by omega,rfl,k+1,by omega,U0,rfl,rfl,rfl,rfl,rfl,rfl⟩
 refine lO0 rfl ⟨⟩ ?_;refine x0a S V1b rfl rfl (n2c 1 1 (by unfold i64;omega) (by unfold i64;omega) [] _) ?_;rintro y1 C1 ⟨_,rfl,Q0⟩ V0 t1;obtain⟨_,_,_,rfl,-⟩:=Q0.open_;refine m0a V0 j8a rfl rfl ?_;intro g9 w9 S9 X9 G9;refine e0a (kk:=0) (vs:=[_,_,_,_]) S9 t6a rfl rfl rfl rfl rfl rfl rfl ?_;intro q0 a0 I0;dsimp only[k0a,List.set] at a0;refine lCn 8 a0.k [] rfl ⟨⟩ ?_;have i1:∀g∈g6::g9::M,g∈M∨w0.heap.size≤g:=by
  intro g hg;simp at hg;rcases hg with rfl|rfl|hg
  ·right;simpa using a0.new 1 rfl
  ·right;simpa using a0.new 0 rfl
  ·exact .inl hg
 have h1:=hL.more i1;obtain⟨-,-,-,-,F0⟩:=h1.at;have u1:∀g∈g6::g9::M,g<q0.heap.size:=by
  intro g hg;simp at hg;rcases hg with rfl|rfl|hg
  ·exact a0.lt 1 rfl
  ·exact a0.lt 0 rfl
  ·have:=hM g hg;have:=a0.size;omega
 obtain⟨wq,x1⟩:∃wq,wq=q0:=⟨_,rfl⟩;refine wC0 rfl ⟨⟩ (wL (fun μ D ε w=>D=[]∧∃k:Nat,∃co:List Value,∃r0:E,(k+μ=l.length)∧(r0=d7a (l.take k))∧(RdE (g6::g9::M) w r0 co)∧St [] w0 w [(some g9,68,co),(some g6,68,[.int .i64 0,.int .i64 0,.int .i64 0,.slice none 0 0])]∧ε 0=.slice A n c∧ε 1=.int .i64 5∧ε 2=.int .i64 1∧ε 6=.pointer (some ⟨g6,0,none⟩)∧ε 9=.pointer (some ⟨g9,0,none⟩)∧ε 10=.bool (decide (k=0))∧ε 11=.int .i64 ((E.cnts (l.take k)+(k-1):Nat):Int)∧ε 12=.int .i64 k) (μ:=l.length) ⟨rfl,0,_,⟨1,1,1,[]⟩,by omega,rfl,f6c Q0,a0,rfl,rfl,rfl,rfl,rfl,rfl,rfl,rfl⟩ ?_);rintro μ D ε w ⟨rfl,k,co,r0,hk,n0,ro,S,e0,e1,e2,e6,e9,J0,K0,L0⟩;refine r0a 0 e0 (r0a 1 e1 (r0a 2 e2 (r0a 6 e6 (r0a 9 e9 (r0a 10 J0 (r0a 11 K0 (r0a 12 L0 ?_)))))));clear e0 e1 e2 e6 e9 J0 K0 L0;obtain⟨_,_,_,rfl,-⟩:=ro.open_;have o1:E.cnts (l.take k)≤E.cnts l:=by
  have h2:=G8a (l.take k) (l.drop k);rw[List.take_append_drop] at h2;omega
 refine wB0 rfl ⟨⟩ (fun d1=>?_) fun d1=>?_
 ·refine lB0 rfl ⟨⟩ (fun f1=>?_) (fun f1=>by exfalso;omega);refine lO0 rfl ⟨⟩ ?_;have h0:k<l.length:=by omega
  obtain⟨b,o,hA,i0,E0⟩:=F0 (by omega);obtain⟨ck,j0,g0⟩:=E0 k h0;obtain⟨Ak,nk,qk,rfl,-⟩:=g0.open_;obtain⟨e1,e2,e3⟩:=P0 l[k] (List.getElem_mem h0);have j1:l[k].cnt≤600:=by obtain⟨c1,c2⟩:=F2b l k h0;omega
  refine w0a j1a.slT rfl (by assumption) rfl (by omega) (by omega) rfl ?_;refine w1a E1a rfl (j0.keep (S.keep0 (g6::g9::M)) i0) (by rfl) rfl ?_;refine lO0 rfl ⟨⟩ (g0a S w0c rfl rfl (A8c l[k] _ _ (g6::g9::M) _ _ (RdE.keep (S.keep0 _) _ _ g0) e3) ?_);intro D1 z0 X0;replace ro:=RdE.keep (X0.of_nil) _ _ ro;refine lO0 rfl ⟨⟩ (w0a j1a.slT rfl (by assumption) rfl (by omega) (by omega) rfl ?_);refine w1a E1a rfl (j0.keep (z0.keep0 (g6::g9::M)) i0) (by rfl) rfl ?_;refine g0a z0 W6b rfl rfl (p4c l[k] (g6::g9::M) _ _ (RdE.keep (z0.keep0 _) _ _ g0) j1) ?_;intro E1 s0 Y0;replace ro:=RdE.keep (Y0.of_nil) _ _ ro;refine lOn 6 s0.k [] rfl ⟨by omega,⟨⟩⟩ ?_;cases v0:decide (k=0)
  ·refine Z0a (v:=.bool _) rfl rfl ?_;refine lC0 rfl ⟨⟩ (v0a b0a [0,1,2,3,4,5] [] [6,7] (by kernel_rfl) rfl (Cl _ _ _ _) (Cl.start s0) ?_);refine qO s0.q [.w 0] rfl ⟨⟨rfl,by rfl⟩,⟨⟩⟩ (n0a j1a.slT rfl (by assumption) rfl (by omega) (by omega) rfl ?_);refine J1a E1a rfl (fun w1 hw=>j0.keep (hw.1.keep0 (g6::g9::M)) i0) (by rfl) rfl ?_;refine qD rfl ⟨⟩ ?_;rintro q1 ⟨f0,A0⟩;replace ro:=RdE.keep (A0.of_nil) _ _ ro;refine x0a f0 e9c rfl rfl (Z8c 5 1 (by unfold i64;omega) (by unfold i64;omega) r0 l[k] _ _ (g6::g9::M) _ (fun g hg=>by simp at hg;rcases hg with rfl|rfl|hg;exact f0.lt 1 rfl;exact f0.lt 0 rfl;have:=hM g hg;have:=f0.size;omega) ro (RdE.keep (f0.keep0 _) _ _ g0)) ?_;rintro z1 F1 ⟨_,rfl,x0⟩ W0 Z0;replace ro:=RdE.keep (Z0.of_nil) _ _ ro;obtain⟨_,_,_,rfl,-⟩:=x0.open_;refine e0a (kk:=0) (vs:=[_,_,_,_]) W0 t6a rfl rfl rfl rfl rfl rfl rfl ?_;intro S0 o0 p0;dsimp only[k0a,List.set] at o0;replace ro:=RdE.keep (p0.mono (by simp)) _ _ ro;replace x0:=RdE.keep (p0.mono (by simp)) _ _ x0;refine lP0 rfl ⟨by omega,by omega,⟨⟩⟩ ?_;have hs:=i0b l k h0;have ct:=F2b l k h0;have D0:¬k=0:=of_decide_eq_false v0;rw[if_neg D0] at hs;exact⟨μ-1,by omega,rfl,k+1,_,u1d r0 l[k],by omega,by rw[hs,n0],x0,o0,rfl,rfl,rfl,rfl,rfl,congrArg Value.bool (by simp),congrArg (Value.int .i64) (by omega),rfl⟩
  refine Z0a (v:=.bool _) rfl rfl ?_;refine lO0 rfl ⟨⟩ (w0a j1a.slT rfl (by assumption) rfl (by omega) (by omega) rfl ?_);refine w1a E1a rfl (j0.keep (s0.keep0 (g6::g9::M)) i0) (by rfl) rfl ?_;refine e0a (kk:=0) (vs:=[_,_,_,_]) s0 t6a rfl rfl rfl rfl rfl rfl rfl ?_;intro R0 b0 t0;dsimp only[k0a,List.set] at b0;replace ro:=RdE.keep (t0.mono (by simp)) _ _ ro;refine lP0 rfl ⟨by omega,⟨⟩⟩ ?_;have hs:=i0b l k h0;have ct:=F2b l k h0;have D0:k=0:=of_decide_eq_true v0;rw[if_pos D0] at hs;exact⟨μ-1,by omega,rfl,k+1,_,l[k],by omega,hs.symm,RdE.keep (b0.keep0 _) _ _ g0,b0,rfl,rfl,rfl,rfl,rfl,congrArg Value.bool (by simp),congrArg (Value.int .i64) (by omega),rfl⟩
 have p1:l.take k=l:=List.take_of_length_le (by omega);rw[p1] at n0;refine lB0 rfl ⟨⟩ (fun g1=>by exfalso;omega) fun g1=>?_;refine lO S.k [.w 0] rfl ⟨⟨rfl,by rfl⟩,⟨⟩⟩ ?_;refine g0a S A4b rfl rfl (O1b r0 (g6::g9::M) _ _ ro (by rw[n0];exact C0)) ?_;intro G1 H0 a1;replace ro:=RdE.keep (a1.of_nil) _ _ ro;refine lO H0.k [.w 0] rfl ⟨⟨rfl,by rfl⟩,⟨⟩⟩ (e0a (kk:=1) (vs:=[_,_,_,_]) H0 t6a rfl rfl rfl rfl rfl rfl rfl ?_);intro T0 d0 u0;dsimp only[k0a,List.set] at d0;replace ro:=RdE.keep (u0.mono (by simp)) _ _ ro;refine lR0 rfl ⟨⟩ (n1a rfl E1a rfl (d0.cells 1 rfl) rfl ⟨⟨_,rfl,?_⟩,d0.nil.fin⟩);rw[←n0];exact RdE.more (fun g hg=>.inl (by simp[hg])) _ _ ro
theorem f3c(l:List E)(M:List Nat)(w0:World)(vl:Value)(hL:RdL M w0 vl l)(hM:∀g∈M,g<w0.heap.size)(f0:∀e∈l,e.wf=true∧e.w=1∧e.op≠1)(g0:E.cnts l+l.length≤600)(d0:(d7a l).wf=true):
 M0a Tryz.prog 66 #[vl] w0 fun v w'=>(∃cs:List Value,v=.agg cs.toArray∧RdE M w' (d7a l) cs)∧Below w0.heap.size w0 w':=by
 obtain⟨_,_,_,rfl,-⟩:=hL.open_;have S:=St.refl w0;refine a0a Tryz.func66 rfl Tryz.ntmps66 rfl ?_;refine wO0 rfl ⟨⟩ (m0a S j8a rfl rfl ?_);intro g2 w2 S2 X2 G2;refine lO0 rfl ⟨⟩ ?_;have e0:∀g∈g2::M,g∈M∨w0.heap.size≤g:=by
  intro g hg;rcases List.mem_cons.1 hg with rfl|hg
  ·exact .inr G2
  ·exact .inl hg
 refine x0a S2 v9c rfl rfl (Q9b l (g2::M) _ _ ((hL.more e0).keep (S2.keep0 _)) (fun g hg=>by rcases List.mem_cons.1 hg with rfl|hg;exact S2.lt 0 rfl;have:=hM g hg;have:=S2.size;omega) f0 g0 d0) ?_;rintro v4 w4 ⟨_,rfl,r4⟩ S4 X4;obtain⟨_,_,_,rfl,-⟩:=r4.open_
 first|refine e0a (kk:=0) (vs:=[_,_,_,_]) S4 t6a rfl rfl rfl rfl rfl rfl rfl ?_
 intro h0 a0 b0;dsimp only[k0a,List.set] at a0;replace r4:=RdE.keep (b0.mono (by simp)) _ _ r4;exact lR0 rfl ⟨⟩ (n1a rfl E1a rfl (a0.cells 0 rfl) rfl ⟨⟨_,rfl,RdE.more (fun g hg=>.inl (by simp[hg])) _ _ r4⟩,a0.nil.fin⟩)
instance:DecidableEq K2a:=fun a b=>if h:a.conf=b.conf∧a.frm=b.frm∧a.ch=b.ch then isTrue (by cases a;cases b;simp_all) else isFalse (fun e=>h (by subst e;exact⟨rfl,rfl,rfl⟩))
def J3a:E:=⟨1,1,1,[]⟩
def R0c(n:Int):E:=⟨2,1,n,[]⟩
def i5b(n:Int):E:=⟨4,1,0,[R0c n]⟩
def Z3b(nm:ByteArray)(mine other loc:Int):X0a:=⟨nm,3,[J3a,J3a,J3a],[0,0,0],[⟨3,0,1,J3a,[⟨mine,J3a⟩],false,0,0⟩,⟨2,1,2,J3a,[⟨loc,R0c other⟩],false,0,0⟩],[],false⟩
def S1a:f0a :=
 ⟨[⟨⟨#[77,46,120]⟩,1,0,-1,false,0⟩,⟨⟨#[77,46,121]⟩,1,0,-1,false,0⟩,⟨⟨#[97,46,114]⟩,1,1,0,false,0⟩,⟨⟨#[98,46,115]⟩,1,1,1,false,0⟩],
  [⟨⟨#[77]⟩,⟨#[65,110,110]⟩,J3a,J3a,[0,1]⟩],[],[Z3b ⟨#[97]⟩ 0 1 2,Z3b ⟨#[98]⟩ 1 0 3]⟩
theorem r3a:d1a S1a:=p2c (by kernel_rfl)
def z8c:E:=d7a [i5b 2,i5b 3,R0c 0,R0c 1]
def d2b:e4a:=⟨1,2,z8c⟩
def m8b:e4a:=⟨-1,0,z8c⟩
def h0b(t:Int):e4a:=⟨t,0,J3a⟩
def i9a:List K2a:=[⟨⟨[0,0,1,1],[0,0],[[],[]]⟩,-1,⟨0,0,0⟩⟩,
⟨⟨[1,0,1,1],[1,0],[[],[]]⟩,0,⟨0,0,0⟩⟩,
⟨⟨[0,1,1,1],[0,1],[[],[]]⟩,0,⟨1,0,0⟩⟩,
⟨⟨[1,0,0,1],[2,0],[[],[]]⟩,1,⟨0,1,0⟩⟩,
⟨⟨[1,1,1,1],[1,1],[[],[]]⟩,1,⟨1,0,0⟩⟩,
⟨⟨[0,1,1,0],[0,2],[[],[]]⟩,2,⟨1,1,0⟩⟩,
⟨⟨[1,1,0,1],[2,1],[[],[]]⟩,3,⟨1,0,0⟩⟩,
⟨⟨[1,1,1,1],[2,1],[[],[]]⟩,4,⟨0,1,0⟩⟩,
⟨⟨[1,1,1,1],[1,2],[[],[]]⟩,4,⟨1,1,0⟩⟩,
⟨⟨[1,1,1,0],[1,2],[[],[]]⟩,5,⟨0,0,0⟩⟩,
⟨⟨[1,1,0,1],[2,2],[[],[]]⟩,6,⟨1,1,0⟩⟩,
⟨⟨[1,1,1,1],[2,2],[[],[]]⟩,7,⟨1,1,0⟩⟩,
⟨⟨[1,1,1,0],[2,2],[[],[]]⟩,9,⟨0,1,0⟩⟩]
def m9a:List K2a:=[⟨⟨[0,0,1,1],[0,0],[[],[]]⟩,-1,⟨0,0,0⟩⟩,
⟨⟨[0,0,1,1],[1,0],[[⟨[0],[1]⟩],[]]⟩,0,⟨0,0,0⟩⟩,
⟨⟨[0,0,1,1],[0,1],[[],[⟨[1],[1]⟩]]⟩,0,⟨1,0,0⟩⟩,
⟨⟨[0,0,0,1],[2,0],[[⟨[0],[1]⟩],[]]⟩,1,⟨0,1,0⟩⟩,
⟨⟨[1,0,1,1],[1,0],[[],[]]⟩,1,⟨0,-1,0⟩⟩,
⟨⟨[0,0,1,1],[1,1],[[⟨[0],[1]⟩],[⟨[1],[1]⟩]]⟩,1,⟨1,0,0⟩⟩,
⟨⟨[0,0,1,0],[0,2],[[],[⟨[1],[1]⟩]]⟩,2,⟨1,1,0⟩⟩,
⟨⟨[0,1,1,1],[0,1],[[],[]]⟩,2,⟨1,-1,1⟩⟩,
⟨⟨[1,0,0,1],[2,0],[[],[]]⟩,3,⟨0,-1,0⟩⟩,
⟨⟨[0,0,0,1],[2,1],[[⟨[0],[1]⟩],[⟨[1],[1]⟩]]⟩,3,⟨1,0,0⟩⟩,
⟨⟨[1,0,1,1],[1,1],[[],[⟨[1],[1]⟩]]⟩,4,⟨1,0,0⟩⟩,
⟨⟨[0,0,1,0],[1,2],[[⟨[0],[1]⟩],[⟨[1],[1]⟩]]⟩,5,⟨1,1,0⟩⟩,
⟨⟨[0,1,1,1],[1,1],[[⟨[0],[1]⟩],[]]⟩,5,⟨1,-1,1⟩⟩,
⟨⟨[0,1,1,0],[0,2],[[],[]]⟩,6,⟨1,-1,1⟩⟩,
⟨⟨[1,0,0,1],[2,1],[[],[⟨[1],[1]⟩]]⟩,8,⟨1,0,0⟩⟩,
⟨⟨[0,0,0,0],[2,2],[[⟨[0],[1]⟩],[⟨[1],[1]⟩]]⟩,9,⟨1,1,0⟩⟩,
⟨⟨[0,1,0,1],[2,1],[[⟨[0],[1]⟩],[]]⟩,9,⟨1,-1,1⟩⟩,
⟨⟨[1,0,1,1],[1,2],[[],[⟨[1],[1]⟩]]⟩,10,⟨1,1,0⟩⟩,
⟨⟨[1,1,1,1],[1,1],[[],[]]⟩,10,⟨1,-1,1⟩⟩,
⟨⟨[1,0,1,0],[1,2],[[],[⟨[1],[1]⟩]]⟩,11,⟨0,-1,0⟩⟩,
⟨⟨[0,1,1,0],[1,2],[[⟨[0],[1]⟩],[]]⟩,11,⟨1,-1,1⟩⟩,
⟨⟨[0,1,1,1],[2,1],[[⟨[0],[1]⟩],[]]⟩,12,⟨0,1,0⟩⟩,
⟨⟨[1,0,0,1],[2,2],[[],[⟨[1],[1]⟩]]⟩,14,⟨1,1,0⟩⟩,
⟨⟨[1,1,0,1],[2,1],[[],[]]⟩,14,⟨1,-1,1⟩⟩,
⟨⟨[1,0,0,0],[2,2],[[],[⟨[1],[1]⟩]]⟩,15,⟨0,-1,0⟩⟩,
⟨⟨[0,1,0,0],[2,2],[[⟨[0],[1]⟩],[]]⟩,15,⟨1,-1,1⟩⟩,
⟨⟨[1,1,1,1],[1,2],[[],[]]⟩,17,⟨1,-1,1⟩⟩,
⟨⟨[1,1,1,1],[2,1],[[],[]]⟩,18,⟨0,1,0⟩⟩,
⟨⟨[1,1,1,0],[1,2],[[],[]]⟩,19,⟨1,-1,1⟩⟩,
⟨⟨[0,1,1,0],[2,2],[[⟨[0],[1]⟩],[]]⟩,20,⟨0,1,0⟩⟩,
⟨⟨[1,1,0,1],[2,2],[[],[]]⟩,22,⟨1,-1,1⟩⟩,
⟨⟨[1,1,0,0],[2,2],[[],[]]⟩,24,⟨1,-1,1⟩⟩,
⟨⟨[1,1,1,1],[2,2],[[],[]]⟩,26,⟨0,1,0⟩⟩,
⟨⟨[1,1,1,0],[2,2],[[],[]]⟩,28,⟨0,1,0⟩⟩]
def z0d(p:f0a)(m:Int)(W:List K2a):Nat→Nat→Nat→Bool
 | 0,n,k=>decide (n=k)&&decide (k=W.length)
 | f+1,n,k=>match W[n]? with
   | some v=>decide (n<k)&&(decide (i1b p m n v.conf (W.take k) (G0a p m v.conf)=W.take (i1b p m n v.conf (W.take k) (G0a p m v.conf)).length)&&z0d p m W f (n+1) (i1b p m n v.conf (W.take k) (G0a p m v.conf)).length)
   | none=>false
theorem H5b{p:f0a}{m:Int}{W:List K2a}:∀(f n k:Nat),e3a p m n=W.take k→z0d p m W f n k=true→e3a p m (n+f)=W∧n+f=W.length
 | 0,n,k,hb,h=>by
   simp only[z0d,Bool.and_eq_true,decide_eq_true_eq] at h;obtain⟨rfl,rfl⟩:=h;exact⟨by rw[Nat.add_zero,hb,List.take_length],by omega⟩
 | f+1,n,k,hb,h=>by
   rw[z0d] at h;rcases hv:W[n]? with _|v
   ·rw[hv] at h;cases h
   ·rw[hv] at h;simp only[Bool.and_eq_true,decide_eq_true_eq] at h;obtain⟨h1,h2,h3⟩:=h;have hn:(e3a p m n)[n]?=some v:=by rw[hb,List.getElem?_take,if_pos h1,hv]
    obtain⟨q1,q2⟩:=H5b f (n+1) _ (by rw[Q4b hn,hb];exact h2) h3;rw[show n+(f+1)=n+1+f by omega];exact⟨q1,q2⟩
theorem P8a:e3a S1a 0 13=i9a:=(H5b 13 0 1 (by decide +kernel) (by kernel_rfl)).1
theorem r8a:e3a S1a 1 34=m9a:=(H5b 34 0 1 (by decide +kernel) (by kernel_rfl)).1
theorem K8a{p:f0a}{m:Int}{n a0:Nat}{W:List K2a}{l:List q0a}{b0:Int}(hW:e3a p m n=W)(hn:W.length≤n)(h:f7a p m a0 l b0):(W.length≤a0→b0=0∧l=n2a W)∧(a0<W.length→b0=2∧l=[]):=by
 subst hW;rcases h with⟨rfl,k,h1,h2,rfl⟩|⟨rfl,rfl,V,hV,hl⟩
 ·rw[Y0c h1 hn] at h2 ⊢;exact⟨fun _=>⟨rfl,rfl⟩,fun h=>by omega⟩
 ·have:=(hV.done hn).length_le;exact⟨fun h=>by omega,fun _=>⟨rfl,rfl⟩⟩
theorem K8b{p:f0a}{m:Int}{b0:Bool}{acc:q0a→Bool}{n a0:Nat}{W:List K2a}{v:List A0a}{h:Int}(hW:e3a p m n=W)(hn:W.length≤n)(hl:W.length≤a0)(ha:b0=true)(d0:∀y∈W,acc y.conf=false)(hf:x5c p m b0 acc a0 v h):h=4:=by
 subst hW;rcases hf with⟨h1,_⟩|⟨k,V,q1,q2,q3,q4,⟨y,q5,q6⟩,_⟩|⟨_,_,_,V,q1,q2,_⟩|⟨_,h1,_⟩
 ·rw[ha] at h1;cases h1
 ·have:=d0 y (List.mem_of_getElem? (q7a (q1.done hn) q5));rw[q6] at this;cases this
 ·have:=(q1.done hn).length_le;omega
 ·exact h1
theorem R1b{p:f0a}{m:Int}{g0:Bool}{acc:q0a→Bool}{n a0 k:Nat}{W:List K2a}{v:List A0a}{h:Int}{y:K2a}(hW:e3a p m n=W)(hk:k<a0)(ha:g0=true)(j0:(W.take k).all (fun y=>!acc y.conf)=true)(hy:W[k]?=some y)(b0:acc y.conf=true)(hf:x5c p m g0 acc a0 v h):
 (W4a (W.take (k+1)) (k+1) k).length≤120→h=0∧v=(W4a (W.take (k+1)) (k+1) k).reverse:=by
 have hV:X3a p m W:=⟨n,by rw[hW];exact List.prefix_refl _⟩;have n0:=(List.getElem?_eq_some_iff.1 hy).1;have f0:∀j x,j<k→W[j]?=some x→acc x.conf=false:=fun j x hj hx=>by
  have:=List.all_eq_true.1 j0 x (List.mem_of_getElem? (by rw[List.getElem?_take,if_pos hj];exact hx));simpa using this
 intro hp;rcases hf with⟨h1,_⟩|⟨k',V,q1,q2,q3,q4,⟨x,q5,q6⟩,_,q7⟩|⟨_,_,_,V,q1,q2,q3⟩|⟨_,_,_,j,q1,q2,q3⟩
 ·rw[ha] at h1;cases h1
 ·have i0:k'=k:=by
   rcases Nat.lt_trichotomy k' k with e0|he|e0
   ·have h1:=f0 k' x e0 (q7a (q1.cmp hV (by omega)) q5);rw[q6] at h1;cases h1
   ·exact he
   ·have d0:V.length≤W.length∨W.length≤V.length:=by omega
    have h1:V[k]?=some y:=by
     rcases d0 with h|h
     ·obtain⟨t,rfl⟩:=q1.cmp hV h
      rwa [List.getElem?_append_left (by omega)] at hy
     ·exact q7a (hV.cmp q1 h) hy
    have h2:=q4 k y e0 h1;rw[b0] at h2;cases h2
  subst i0;have h0:V=W.take (k'+1):=by
   have:=q1.cmp hV (by omega);rw[List.prefix_iff_eq_take.1 this,q2]
  subst h0;rcases q7 with⟨q8,_⟩|⟨_,h1,h2⟩
  ·omega
  ·exact⟨h1,h2⟩
 ·have d0:V.length≤W.length∨W.length≤V.length:=by omega
  have h1:V[k]?=some y:=by
   rcases d0 with h|h
   ·obtain⟨t,rfl⟩:=q1.cmp hV h
    rwa [List.getElem?_append_left (by omega)] at hy
   ·exact q7a (hV.cmp q1 h) hy
  have h2:=q3 k y hk h1;rw[b0] at h2;cases h2
 ·have h2:=q3 y (List.mem_of_getElem? (q7a (hV.done q1) hy));rw[b0] at h2;cases h2
theorem Q3c:i9a.all (fun y=>!Q2a y.conf d2b)=true:=by kernel_rfl
theorem f4c:(m9a.take 31).all (fun y=>!Q2a y.conf m8b)=true:=by kernel_rfl
theorem o2c:Q2a ⟨[1,1,0,0],[2,2],[[],[]]⟩ m8b=true:=by kernel_rfl
theorem Z6b:(W4a (m9a.take 32) 32 31).length=6:=by kernel_rfl
theorem X6b:(W4a (i9a.take 1) 1 0).length=0:=by kernel_rfl
theorem T2c:Q2a (T0a S1a) (h0b (-1))=true:=by kernel_rfl
theorem T6c:I5a S1a d2b=true:=by kernel_rfl
theorem t5c:I5a S1a m8b=true:=by kernel_rfl
theorem w7c:I5a S1a (h0b (-1))=true:=by kernel_rfl
theorem u5c:I5a S1a (h0b 2)=false:=by kernel_rfl
theorem i4c:(I5a S1a (h0b 1)&&Q2a (T0a S1a) (h0b 1))=true:=by kernel_rfl
theorem x2c:(I5a S1a d2b&&Q2a (T0a S1a) d2b)=false:=by kernel_rfl
def m0d(p:f0a)(m:Int)(c:q0a):List A0a→List q0a
 | []=>[]
 | x::l=>if x∈G0a p m c then doC p m c x::m0d p m (doC p m c x) l else[]
def w0d(p:f0a)(m:Int)(run:List A0a):List q0a:=T0a p::m0d p m (T0a p) run
structure F4c (p:f0a) (m:Int) (run:List A0a) (l:Nat) (Bs0 M0:List Nat) (w0:World) (J:Nat→Nat→List Nat→World→Prop) (Q:World→Prop):Prop where
 start:∀g5 w,w0.heap.size≤g5→Below w0.heap.size w0 w→J g5 0 Bs0 w
 own:∀g5 k Bs w w',w0.heap.size≤g5→g5∉Bs→J g5 k Bs w→F0a [g5] w w'→J g5 k Bs w'
 lt:∀g5 k Bs w,J g5 k Bs w→∀g∈Bs,g<w.heap.size
 each:∀g5 k Bs w c ys (err:Int),w0.heap.size≤g5→g5<w.heap.size→g5∉Bs→J g5 k Bs w→y0a Bs0 w0 w→((err=0∧(w0d p m run)[k]?=some c)∨(err=110∧k=(w0d p m run).length∧(w0d p m run).length≤run.length∧c=⟨[],[],[]⟩))→t0a (g5::(Bs++M0)) w c ys →
  Yld Tryz.prog l #[.agg ys.toArray,.int .i64 err] w fun v w'=>(err=0∧v=.bool true∧∃Bs',J g5 (k+1) Bs' w'∧y0a Bs w w'∧∀g∈Bs',g∈Bs∨w.heap.size≤g)∨(err=110∧v=.bool false∧Q w')
section
variable {p:f0a} {m:Int} {run:List A0a} {l:Nat} {Bs0 M0:List Nat} {w0:World} {J:Nat→Nat→List Nat→World→Prop} {Q:World→Prop}
theorem F4c.round(h:F4c p m run l Bs0 M0 w0 J Q):∀g5 k Bs w c ys,w0.heap.size≤g5→g5<w.heap.size→g5∉Bs→J g5 k Bs w→y0a Bs0 w0 w→(w0d p m run)[k]?=some c→t0a (g5::(Bs++M0)) w c ys→Yld Tryz.prog l #[.agg ys.toArray,.int .i64 0] w fun v w'=>v=.bool true∧∃a0,J g5 (k+1) a0 w'∧y0a Bs w w'∧∀g∈a0,g∈Bs∨w.heap.size≤g :=
 fun g5 k Bs w c ys h1 h2 h3 h4 h5 h6 h7=>(h.each g5 k Bs w c ys 0 h1 h2 h3 h4 h5 (.inl ⟨rfl,h6⟩) h7).mono fun v w' hh=>by
  rcases hh with⟨_,hh⟩|⟨hh,_⟩
  ·exact hh
  ·omega
end
theorem t0a.grow{c:q0a}{ys:List Value}{g5:Nat}{Bs a0 M0:List Nat}{w w':World}(h:t0a (g5::(Bs++M0)) w c ys)(hk:y0a Bs w w')(hb:∀g∈a0,g∈Bs∨w.heap.size≤g):t0a (g5::(a0++M0)) w' c ys:=by
 have h1:t0a (Bs++(g5::(a0++M0))) w c ys:=h.more fun g hg=>by
  simp only[List.mem_append,List.mem_cons] at hg ⊢;rcases hg with hg|rfl|hg|hg
  ·exact .inl (.inr (.inl hg))
  ·exact .inl (.inl rfl)
  ·rcases hb g hg with h|h
   ·exact .inl (.inr (.inl h))
   ·exact .inr h
  ·exact .inl (.inr (.inr hg))
 exact(h1.keep (hk.mono fun g hg=>List.mem_append_left _ hg)).less fun g hg=>List.mem_append_right _ hg
theorem St.other{M:List Nat}{w0 w w':World}{L:List Ent}(S:St M w0 w L){g:Nat}(hb:F0a [g] w w')(hg:w0.heap.size≤g)(hn:g∉V5a L):St M w0 w' L:=by
 refine⟨⟨hb.os.trans S.below.os,hb.tape.trans S.below.tape,hb.output.trans S.below.output,Nat.le_trans S.below.size hb.size,fun k hk hm=>?_⟩,fun b hm x hx=>?_,S.apart⟩
 ·rw[hb.block k (Nat.lt_of_lt_of_le hk S.below.size) (by rw[List.mem_singleton];omega)];exact S.below.block k hk hm
 ·obtain⟨h1,h2⟩:=S.own b hm x hx;refine⟨h1,?_⟩;have a0:=h2.lt;unfold p0a at *;rw[hb.block x a0 (by rw[List.mem_singleton];rintro rfl;exact hn (r2a.2 ⟨b,hm,hx⟩))];exact h2
section
variable {P:Program} {r:Option Nat} {N:Nat} {D:List Deferred} {e:Env} {w:World} {ops:Array Oper} {rest:List Oper} {K:List Deferred→Env→World→Prop}
variable {d:Nat} {t:TypeId} {p:String} {af:Array Edge} {x y:Operand} {xt yt:TypeId} {kd:IntKind} {a b:Int} {C:World→Prop} {Kq:Env→Prop}
theorem G2c(w:World)(h0:0≤a)(h1:0<b):(Op.intDiv .rem kd a b).run P w=.ok (.int kd (a % b)) w:=by
 have hb:b≠0:=by omega
 have ht:a.tmod b=a % b:=Int.tmod_eq_emod_of_nonneg h0;simp[Op.intDiv,hb,ht]
theorem R0d(hx:ev e x=.int kd a)(hy:ev e y=.int kd b)(h0:0≤a)(h1:0<b)(hd:Nat.ble (d+1) N=true)(h:WL P r N ops rest K D (upd e d (.int kd (a % b))) w):
 WL P r N ops (⟨some d,.binOp .rem xt x y yt,t,p,af,none⟩::rest) K D e w :=
 k1a rfl rfl hd (by simp) (by simp[execOp,hx,hy,eqGuard,binOp,G2c w h0 h1]) h
end
section
variable {α:Type} {M:List Nat} {w:World} {size:Nat} {R:List Value→α→Prop} {g:Nat}
theorem X1b{css:List (List Value)}{l:List α}{n:Nat}(hg:g∉M)(hc:t1a w g 0 css.flatten)(hn:n=l.length)(hl:css.length=l.length)(a0:l.length≤1000000)(h4:∀x∈css,x.length=size)(hR:∀(i:Nat) (x:α),l[i]?=some x→∃c,css[i]?=some c∧R c x):RdS M w size R (.slice (some ⟨g,0,none⟩) n n) l:=by
 subst hn;refine⟨_,_,_,rfl,rfl,Nat.le_refl _,by unfold maxLen;omega,by omega,fun _=>⟨g,0,rfl,hg,fun i x hi=>?_⟩⟩;obtain⟨c,h5,h6⟩:=hR i x hi;exact⟨c,h4 c (List.mem_of_getElem? h5),fun j u hj=>by simpa using hc _ u (z0c css i c h4 h5 j u hj),h6⟩
theorem Q6c{c:List Value}{x:α}(hg:g∉M)(hc:t1a w g 0 c)(h4:c.length=size)(hr:R c x):RdS M w size R (.slice (some ⟨g,0,none⟩) 1 1) [x] :=
 X1b (css:=[c]) hg (by simpa using hc) rfl rfl (by simp) (by simpa using h4) (fun i y hi=>by
  match i,hi with
  | 0,hi=>cases hi;exact⟨c,rfl,hr⟩)
theorem o9c{c c2:List Value}{x x2:α}(hg:g∉M)(hc:t1a w g 0 (c++c2))(h4:c.length=size)(h5:c2.length=size)(hr:R c x)(a0:R c2 x2):RdS M w size R (.slice (some ⟨g,0,none⟩) 2 2) [x,x2] :=
 X1b (css:=[c,c2]) hg (by simpa using hc) rfl rfl (by simp) (by simpa using⟨h4,h5⟩) (fun i y hi=>by
  match i,hi with
  | 0,hi=>cases hi;exact⟨c,rfl,hr⟩
  | 1,hi=>cases hi;exact⟨c2,rfl,a0⟩)
theorem I0d{c c2 c3:List Value}{x x2 x3:α}(hg:g∉M)(hc:t1a w g 0 (c++(c2++c3)))(h4:c.length=size)(h5:c2.length=size)(h6:c3.length=size)(hr:R c x)(a0:R c2 x2)(b0:R c3 x3):RdS M w size R (.slice (some ⟨g,0,none⟩) 3 3) [x,x2,x3] :=
 X1b (css:=[c,c2,c3]) hg (by simpa using hc) rfl rfl (by simp) (by simpa using⟨h4,h5,h6⟩) (fun i y hi=>by
  match i,hi with
  | 0,hi=>cases hi;exact⟨c,rfl,hr⟩
  | 1,hi=>cases hi;exact⟨c2,rfl,a0⟩
  | 2,hi=>cases hi;exact⟨c3,rfl,b0⟩)
end
theorem y4a{P:Program}{f:FuncId}{args:Array Value}{w:World}{b:Bool}(h:M0a P f args w fun v w'=>v=.bool b∧Below w.heap.size w w')(hb:b=true):M0a P f args w fun v w'=>v=.bool true∧Below w.heap.size w w':=by
 subst hb;exact h
theorem j8b{P:Program}{f:FuncId}{args:Array Value}{w:World}{b:Bool}(h:M0a P f args w fun v w'=>v=.bool b∧Below w.heap.size w w')(hb:b=false):M0a P f args w fun v w'=>v=.bool false∧Below w.heap.size w w':=by
 subst hb;exact h
def u4c:Value→Prop:=fun u=>∃a0 a1 a2 a3 a4 a5 a6,u=.agg #[a0,a1,a2,a3,a4,a5,a6]
def thQ(M:List Nat)(t:X0a):Value→World→Prop:=fun u w=>∃cs:List Value,u=.agg cs.toArray∧N0a M w cs t
theorem T1b:∃u,u4c u:=⟨_,undef,undef,undef,undef,undef,undef,undef,rfl⟩
theorem E6b(M:List Nat)(t:X0a):∀u w w',y0a [] w w'→thQ M t u w→thQ M t u w':=fun _ _ _ k ⟨cs,h,hr⟩=>⟨cs,h,N0a.keep k.of_nil _ _ hr⟩
theorem c9b{M:List Nat}{t:X0a}{u:Value}{w:World}(h:thQ M t u w):u4c u:=by
 obtain⟨_,rfl,hr⟩:=h;obtain⟨_,_,_,_,rfl,-⟩:=hr;exact⟨_,_,_,_,_,_,_,rfl⟩
theorem P0d{M:List Nat}{w:World}{a b c d:E}{ca cb cc cd:List Value}{g:Nat}(hg:g∉M)(hc:t1a w g 0 (ca++(cb++(cc++cd))))(ha:RdE M w a ca)(hb:RdE M w b cb)(a0:RdE M w c cc)(hd:RdE M w d cd):RdL M w (.slice (some ⟨g,0,none⟩) 4 4) [a,b,c,d]:=by
 have la:=ha.length;have lb:=hb.length;have lc:=a0.length;refine RdL.made rfl (by omega) (by unfold maxLen;omega) (by omega) (fun _=>⟨g,0,rfl,hg,fun i hi=>?_⟩);have b0:i<4:=hi;rcases(show i=0∨i=1∨i=2∨i=3 by omega) with rfl|rfl|rfl|rfl
 ·refine⟨ca,fun j v hj=>?_,ha⟩;have hl:j<ca.length:=(List.getElem?_eq_some_iff.1 hj).1;have:=hc j v (by rw[List.getElem?_append_left hl];exact hj);simpa using this
 ·refine⟨cb,fun j v hj=>?_,hb⟩;have hl:j<cb.length:=(List.getElem?_eq_some_iff.1 hj).1;have:=hc (4+j) v (by rw[List.getElem?_append_right (by omega),List.getElem?_append_left (by omega),la];simpa using hj);simpa using this
 ·refine⟨cc,fun j v hj=>?_,a0⟩;have hl:j<cc.length:=(List.getElem?_eq_some_iff.1 hj).1;have:=hc (8+j) v (by rw[List.getElem?_append_right (by omega),List.getElem?_append_right (by omega),List.getElem?_append_left (by omega),la,lb,show 8+j-4-4=j by omega];exact hj);simpa using this
 ·refine⟨cd,fun j v hj=>?_,hd⟩;have:=hc (12+j) v (by rw[List.getElem?_append_right (by omega),List.getElem?_append_right (by omega),List.getElem?_append_right (by omega),la,lb,lc,show 12+j-4-4-4=j by omega];exact hj);simpa using this
theorem L0d{α:Type}{M:List Nat}{w:World}{size:Nat}{R:List Value→α→Prop}{g:Nat}{c c2 c3 c4:List Value}{x x2 x3 x4:α}(hg:g∉M)(hc:t1a w g 0 (c++(c2++(c3++c4))))(h4:c.length=size)(h5:c2.length=size)(h6:c3.length=size)(h7:c4.length=size)(hr:R c x)(a0:R c2 x2)(b0:R c3 x3)(d0:R c4 x4):RdS M w size R (.slice (some ⟨g,0,none⟩) 4 4) [x,x2,x3,x4] :=
 X1b (css:=[c,c2,c3,c4]) hg (by simpa using hc) rfl rfl (by simp) (by simpa using⟨h4,h5,h6,h7⟩) (fun i y hi=>by
  match i,hi with
  | 0,hi=>cases hi;exact⟨c,rfl,hr⟩
  | 1,hi=>cases hi;exact⟨c2,rfl,a0⟩
  | 2,hi=>cases hi;exact⟨c3,rfl,b0⟩
  | 3,hi=>cases hi;exact⟨c4,rfl,d0⟩)
theorem x4b(nm:ByteArray)(f0 a0 j0:Int)(h1:i64 f0)(h2:i64 a0)(h3:i64 j0)(g:Nat)(M:List Nat)(w0:World)(hM:∀x∈M,x<w0.heap.size)(hc:t1a w0 g 0 [.int .i64 1,.int .i64 1,.int .i64 1,.slice none 0 0]):
 M0a Tryz.prog 59 #[.string nm,.int .i64 f0,.int .i64 a0,.int .i64 j0,.pointer (some ⟨g,0,none⟩)] w0 fun v w'=>(∃cs:List Value,v=.agg cs.toArray∧N0a M w' cs (Z3b nm f0 a0 j0))∧Below w0.heap.size w0 w':=by
 have S:=St.refl w0;have i0:i64 0:=by unfold i64;omega
 have i1:i64 1:=by unfold i64;omega
 have i2:i64 2:=by unfold i64;omega
 have i3:i64 3:=by unfold i64;omega
 refine a0a Tryz.func59 rfl Tryz.ntmps59 rfl ?_;refine wO0 rfl ⟨⟩ (m0a S F4b rfl rfl ?_);intro g9 w9 S9 X9 G9;refine lC0 rfl ⟨⟩ (g6b b0a [0,1,2,3,4,5,6,7,8,9,10,11,12,13,14,15,16,17,18,19,20] 21 (by kernel_rfl) (by kernel_rfl) (Cl _ _ _ _) (Cl.start S9) (fun i=>if i=15 then some (60,#[.int .i64 a0,.int .i64 1],eqQ (.agg #[.int .i64 2,.int .i64 1,.int .i64 a0,.slice none 0 0]),noQ) else none) ?_ _ rfl ?_)
 ·intro i f a Qp Qw hi;by_cases h0:i=15
  ·subst h0;cases hi;exact⟨⟨_,rfl⟩,fun _ _ _ _ _=>trivial,fun w hC=>(y7b _ _ _).mono fun u w' hr=>⟨⟨hr.1,trivial⟩,hC.later hr.2⟩⟩
  ·simp only[h0,if_false] at hi;cases hi
 refine M5a rfl rfl ?_;refine h1a (by conv=>lhs;whnf) rfl ?_;refine d0a ?_;refine M5a rfl rfl ?_;refine J1a E1a rfl (fun w1 hw=>hc.keep (hw.1.keep0 []) (by simp)) (by rfl) rfl ?_;refine d0a ?_;refine M5a rfl rfl ?_;refine J1a E1a rfl (fun w1 hw=>hc.keep (hw.1.keep0 []) (by simp)) (by rfl) rfl ?_;refine d0a ?_;refine M5a rfl rfl ?_;refine J1a E1a rfl (fun w1 hw=>hc.keep (hw.1.keep0 []) (by simp)) (by rfl) rfl ?_;refine d0a ?_;refine n4a rfl rfl rfl j1a (vs:=[.agg _,.agg _,.agg _]) (cs:=[_,_,_,_,_,_,_,_,_,_,_,_]) (by rfl) rfl rfl rfl rfl rfl ?_;intro G0 A0 t0;refine n4a rfl rfl rfl O0a (vs:=[.int .i64 _,.int .i64 _,.int .i64 _]) (cs:=[_,_,_]) (by rfl) rfl rfl rfl rfl rfl ?_;intro H0 B0 u0;refine M5a rfl rfl ?_;refine J1a E1a rfl (fun w1 hw=>hc.keep (hw.1.keep0 []) (by simp)) (by rfl) rfl ?_;refine d0a ?_;refine M5a rfl rfl ?_;refine h1a (v:=.int .i64 _) rfl rfl ?_;refine d0a ?_;refine M5a rfl rfl ?_;refine J1a E1a rfl (fun w1 hw=>hc.keep (hw.1.keep0 []) (by simp)) (by rfl) rfl ?_;refine d0a ?_;refine M5a rfl rfl ?_;refine t2a I1c (vs:=[(0,.int .i64 _),(1,.agg _)]) (cs:=[_,_,_,_,_]) rfl rfl rfl rfl ?_;refine d0a ?_;refine n4a rfl rfl rfl n9a (vs:=[.agg _]) (cs:=[_,_,_,_,_]) (by rfl) rfl rfl rfl rfl rfl ?_;intro I0 C0 v0;refine M5a rfl rfl ?_;refine t2a y4c (vs:=[(0,.int .i64 _),(1,.int .i64 _),(2,.int .i64 _),(3,.agg _),(4,.slice _ _ _)]) (cs:=[_,_,_,_,_,_,_,_,_,_,_]) rfl rfl rfl rfl ?_;refine d0a ?_;refine M5a rfl rfl ?_;refine J1a E1a rfl (fun w1 hw=>hc.keep (hw.1.keep0 []) (by simp)) (by rfl) rfl ?_;refine d0a ?_;refine M5a rfl rfl ?_;refine h1a (v:=.int .i64 _) rfl rfl ?_;refine d0a ?_;refine M5a rfl rfl ?_;refine h1a (v:=.int .i64 _) rfl rfl ?_;refine d0a ?_;refine b8c V6b rfl rfl rfl rfl rfl ?_;refine M5a rfl rfl ?_;refine t2a I1c (vs:=[(0,.int .i64 _),(1,.agg _)]) (cs:=[_,_,_,_,_]) rfl rfl rfl rfl ?_;refine d0a ?_;refine n4a rfl rfl rfl n9a (vs:=[.agg _]) (cs:=[_,_,_,_,_]) (by rfl) rfl rfl rfl rfl rfl ?_;intro J0 D0 x0;refine M5a rfl rfl ?_;refine t2a y4c (vs:=[(0,.int .i64 _),(1,.int .i64 _),(2,.int .i64 _),(3,.agg _),(4,.slice _ _ _)]) (cs:=[_,_,_,_,_,_,_,_,_,_,_]) rfl rfl rfl rfl ?_;refine d0a ?_;refine n4a rfl rfl rfl S4c (vs:=[.agg _,.agg _]) (cs:=[_,_,_,_,_,_,_,_,_,_,_,_,_,_,_,_,_,_,_,_,_,_]) (by rfl) rfl rfl rfl rfl rfl ?_;intro K0 E0 y0;refine M5a rfl rfl ?_;refine t2a K8c (vs:=[(0,.string _),(1,.int .i64 _),(2,.slice _ _ _),(3,.slice _ _ _),(4,.slice _ _ _)]) (cs:=[_,_,_,_,_,_,_]) rfl rfl rfl rfl ?_;refine d0a ?_;refine x7b ?_;rintro L0 ⟨e0,_⟩ ⟨⟨⟨⟨⟨-,o0⟩,p0⟩,q0⟩,r0⟩,s0⟩;clear t0;replace e0:=e0.push_new S9 o0 A0;replace e0:=e0.push_more (L1:=[_]) S9 p0 B0 (by simpa[eq_comm] using u0);replace e0:=e0.push_more (L1:=[_,_]) S9 q0 C0 (by simpa[eq_comm] using v0);replace e0:=e0.push_more (L1:=[_,_,_]) S9 r0 D0 (by simpa[eq_comm] using x0);replace e0:=e0.push_more (L1:=[_,_,_,_]) S9 s0 E0 (by simpa[eq_comm] using y0);refine e0a (kk:=5) (vs:=[_,_,_,_,_,_,_]) e0 O3b rfl rfl rfl rfl rfl rfl rfl ?_;intro b0 g0 z0;dsimp only[k0a,List.set] at g0;refine L0a ⟨rfl,?_⟩;refine fR0 rfl ⟨⟩ ?_;have SF:=g0;have d0:RdE M b0 J3a [.int .i64 1,.int .i64 1,.int .i64 1,.slice none 0 0]:=A3a i1 i1 i1;have n0:RdE M b0 (R0c a0) [.int .i64 2,.int .i64 1,.int .i64 a0,.slice none 0 0]:=A3a i2 i1 h2;have s1:k5c M b0 (.slice (some ⟨I0,0,none⟩) 1 1) [⟨f0,J3a⟩]:=Q6c (Q0a hM (SF.new 2 rfl)) (SF.cells 2 rfl) rfl ⟨_,rfl,h1,d0⟩;have s2:k5c M b0 (.slice (some ⟨J0,0,none⟩) 1 1) [⟨j0,R0c a0⟩]:=Q6c (Q0a hM (SF.new 1 rfl)) (SF.cells 1 rfl) rfl ⟨_,rfl,h3,n0⟩;have F0:V9c M b0 (.slice (some ⟨G0,0,none⟩) 3 3) [J3a,J3a,J3a]:=I0d (c:=[_,_,_,_]) (c2:=[_,_,_,_]) (c3:=[_,_,_,_]) (Q0a hM (SF.new 4 rfl)) (SF.cells 4 rfl) rfl rfl rfl d0 d0 d0;have m1:RdI M b0 (.slice (some ⟨H0,0,none⟩) 3 3) [0,0,0]:=a5a SF (k:=3) rfl (Q0a hM (SF.new 3 rfl)) rfl (by omega) (by simp[i0]);have st:E0d M b0 (.slice (some ⟨K0,0,none⟩) 2 2) [⟨3,0,1,J3a,[⟨f0,J3a⟩],false,0,0⟩,⟨2,1,2,J3a,[⟨j0,R0c a0⟩],false,0,0⟩]:=o9c (c:=[_,_,_,_,_,_,_,_,_,_,_]) (c2:=[_,_,_,_,_,_,_,_,_,_,_]) (Q0a hM (SF.new 0 rfl)) (SF.cells 0 rfl) rfl rfl ⟨_,_,_,_,_,rfl,i3,i0,i1,i0,i0,d0,s1⟩ ⟨_,_,_,_,_,rfl,i2,i1,i2,i0,i0,d0,s2⟩;exact n1a rfl v9b rfl (SF.cells 5 rfl) rfl ⟨⟨_,rfl,_,_,_,_,rfl,i3,F0,m1,st,V4a⟩,SF.fin⟩
theorem J2c(w0:World):
 M0a Tryz.prog 27 #[] w0 fun v w'=>(∃cs:List Value,v=.agg cs.toArray∧q1a [] w' S1a cs)∧Below w0.heap.size w0 w':=by
 have S:=St.refl w0;have i0:i64 0:=by unfold i64;omega
 have i1:i64 1:=by unfold i64;omega
 have i2:i64 2:=by unfold i64;omega
 have i3:i64 3:=by unfold i64;omega
 have im:i64 (-1):=by unfold i64;omega
 refine a0a Tryz.func27 rfl Tryz.ntmps27 rfl ?_;refine wO0 rfl ⟨⟩ (m0a S n8c rfl rfl ?_);intro g0 w0 S0 X0 G0;refine lO0 rfl ⟨⟩ (g0a S0 V1b rfl rfl (p0b _ _ _) ?_);intro w3 S3 X3;refine m0a S3 j8a rfl rfl ?_;intro g1 w1 S1 X1 G1;refine e0a (kk:=0) (vs:=[_,_,_,_]) S1 t6a rfl rfl rfl rfl rfl rfl rfl ?_;intro N0 d0 F0;dsimp only[k0a,List.set] at d0;refine lO0 rfl ⟨⟩ (N1a rfl rfl ?_);refine lC0 rfl ⟨⟩ (g6b b0a [0,1,2,3,4,5,6,7,8,9,10,11,12,13,14,15] 16 (by kernel_rfl) (by kernel_rfl) (Cl _ _ _ _) (Cl.start d0) (fun i=>if i=11 then some (59,#[.string ⟨#[97]⟩,.int .i64 0,.int .i64 1,.int .i64 2,.pointer (some ⟨g1,0,none⟩)],u4c,thQ [g0] (Z3b ⟨#[97]⟩ 0 1 2)) else if i=13 then some (59,#[.string ⟨#[98]⟩,.int .i64 1,.int .i64 0,.int .i64 3,.pointer (some ⟨g1,0,none⟩)],u4c,thQ [g0] (Z3b ⟨#[98]⟩ 1 0 3)) else none) ?_ _ rfl ?_)
 ·intro i f a Qp Qw hi;by_cases p0:i=11
  ·subst p0;cases hi;exact⟨T1b,E6b _ _,fun w hC=>(x4b ⟨#[97]⟩ 0 1 2 i0 i1 i2 g1 [g0] w (fun g hg=>by rw[List.mem_singleton] at hg;subst hg;exact hC.1.lt 1 rfl) (hC.1.cells 0 rfl)).mono (fun u w' hr=>⟨⟨c9b hr.1,hr.1⟩,hC.later hr.2⟩)⟩
  by_cases q0:i=13
  ·subst q0;cases hi;exact⟨T1b,E6b _ _,fun w hC=>(x4b ⟨#[98]⟩ 1 0 3 i1 i0 i3 g1 [g0] w (fun g hg=>by rw[List.mem_singleton] at hg;subst hg;exact hC.1.lt 1 rfl) (hC.1.cells 0 rfl)).mono (fun u w' hr=>⟨⟨c9b hr.1,hr.1⟩,hC.later hr.2⟩)⟩
  ·simp only[p0,q0,if_false] at hi;cases hi
 refine M5a rfl rfl ?_;refine t2a g2b (vs:=[(0,.string _),(1,.int .i64 _),(3,.int .i64 _)]) (cs:=[_,_,_,_,_,_]) rfl rfl rfl rfl ?_;refine d0a ?_;refine M5a rfl rfl ?_;refine t2a g2b (vs:=[(0,.string _),(1,.int .i64 _),(3,.int .i64 _)]) (cs:=[_,_,_,_,_,_]) rfl rfl rfl rfl ?_;refine d0a ?_;refine M5a rfl rfl ?_;refine t2a g2b (vs:=[(0,.string _),(1,.int .i64 _),(2,.int .i64 _)]) (cs:=[_,_,_,_,_,_]) rfl rfl rfl rfl ?_;refine d0a ?_;refine M5a rfl rfl ?_;refine t2a g2b (vs:=[(0,.string _),(1,.int .i64 _),(2,.int .i64 _),(3,.int .i64 _)]) (cs:=[_,_,_,_,_,_]) rfl rfl rfl rfl ?_;refine d0a ?_;refine n4a rfl rfl rfl U5a (vs:=[.agg _,.agg _,.agg _,.agg _]) (cs:=[_,_,_,_,_,_,_,_,_,_,_,_,_,_,_,_,_,_,_,_,_,_,_,_]) (by rfl) rfl rfl rfl rfl rfl ?_;intro g9 G9 L0;refine M5a rfl rfl ?_;refine J1a E1a rfl (fun w1 hw=>hw.1.cells 0 rfl) rfl rfl ?_;refine d0a ?_;refine M5a rfl rfl ?_;refine J1a E1a rfl (fun w1 hw=>hw.1.cells 0 rfl) rfl rfl ?_;refine d0a ?_;refine n4a rfl rfl rfl O0a (vs:=[.int .i64 _,.int .i64 _]) (cs:=[_,_]) (by rfl) rfl rfl rfl rfl rfl ?_;intro H0 C0 y0;refine M5a rfl rfl ?_;refine t2a H6c (vs:=[(0,.string _),(1,.string _),(2,.agg _),(3,.agg _),(4,.slice _ _ _)]) (cs:=[_,_,_,_,_,_,_,_,_,_,_]) rfl rfl rfl rfl ?_;refine d0a ?_;refine n4a rfl rfl rfl z4c (vs:=[.agg _]) (cs:=[_,_,_,_,_,_,_,_,_,_,_]) (by rfl) rfl rfl rfl rfl rfl ?_;intro O0 D0 z0;refine M5a rfl rfl ?_;refine h1a (by conv=>lhs;whnf) rfl ?_;refine d0a ?_;refine u2b (caps:=#[.pointer (some ⟨g1,0,none⟩)]) K4c rfl rfl rfl rfl rfl rfl ?_;rintro Q0 ⟨a0,a1,a2,a3,a4,a5,a6,rfl⟩;refine M5a rfl rfl ?_;refine h1a (by conv=>lhs;whnf) rfl ?_;refine d0a ?_;refine u2b (caps:=#[.pointer (some ⟨g1,0,none⟩)]) K4c rfl rfl rfl rfl rfl rfl ?_;rintro R0 ⟨b0,b1,b2,b3,b4,b5,b6,rfl⟩;refine n4a rfl rfl rfl j7b (vs:=[.agg _,.agg _]) (cs:=[_,_,_,_,_,_,_,_,_,_,_,_,_,_]) (by rfl) rfl rfl rfl rfl rfl ?_;intro P0 E0 A0;refine M5a rfl rfl ?_;refine t2a u9c (vs:=[(0,.slice _ _ _),(1,.slice _ _ _),(3,.slice _ _ _)]) (cs:=[_,_,_,_]) rfl rfl rfl rfl ?_;refine d0a ?_;refine x7b ?_;rintro B0 ⟨e0,_⟩ ⟨⟨⟨⟨⟨⟨-,K0⟩,s0⟩,t0⟩,v0⟩,x0⟩,u0⟩;have n0:=y0a.refl [g0] B0;have o0:=y0a.refl [g0] B0;clear L0;replace e0:=e0.push_new d0 K0 G9;replace e0:=e0.push_more (L1:=[_]) d0 s0 C0 (by simpa[eq_comm] using y0);replace e0:=e0.push_more (L1:=[_,_]) d0 t0 D0 (by simpa[eq_comm] using z0);replace e0:=e0.push_more (L1:=[_,_,_]) d0 u0 E0 (by simpa[eq_comm] using A0);refine e0a (kk:=5) (vs:=[_,_,_,_]) e0 b7c rfl rfl rfl rfl rfl rfl rfl ?_;intro j0 f0 h0;dsimp only[k0a,List.set] at f0;replace n0:=n0.fresh2 h0 (by first  | exact .inr (by simp));replace o0:=o0.fresh2 h0 (by first  | exact .inr (by simp));refine L0a ⟨rfl,?_⟩;refine fR0 rfl ⟨⟩ ?_;have SF:=f0;obtain⟨ca,I0,hA⟩:=v0;obtain⟨cb,J0,hB⟩:=x0;obtain rfl:[a0,a1,a2,a3,a4,a5,a6]=ca:=by simpa using congrArg Array.toList (Value.agg.inj I0)
 obtain rfl:[b0,b1,b2,b3,b4,b5,b6]=cb:=by simpa using congrArg Array.toList (Value.agg.inj J0)
 have r0:RdE [] j0 J3a [.int .i64 1,.int .i64 1,.int .i64 1,.slice none 0 0]:=A3a i1 i1 i1;have h1:=N0a.less (M':=[]) (by simp) _ _ (N0a.keep n0 _ _ hA);have h2:=N0a.less (M':=[]) (by simp) _ _ (N0a.keep o0 _ _ hB);have fr:RdI [] j0 (.slice (some ⟨H0,0,none⟩) 2 2) [0,1]:=a5a SF (k:=2) rfl (by simp) rfl (by omega) (by simp[i0,i1]);refine n1a rfl b5a rfl (SF.cells 5 rfl) rfl ⟨⟨_,rfl,_,_,_,_,rfl,?_,?_,V4a,?_⟩,SF.fin⟩
 ·exact L0d (c:=[_,_,_,_,_,_]) (c2:=[_,_,_,_,_,_]) (c3:=[_,_,_,_,_,_]) (c4:=[_,_,_,_,_,_]) (by simp) (SF.cells 3 rfl) rfl rfl rfl rfl ⟨rfl,i1,i0,im,i0⟩ ⟨rfl,i1,i0,im,i0⟩ ⟨rfl,i1,i1,i0,i0⟩ ⟨rfl,i1,i1,i1,i0⟩
 ·exact Q6c (by simp) (SF.cells 1 rfl) rfl ⟨_,_,_,_,_,_,_,_,_,rfl,r0,r0,fr⟩
 ·exact o9c (c:=[_,_,_,_,_,_,_]) (c2:=[_,_,_,_,_,_,_]) (by simp) (SF.cells 0 rfl) rfl rfl h1 h2
theorem V9b(c:Int)(hc:i64 c)(M:List Nat)(w0:World)(hM:∀x∈M,x<w0.heap.size):
 M0a Tryz.prog 65 #[.int .i64 c] w0 fun v w'=>(∃cs:List Value,v=.agg cs.toArray∧RdE M w' (i5b c) cs)∧Below w0.heap.size w0 w':=by
 have S:=St.refl w0;have i1:i64 1:=by unfold i64;omega
 have i2:i64 2:=by unfold i64;omega
 have i4:i64 4:=by unfold i64;omega
 refine a0a Tryz.func65 rfl Tryz.ntmps65 rfl ?_;refine wO0 rfl ⟨⟩ (m0a S j8a rfl rfl ?_);intro g2 w2 S2 X2 G2;refine lO0 rfl ⟨⟩ (g0a S2 V6b rfl rfl (y7b _ _ _) ?_);intro w4 S4 X4;refine u0a S4 j1a (vs:=[.agg _]) (cs:=[_,_,_,_]) (by rfl) rfl rfl rfl rfl rfl rfl ?_;intro g5 w5 S5 X5 G5;refine f1a s4b (vs:=[(0,.int .i64 _),(1,.int .i64 _),(3,.slice _ _ _)]) (cs:=[_,_,_,_]) rfl rfl rfl rfl ?_;refine e0a (kk:=1) (vs:=[_,_,_,_]) S5 t6a rfl rfl rfl rfl rfl rfl rfl ?_;intro d0 a0 b0;dsimp only[k0a,List.set] at a0;exact lR0 rfl ⟨⟩ (n1a rfl E1a rfl (a0.cells 1 rfl) rfl ⟨⟨_,rfl,P5c i4 i1 (Q0a hM (a0.new 0 rfl)) (a0.cells 0 rfl) (A3a i2 i1 hc)⟩,a0.fin⟩)
theorem i3b(w0:World):
 M0a Tryz.prog 29 #[] w0 fun v w'=>(∃cs:List Value,v=.agg cs.toArray∧J4a [] w' cs d2b)∧Below w0.heap.size w0 w':=by
 have S:=St.refl w0;have i0:i64 0:=by unfold i64;omega
 have i1:i64 1:=by unfold i64;omega
 have i2:i64 2:=by unfold i64;omega
 have i3:i64 3:=by unfold i64;omega
 have h0:∀{w:World} {g t:Nat} {cs:List Value},p0a w (g,t,cs)→∀x∈[g],x<w.heap.size:=fun h x hx=>by rw[List.mem_singleton] at hx;subst hx;exact h.lt
 refine a0a Tryz.func29 rfl Tryz.ntmps29 rfl ?_;refine wO0 rfl ⟨⟩ (m0a S f1d rfl rfl ?_);intro g0 w0 S0 X0 G0;refine lO0 rfl ⟨⟩ (e5a G4c rfl rfl rfl (V9b 2 i2 [g0] _ (h0 (S0.blk 0 rfl))) ?_);rintro v3 w3 ⟨⟨_,rfl,r3⟩,B3⟩;obtain⟨_,_,_,rfl,-⟩:=r3.open_;have S3:=S0.later B3;refine lO0 rfl ⟨⟩ (e5a G4c rfl rfl rfl (V9b 3 i3 [g0] _ (h0 (S3.blk 0 rfl))) ?_);rintro v5 w5 ⟨⟨_,rfl,r5⟩,B5⟩;obtain⟨_,_,_,rfl,-⟩:=r5.open_;have S5:=S3.later B5;replace r3:=RdE.keep (y0a.of_below B5) _ _ r3;refine g0a S5 V6b rfl rfl (y7b _ _ _) ?_;intro w6 S6 X6;replace r3:=RdE.keep (X6.of_nil) _ _ r3;replace r5:=RdE.keep (X6.of_nil) _ _ r5;refine g0a S6 V6b rfl rfl (y7b _ _ _) ?_;intro w7 S7 X7;replace r3:=RdE.keep (X7.of_nil) _ _ r3;replace r5:=RdE.keep (X7.of_nil) _ _ r5;refine u0a S7 j1a (vs:=[.agg _,.agg _,.agg _,.agg _]) (cs:=[_,_,_,_,_,_,_,_,_,_,_,_,_,_,_,_]) (by rfl) rfl rfl rfl rfl rfl rfl ?_;intro g8 w8 S8 X8 G8;replace r3:=RdE.keep (X8.of_nil) _ _ r3;replace r5:=RdE.keep (X8.of_nil) _ _ r5;have hL:RdL [g0] w8 (.slice (some ⟨g8,0,none⟩) 4 4) [i5b 2,i5b 3,R0c 0,R0c 1]:=P0d (ca:=[_,_,_,_]) (cb:=[_,_,_,_]) (cc:=[_,_,_,_]) (cd:=[_,_,_,_]) (fun hh=>by rw[List.mem_singleton] at hh;exact S8.ne 0 1 rfl rfl (by decide) hh) (S8.cells 0 rfl) r3 r5 (A3a i2 i1 i0) (A3a i2 i1 i1);refine x0a S8 C8c rfl rfl (f3c [i5b 2,i5b 3,R0c 0,R0c 1] [g0] _ _ hL (h0 (S8.blk 1 rfl)) (by decide +kernel) (by decide +kernel) (by decide +kernel)) ?_;rintro v9 w9 ⟨_,rfl,r9⟩ S9 X9;obtain⟨_,_,_,rfl,-⟩:=r9.open_;refine f1a P4b (vs:=[(0,.int .i64 _),(1,.int .i64 _),(2,.agg _)]) (cs:=[_,_,_,_,_,_]) rfl rfl rfl rfl ?_;refine e0a (kk:=1) (vs:=[_,_,_,_,_,_]) S9 J0d rfl rfl rfl rfl rfl rfl rfl ?_;intro d0 a0 b0;dsimp only[k0a,List.set] at a0;replace r9:=RdE.keep (b0.mono (by simp)) _ _ r9;exact lR0 rfl ⟨⟩ (n1a rfl k5b rfl (a0.cells 1 rfl) rfl ⟨⟨_,rfl,_,rfl,RdE.less (by simp) _ _ r9,i1,i2⟩,a0.nil.fin⟩)
theorem W4b:(n2a i9a)[0]?=some (T0a S1a):=by kernel_rfl
theorem L9b:(n2a m9a)[0]?=some (T0a S1a):=by kernel_rfl
theorem J8c:∀y∈i9a,Q2a y.conf d2b=false:=fun y hy=>by
 have:=List.all_eq_true.1 Q3c y hy;simpa using this
theorem f0d:m9a[31]?=some ⟨⟨[1,1,0,0],[2,2],[[],[]]⟩,24,⟨1,-1,1⟩⟩:=by kernel_rfl
theorem g4c{x:q0a}(h:(n2a i9a)[0]?=some x):T0a S1a=x:=Option.some.inj (W4b.symm.trans h)
theorem q6c:(n2a i9a).length=13:=by kernel_rfl
theorem i6c:(n2a m9a).length=34:=by kernel_rfl
theorem L3c{P:Program}{N:Nat}{ops:Array Oper}{rest:List Oper}{C:World→Prop}{K:Env→Prop}{e:Env}{d:Nat}{t:TypeId}{p:String}{af:Array Edge}{x:Operand}{s f b0 n:Nat}{cs:Array Value}{ds:List Value}{fs gs:Array Field}{a0:Field}(hu:P.underlying s=some (.struct fs))(hf:fs[f]?=some a0)(ho:a0.offset=b0)(e0:P.underlying a0.type=some (.struct gs))(hz:Sz P a0.type n)(hx:ev e x=.agg cs)(f0:(cs.toList.drop b0).take n=ds)(hd:Nat.ble (d+1) N=true)(h:QL P N ops C rest K (upd e d (.agg ds.toArray))):
 QL P N ops C (⟨some d,.field s x f,t,p,af,none⟩::rest) K e:=by
 have d0:∀w,(isAgg a0.type).run P w=.ok true w:=fun w=>by simp only[isAgg,Sem.run_bind,run_underlying e0,Result.andThen_ok];rfl
 have he:cs.extract b0 (b0+n)=ds.toArray:=by
  subst f0;apply Array.ext';simp
 exact C3a rfl rfl hd (fun w _=>by simp[execOp,hx,Instr.field,run_underlying hu,hf,asAgg,part,d0,ho,hz w,he]) h
theorem y1d(w0:World)(cs:List Value)(hI:InP S1a [] w0 cs):
 M0a Tryz.prog 10 #[.agg cs.toArray,.int .i64 0,.int .i64 2000] w0 fun r w'=>(∃A c,r=.tuple #[.slice A 13 c,.int .i64 0]∧A1d [] w' (.slice A 13 c) (n2a i9a))∧Below w0.heap.size w0 w' :=
 (U6a S1a 0 (.inl rfl) 2000 (by omega) (by omega) [] w0 cs hI).mono fun r w' ⟨⟨v,l,a0,hr,hv,hd⟩,hb⟩=>by
   obtain⟨rfl,rfl⟩:=(K8a P8a (by decide) hd).1 (by decide);obtain⟨A,n,c,rfl⟩:=hv.form;obtain rfl:n=13:=hv.len.1;exact⟨⟨A,c,hr,hv⟩,hb⟩
theorem G0d(w0:World)(cs:List Value)(hI:InP S1a [] w0 cs):
 M0a Tryz.prog 10 #[.agg cs.toArray,.int .i64 1,.int .i64 2000] w0 fun r w'=>(∃A c,r=.tuple #[.slice A 34 c,.int .i64 0]∧A1d [] w' (.slice A 34 c) (n2a m9a))∧Below w0.heap.size w0 w' :=
 (U6a S1a 1 (.inr (.inl rfl)) 2000 (by omega) (by omega) [] w0 cs hI).mono fun r w' ⟨⟨v,l,a0,hr,hv,hd⟩,hb⟩=>by
   obtain⟨rfl,rfl⟩:=(K8a r8a (by decide) hd).1 (by decide);obtain⟨A,n,c,rfl⟩:=hv.form;obtain rfl:n=34:=hv.len.1;exact⟨⟨A,c,hr,hv⟩,hb⟩
theorem e8c(w0:World)(cs:List Value)(hI:InP S1a [] w0 cs):
 M0a Tryz.prog 10 #[.agg cs.toArray,.int .i64 1,.int .i64 33] w0 fun r w'=>(∃A n c,r=.tuple #[.slice A n c,.int .i64 2])∧Below w0.heap.size w0 w' :=
 (U6a S1a 1 (.inr (.inl rfl)) 33 (by omega) (by omega) [] w0 cs hI).mono fun r w' ⟨⟨v,l,a0,hr,hv,hd⟩,hb⟩=>by
   obtain⟨rfl,rfl⟩:=(K8a r8a (by decide) hd).2 (by decide);obtain⟨A,n,c,rfl⟩:=hv.form;exact⟨⟨A,n,c,hr⟩,hb⟩
theorem N0d(w0:World)(cs gs:List Value)(hI:InP S1a [] w0 cs)(hG:J4a [] w0 gs d2b):
 M0a Tryz.prog 28 #[.agg cs.toArray,.int .i64 0,.agg gs.toArray,.int .i64 2000] w0 fun r w'=>(∃A n c,r=.tuple #[.slice A n c,.int .i64 4])∧Below w0.heap.size w0 w' :=
 (N7a S1a 0 (.inl rfl) 2000 (by omega) (by omega) d2b [] w0 cs gs hI hG).mono fun r w' ⟨⟨v,l,a0,hr,hv,hd⟩,hb⟩=>by
   obtain rfl:=K8b P8a (by decide) (by decide) T6c J8c hd;obtain⟨A,n,c,rfl⟩:=hv.form;exact⟨⟨A,n,c,hr⟩,hb⟩
theorem s1d(w0:World)(cs gs:List Value)(hI:InP S1a [] w0 cs)(hG:J4a [] w0 gs m8b):
 M0a Tryz.prog 28 #[.agg cs.toArray,.int .i64 1,.agg gs.toArray,.int .i64 2000] w0 fun r w'=>(∃A c,r=.tuple #[.slice A 6 c,.int .i64 0])∧Below w0.heap.size w0 w' :=
 (N7a S1a 1 (.inr (.inl rfl)) 2000 (by omega) (by omega) m8b [] w0 cs gs hI hG).mono fun r w' ⟨⟨v,l,a0,hr,hv,hd⟩,hb⟩=>by
   obtain⟨rfl,rfl⟩:=R1b (k:=31) (acc:=fun c=>Q2a c m8b) r8a (show 31<2000 from by omega) t5c f4c f0d o2c hd (show(W4a (m9a.take 32) 32 31).length≤120 from by rw[Z6b];omega);obtain⟨A,n,c,rfl⟩:=hv.form;obtain rfl:n=6:=by rw[hv.len.1,List.length_reverse];exact Z6b
   exact⟨⟨A,c,hr⟩,hb⟩
theorem F0d(w0:World)(cs gs:List Value)(hI:InP S1a [] w0 cs)(hG:J4a [] w0 gs (h0b (-1))):
 M0a Tryz.prog 28 #[.agg cs.toArray,.int .i64 0,.agg gs.toArray,.int .i64 1] w0 fun r w'=>(∃A c,r=.tuple #[.slice A 0 c,.int .i64 0])∧Below w0.heap.size w0 w' :=
 (N7a S1a 0 (.inl rfl) 1 (by omega) (by omega) (h0b (-1)) [] w0 cs gs hI hG).mono fun r w' ⟨⟨v,l,a0,hr,hv,hd⟩,hb⟩=>by
   obtain⟨rfl,rfl⟩:=R1b (k:=0) (acc:=fun c=>Q2a c (h0b (-1))) P8a (by decide) w7c rfl rfl T2c hd (by rw[X6b];decide);obtain⟨A,n,c,rfl⟩:=hv.form;obtain rfl:n=0:=by rw[hv.len.1,List.length_reverse];exact X6b
   exact⟨⟨A,c,hr⟩,hb⟩
theorem K0d(w0:World)(cs gs:List Value)(hI:InP S1a [] w0 cs)(hG:J4a [] w0 gs (h0b 2)):
 M0a Tryz.prog 28 #[.agg cs.toArray,.int .i64 0,.agg gs.toArray,.int .i64 2000] w0 fun r w'=>(∃A n c,r=.tuple #[.slice A n c,.int .i64 1])∧Below w0.heap.size w0 w' :=
 (N7a S1a 0 (.inl rfl) 2000 (by omega) (by omega) (h0b 2) [] w0 cs gs hI hG).mono fun r w' ⟨⟨v,l,a0,hr,hv,hd⟩,hb⟩=>by
   obtain⟨A,n,c,rfl⟩:=hv.form;rcases hd with⟨_,rfl,_⟩|⟨_,_,_,_,_,_,_,h,_⟩|⟨h,_⟩|⟨h,_⟩
   ·exact⟨⟨A,n,c,hr⟩,hb⟩
   all_goals (rw[u5c] at h;cases h)
theorem o0c(w0:World)(hK:q3a [] w0):
 M0a Tryz.prog 8 #[] w0 fun v w'=>v=.bool true∧Below w0.heap.size w0 w':=by
 have S:=St.refl w0;have i0:i64 0:=by unfold i64;omega
 have i1:i64 1:=by unfold i64;omega
 have i2:i64 2:=by unfold i64;omega
 have im:i64 (-1):=by unfold i64;omega
 have l0:=q6c;have l1:=i6c;refine a0a Tryz.func8 rfl Tryz.ntmps8 rfl ?_;refine wO0 rfl ⟨⟩ (x0a S r9c rfl rfl (J2c _) ?_);rintro D2 u2 ⟨_,rfl,hP⟩ W1 C2;have KP:=y0a.refl [] u2;obtain⟨_,_,_,_,_,_,_,_,_,_,_,_,rfl,-⟩:=hP.open_;refine m0a W1 n8c rfl rfl ?_;intro g1 w1 S1 X1 G1;have S0:=Nat.le_trans KP.size G1;replace KP:=KP.trans X1
 first|refine e0a (kk:=0) (vs:=[_,_,_,_]) S1 b7c rfl rfl rfl rfl rfl rfl rfl ?_
 intro v2 o0 b1;dsimp only[k0a,List.set] at o0;replace KP:=KP.fresh b1 (by first|exact S0);refine lO o0.k [.w 0] rfl ⟨⟨rfl,by rfl⟩,⟨⟩⟩ (x0a o0 E4b rfl rfl (y1d _ _ ⟨hP.keep KP,r3a,hK.keep (o0.keep0 []),by simp⟩) ?_);rintro E2 w2 ⟨_,_,rfl,hA⟩ U0 b2;replace KP:=KP.trans b2;have KA:=y0a.refl [] w2;refine lO U0.k [.w 0] rfl ⟨⟨rfl,by rfl⟩,⟨⟩⟩ (x0a U0 E4b rfl rfl (G0d _ _ ⟨hP.keep KP,r3a,hK.keep (U0.keep0 []),by simp⟩) ?_);rintro F2 x2 ⟨_,_,rfl,hB⟩ O1 P1;replace KP:=KP.trans P1;replace KA:=KA.trans P1;have KB:=y0a.refl [] x2;refine lC0 rfl ⟨⟩ (v0a b0a [0,1,2,3,4,5,6,7,8,9,10,11,12,13,14,15,16,17,18,19,20,21,22,23,24,25,26,27] [] [] (by kernel_rfl) rfl (Cl _ _ _ _) (Cl.start O1) ?_);refine qB0 rfl ⟨⟩ (fun g2=>by exfalso;omega) fun g2=>?_;refine qB0 rfl ⟨⟩ (fun h2=>by exfalso;omega) fun h2=>?_;refine qB0 rfl ⟨⟩ (fun j2=>by exfalso;omega) fun j2=>?_;refine qB0 rfl ⟨⟩ (fun m2=>by exfalso;omega) fun m2=>?_;obtain⟨x0,d2,q2,_,I1,B1,_,F1,D1,L0⟩:=RdS.get ((RdS.keepW hA KA (g3a.keep KA))) (0) (by omega);obtain⟨_,_,_,_,_,_,_,_,_,rfl,_,_,_,_,_,_,_,_,_⟩:=t0a.open_ L0;obtain⟨x1,f2,r2,_,J1,C1,_,H1,E1,N0⟩:=RdS.get ((RdS.keepW hB KB (g3a.keep KB))) (0) (by omega);obtain⟨_,_,_,_,_,_,_,_,_,rfl,_,_,_,_,_,_,_,_,_⟩:=t0a.open_ N0;refine qO ((O1.q.b E1).b D1) [.x d2 q2,.v 0,.x f2 r2,.v 1] rfl ⟨⟨rfl,H1⟩,⟨C1,by omega⟩,⟨rfl,F1⟩,⟨B1,by omega⟩,⟨⟩⟩ (r1a j5c rfl rfl (fun w1 S1 X1=>y4a (R7a x0 x1 [] _ _ _ (t0a.keep X1.of_nil L0) (t0a.keep X1.of_nil N0)) (decide_eq_true (Option.some.inj ((I1.symm.trans W4b).trans (J1.symm.trans L9b).symm)))) ?_);refine qD rfl ⟨⟩ ?_;rintro V2 ⟨Z1,T1⟩;replace KP:=KP.trans T1;replace KA:=KA.trans T1;refine lC0 rfl ⟨⟩ (K1c b0a (fun i=>[0,3,4,5,6,7].contains i) [0,1,2,3,4,5,6,7] (by kernel_rfl) (by kernel_rfl) (Cl _ _ _ _) (Cl.start Z1) ?_);rintro W2 ⟨Y0,C0⟩;replace KP:=KP.trans C0;replace KA:=KA.trans C0;refine z1a ⟨Y0,C0⟩ rfl rfl rfl ?_;refine J1a b5a rfl (fun w1 hw=>hw.1.cells 0 rfl) rfl rfl ?_;refine d0a ?_;refine q8a ⟨Y0,C0⟩ rfl rfl rfl rfl ?_;refine x0a Y0 M1c rfl rfl (i3b _) ?_;rintro G2 y2 ⟨_,rfl,hZ⟩ V0 d1;have q0:=C0.trans d1;replace KP:=KP.trans d1;replace KA:=KA.trans d1;have KZ:=y0a.refl [] y2;obtain⟨_,rfl,p2,-⟩:=id hZ;obtain⟨_,_,_,rfl,-⟩:=id p2.open_;refine L0a ⟨rfl,?_⟩;refine q8a ⟨V0,q0⟩ rfl rfl rfl rfl ?_;refine x0a V0 a7b rfl rfl (N0d _ _ _ ⟨hP.keep KP,r3a,hK.keep (V0.keep0 []),by simp⟩ (hZ.keep KZ)) ?_;rintro H2 O2 ⟨_,_,_,rfl⟩ t0 f1;have a0:=q0.trans f1;replace KP:=KP.trans f1;replace KA:=KA.trans f1;refine L0a ⟨rfl,?_⟩;refine z1a ⟨t0,a0⟩ rfl rfl rfl ?_;refine h1a (v:=.tuple _) rfl rfl ?_;refine d0a ?_;refine z1a ⟨t0,a0⟩ rfl rfl rfl ?_;refine B2a rfl rfl rfl ?_;refine d0a ?_;refine z1a ⟨t0,a0⟩ rfl rfl rfl ?_;refine B2a rfl rfl rfl ?_;refine d0a ?_;refine z1a ⟨t0,a0⟩ rfl rfl rfl ?_;refine z3a (v:=.slice _ _ _) rfl rfl ?_;refine d0a ?_;refine z1a ⟨t0,a0⟩ rfl rfl rfl ?_;refine z3a (v:=.int .i64 _) rfl rfl ?_;refine d0a ?_;refine j5a ⟨t0,a0⟩ ?_;refine fC0 rfl ⟨⟩ (K1c b0a (fun i=>[0,2,3,5,6,7,8,9].contains i) [0,1,2,3,4,5,6,7,8,9] (by kernel_rfl) (by kernel_rfl) (Cl _ _ _ _) (Cl.start t0) ?_);rintro X2 ⟨Z0,D0⟩;replace KP:=KP.trans D0;replace KA:=KA.trans D0;refine z1a ⟨Z0,D0⟩ rfl rfl rfl ?_;refine J1a b5a rfl (fun w1 hw=>hw.1.cells 0 rfl) rfl rfl ?_;refine d0a ?_;refine q8a ⟨Z0,D0⟩ rfl rfl rfl rfl ?_;refine x0a Z0 M1c rfl rfl (i3b _) ?_;rintro I2 z2 ⟨_,rfl,hY⟩ A0 h1;have f0:=D0.trans h1;replace KP:=KP.trans h1;replace KA:=KA.trans h1;have KY:=y0a.refl [] z2;obtain⟨_,rfl,V1,-⟩:=id hY;obtain⟨_,_,_,rfl,-⟩:=id V1.open_;refine L0a ⟨rfl,?_⟩;refine z1a ⟨A0,f0⟩ rfl rfl rfl ?_;refine L3c Tryz.underlying70 rfl rfl Tryz.underlying68 t6a rfl rfl rfl ?_;refine d0a ?_;refine z1a ⟨A0,f0⟩ rfl rfl rfl ?_;refine t2a P4b (vs:=[(0,.int .i64 _),(2,.agg _)]) (cs:=[_,_,_,_,_,_]) rfl rfl rfl rfl ?_;refine d0a ?_;refine q8a ⟨A0,f0⟩ rfl rfl rfl rfl ?_;refine x0a A0 a7b rfl rfl (s1d _ _ _ ⟨hP.keep KP,r3a,hK.keep (A0.keep0 []),by simp⟩ ⟨_,rfl,RdE.keep KY _ _ V1,im,i0⟩) ?_;rintro J2 P2 ⟨_,_,rfl⟩ u0 j1;have b0:=f0.trans j1;replace KP:=KP.trans j1;replace KA:=KA.trans j1;refine L0a ⟨rfl,?_⟩;refine z1a ⟨u0,b0⟩ rfl rfl rfl ?_;refine h1a (v:=.tuple _) rfl rfl ?_;refine d0a ?_;refine z1a ⟨u0,b0⟩ rfl rfl rfl ?_;refine B2a rfl rfl rfl ?_;refine d0a ?_;refine z1a ⟨u0,b0⟩ rfl rfl rfl ?_;refine B2a rfl rfl rfl ?_;refine d0a ?_;refine z1a ⟨u0,b0⟩ rfl rfl rfl ?_;refine z3a (v:=.slice _ _ _) rfl rfl ?_;refine d0a ?_;refine z1a ⟨u0,b0⟩ rfl rfl rfl ?_;refine z3a (v:=.int .i64 _) rfl rfl ?_;refine d0a ?_;refine j5a ⟨u0,b0⟩ ?_;refine fC0 rfl ⟨⟩ (K1c b0a (fun i=>[0,2,4,5,6,7,8].contains i) [0,1,2,3,4,5,6,7,8] (by kernel_rfl) (by kernel_rfl) (Cl _ _ _ _) (Cl.start u0) ?_);rintro Y2 ⟨a1,E0⟩;replace KP:=KP.trans E0;replace KA:=KA.trans E0;refine z1a ⟨a1,E0⟩ rfl rfl rfl ?_;refine J1a b5a rfl (fun w1 hw=>hw.1.cells 0 rfl) rfl rfl ?_;refine d0a ?_;refine q8a ⟨a1,E0⟩ rfl rfl rfl rfl ?_;refine g0a a1 V1b rfl rfl (p0b _ _ _) ?_;intro Q2 Q0 m1;have g0:=E0.trans m1;replace KP:=KP.trans m1;replace KA:=KA.trans m1;refine L0a ⟨rfl,?_⟩;refine z1a ⟨Q0,g0⟩ rfl rfl rfl ?_;refine t2a P4b (vs:=[(0,.int .i64 _),(2,.agg _)]) (cs:=[_,_,_,_,_,_]) rfl rfl rfl rfl ?_;refine d0a ?_;refine q8a ⟨Q0,g0⟩ rfl rfl rfl rfl ?_;refine x0a Q0 a7b rfl rfl (F0d _ _ _ ⟨hP.keep KP,r3a,hK.keep (Q0.keep0 []),by simp⟩ ⟨_,rfl,A3a i1 i1 i1,im,i0⟩) ?_;rintro K2 R2 ⟨_,_,rfl⟩ p0 n1;have d0:=g0.trans n1;replace KP:=KP.trans n1;replace KA:=KA.trans n1;refine L0a ⟨rfl,?_⟩;refine z1a ⟨p0,d0⟩ rfl rfl rfl ?_;refine h1a (v:=.tuple _) rfl rfl ?_;refine d0a ?_;refine z1a ⟨p0,d0⟩ rfl rfl rfl ?_;refine B2a rfl rfl rfl ?_;refine d0a ?_;refine z1a ⟨p0,d0⟩ rfl rfl rfl ?_;refine B2a rfl rfl rfl ?_;refine d0a ?_;refine z1a ⟨p0,d0⟩ rfl rfl rfl ?_;refine z3a (v:=.slice _ _ _) rfl rfl ?_;refine d0a ?_;refine z1a ⟨p0,d0⟩ rfl rfl rfl ?_;refine z3a (v:=.int .i64 _) rfl rfl ?_;refine d0a ?_;refine j5a ⟨p0,d0⟩ ?_;refine fO p0.k [.w 0] rfl ⟨by omega,⟨rfl,by rfl⟩,⟨⟩⟩ (x0a p0 E4b rfl rfl (e8c _ _ ⟨hP.keep KP,r3a,hK.keep (p0.keep0 []),by simp⟩) ?_);rintro L2 S2 ⟨_,_,_,rfl⟩ W0 Q1;replace KP:=KP.trans Q1;replace KA:=KA.trans Q1;refine lO W0.k [.w 0] rfl ⟨⟨rfl,by rfl⟩,⟨⟩⟩ (g0a W0 E4b rfl rfl (r5b S1a 3 2000 rfl [] _ _ ⟨hP.keep KP,r3a,hK.keep (W0.keep0 []),by simp⟩) ?_);intro T2 Y1 R1;replace KP:=KP.trans R1;replace KA:=KA.trans R1;refine lC0 rfl ⟨⟩ (K1c b0a (fun i=>[0,2,4,5,6,7,8].contains i) [0,1,2,3,4,5,6,7,8] (by kernel_rfl) (by kernel_rfl) (Cl _ _ _ _) (Cl.start Y1) ?_);rintro B2 ⟨v0,j0⟩;replace KP:=KP.trans j0;replace KA:=KA.trans j0;refine z1a ⟨v0,j0⟩ rfl rfl rfl ?_;refine J1a b5a rfl (fun w1 hw=>hw.1.cells 0 rfl) rfl rfl ?_;refine d0a ?_;refine q8a ⟨v0,j0⟩ rfl rfl rfl rfl ?_;refine g0a v0 V1b rfl rfl (p0b _ _ _) ?_;intro U2 R0 o1;have h0:=j0.trans o1;replace KP:=KP.trans o1;replace KA:=KA.trans o1;refine L0a ⟨rfl,?_⟩;refine z1a ⟨R0,h0⟩ rfl rfl rfl ?_;refine t2a P4b (vs:=[(0,.int .i64 _),(2,.agg _)]) (cs:=[_,_,_,_,_,_]) rfl rfl rfl rfl ?_;refine d0a ?_;refine q8a ⟨R0,h0⟩ rfl rfl rfl rfl ?_;refine x0a R0 a7b rfl rfl (K0d _ _ _ ⟨hP.keep KP,r3a,hK.keep (R0.keep0 []),by simp⟩ ⟨_,rfl,A3a i1 i1 i1,i2,i0⟩) ?_;rintro N2 A2 ⟨_,_,_,rfl⟩ n0 p1;have e0:=h0.trans p1;replace KP:=KP.trans p1;replace KA:=KA.trans p1;have U1:InP S1a [] A2 _:=⟨hP.keep KP,r3a,hK.keep (n0.keep0 []),by simp⟩;refine L0a ⟨rfl,?_⟩;refine z1a ⟨n0,e0⟩ rfl rfl rfl ?_;refine h1a (v:=.tuple _) rfl rfl ?_;refine d0a ?_;refine z1a ⟨n0,e0⟩ rfl rfl rfl ?_;refine B2a rfl rfl rfl ?_;refine d0a ?_;refine z1a ⟨n0,e0⟩ rfl rfl rfl ?_;refine B2a rfl rfl rfl ?_;refine d0a ?_;refine z1a ⟨n0,e0⟩ rfl rfl rfl ?_;refine z3a (v:=.slice _ _ _) rfl rfl ?_;refine d0a ?_;refine z1a ⟨n0,e0⟩ rfl rfl rfl ?_;refine z3a (v:=.int .i64 _) rfl rfl ?_;refine d0a ?_;refine j5a ⟨n0,e0⟩ ?_;refine fC0 rfl ⟨⟩ (v0a b0a [0,1,2,3,4,5,6,7,8,9,10,11,12,13,14,15,16,17,18,19,20,21,22,23,24,25,26,27,28,29,30,31,32,33,34,35,36,37,38,39,40,41,42,43,44,45] [46] [47,48,49,50] (by kernel_rfl) rfl (Cl _ _ _ _) (Cl.start n0) ?_);refine qB0 rfl ⟨⟩ (fun n2=>?_) (fun n2=>by exfalso;omega);refine qB0 rfl ⟨⟩ (fun s1=>?_) (fun s1=>by exfalso;omega);refine qB0 rfl ⟨⟩ (fun t1=>?_) (fun t1=>by exfalso;omega);refine qB0 rfl ⟨⟩ (fun u1=>?_) (fun u1=>by exfalso;omega);refine qB0 rfl ⟨⟩ (fun v1=>?_) (fun v1=>by exfalso;omega);refine qB0 rfl ⟨⟩ (fun y1=>?_) (fun y1=>by exfalso;omega);refine qB0 rfl ⟨⟩ (fun z1=>?_) (fun z1=>by exfalso;omega);refine qB0 rfl ⟨⟩ (fun A1=>?_) (fun A1=>by exfalso;omega);obtain⟨y0,q1,K1,_,O0,F0,_,J0,H0,r0⟩:=RdS.get ((RdS.keepW hA KA (g3a.keep KA))) (0) (by omega);obtain⟨_,_,_,_,_,_,_,_,_,rfl,_,_,_,_,_,_,_,_,_⟩:=t0a.open_ r0;refine qO (n0.q.b H0) [.w 0,.x q1 K1,.v 0] rfl ⟨⟨rfl,J0⟩,⟨F0,by omega⟩,⟨rfl,by rfl⟩,⟨⟩⟩ (r1a V1b rfl rfl (fun w1 S1 X1=>p0b _ _ _) ?_);refine qO0 rfl ⟨⟩ (t2a P4b (vs:=[(0,.int .i64 _),(2,.agg _)]) (cs:=[_,_,_,_,_,_]) rfl rfl rfl rfl ?_);refine qO0 rfl ⟨⟩ ?_;refine r1a B4c rfl rfl (fun w1 S1 X1=>y4a (j4b S1a y0 (h0b 1) [] _ _ _ _ (U1.keep X1.of_nil) (t0a.keep X1.of_nil r0) (by rw[←g4c O0];exact y5a r3a) ⟨_,rfl,A3a i1 i1 i1,i1,i0⟩) (by rw[←g4c O0];exact i4c)) ?_;obtain⟨z0,r1,M1,_,P0,G0,_,K0,I0,s0⟩:=RdS.get ((RdS.keepW hA KA (g3a.keep KA))) (0) (by omega);obtain⟨_,_,_,_,_,_,_,_,_,rfl,_,_,_,_,_,_,_,_,_⟩:=t0a.open_ s0;refine qN (n0.q.b I0) [.w 0,.x r1 M1,.v 0] rfl ⟨⟨rfl,K0⟩,⟨G0,by omega⟩,⟨rfl,by rfl⟩,⟨⟩⟩ (V3a ?_);refine o8a (_) rfl rfl M1c rfl (fun v w w' ⟨cs,h,hr⟩ k=>⟨cs,h,hr.keep k.of_nil⟩) (fun w1 S1 X1=>i3b _) ?_;refine R1a ?_;rintro N1 ⟨X0,B0⟩;rintro s2 ⟨_,rfl,hX⟩;dsimp only[R3a];have KX:=y0a.refl [] N1;obtain⟨_,rfl,o2,-⟩:=id hX;obtain⟨_,_,_,rfl,-⟩:=id o2.open_;refine lO0 rfl ⟨⟩ ?_;refine g0a X0 B4c rfl rfl (j8b (j4b S1a z0 d2b [] _ _ _ _ (U1.keep B0.of_nil) (t0a.keep B0.of_nil s0) (by rw[←g4c P0];exact y5a r3a) (hX.keep KX)) (by rw[←g4c P0];exact x2c)) ?_;intro t2 T0 a2;exact lT rfl ⟨⟩ rfl ⟨rfl,T0.fin⟩
section
variable {P:Program} {r:Option Nat} {N:Nat} {D:List Deferred} {e:Env} {w:World} {ops:Array Oper} {rest:List Oper} {K:List Deferred→Env→World→Prop} {d:Nat} {t:TypeId} {p:String} {af:Array Edge} {x y:Operand} {a b:Int} {kd:IntKind} {ts:Array TypeId}
theorem o1d(hx:ev e x=.int kd a)(hy:ev e y=.int kd b)(hd:Nat.ble (d+1) N=true)(h:WL P r N ops rest K D (upd e d (.int kd (min a b))) w):
 WL P r N ops (⟨some d,.call { callee:=.builtin .min,args:=#[x,y],argTypes:=ts },t,p,af,none⟩::rest) K D e w:=by
 have h1:(if b<a then b else a)=min a b:=by rw[Int.min_def];split<;>split<;>omega
 exact k1a rfl rfl hd (by simp) (by simp[execOp,resolve,invoke,builtin,run_min_int2,hx,hy,h1]) h
end
section
variable {x y:Nat}
theorem t5b{n:Nat}(h:n<2 ^ 62):(BitVec.ofInt 64 (n:Int)).toNat=n:=by
 rw[BitVec.ofInt_natCast,BitVec.toNat_ofNat,Nat.mod_eq_of_lt (by omega)]
theorem k2c(hx:x<2 ^ 62)(hy:y<2 ^ 62):s0b x y=((x &&& y:Nat):Int):=by
 have hb:s0b x y=IntKind.i64.wrap ((BitVec.ofInt 64 (x:Int) &&& BitVec.ofInt 64 (y:Int)).toNat:Int):=rfl;rw[hb,BitVec.toNat_and,t5b hx,t5b hy];have:=Nat.and_lt_two_pow x hy;exact p4a _ (by omega) (by omega)
theorem D6c(hx:x<2 ^ 62)(hy:y<2 ^ 62):bor x y=((x ||| y:Nat):Int):=by
 have hb:bor x y=IntKind.i64.wrap ((BitVec.ofInt 64 (x:Int) ||| BitVec.ofInt 64 (y:Int)).toNat:Int):=rfl;rw[hb,BitVec.toNat_or,t5b hx,t5b hy];have:=Nat.or_lt_two_pow hx hy;exact p4a _ (by omega) (by omega)
theorem z3c(hx:x<2 ^ 62)(hy:y<2 ^ 62):j0c x y=((x ^^^ y:Nat):Int):=by
 have hb:j0c x y=IntKind.i64.wrap ((BitVec.ofInt 64 (x:Int) ^^^ BitVec.ofInt 64 (y:Int)).toNat:Int):=rfl;rw[hb,BitVec.toNat_xor,t5b hx,t5b hy];have:=Nat.xor_lt_two_pow hx hy;exact p4a _ (by omega) (by omega)
theorem j4c(hx:x<2 ^ 62):j0c (-1) x=-1-(x:Int):=by
 have hb:j0c (-1) x=IntKind.i64.wrap ((BitVec.ofInt 64 (-1) ^^^ BitVec.ofInt 64 (x:Int)).toNat:Int):=rfl;have h1:BitVec.ofInt 64 (-1)=BitVec.allOnes 64:=by decide
 have h2:(BitVec.allOnes 64 ^^^ BitVec.ofInt 64 (x:Int)).toNat=2 ^ 64-1-x:=by
  rw[BitVec.allOnes_xor,BitVec.toNat_not,t5b hx]
 rw[hb,h1,h2];have h3:(((2 ^ 64-1-x:Nat)):Int)=18446744073709551615-(x:Int):=by omega
 rw[h3];unfold IntKind.wrap;have hm:((18446744073709551615:Int)-x) % (2 ^ IntKind.i64.bits:Int)=18446744073709551615-x:=Int.emod_eq_of_lt (by omega) (by simp[IntKind.bits];omega);simp only[hm];rw[if_pos]
 ·simp[IntKind.bits];omega
 ·simp[IntKind.bits,IntKind.signed];omega
end
theorem H0c{a:Int}{n:Nat}(h0:0≤a)(h1:a<G3a n)(hn:n≤8):∃x:Nat,a=x∧x<2 ^ n∧x<256:=by
 rw[a3a] at h1;have h2:(2:Nat) ^ n≤2 ^ 8:=Nat.pow_le_pow_right (by omega) hn;exact⟨a.toNat,by omega,by omega,by omega⟩
theorem P0b{x n:Nat}(hn:n≤8)(h:x<2 ^ n):s0b (x:Int) (G3a n-1)=x:=by
 rw[A4a _ _ (by omega),a3a,Int.emod_eq_of_lt (by omega) (by omega)]
theorem b1d{e:E}{p0:Int}(hg:e.good p0=true)(old d0:List Int){v0 v1 v2:Int}(h0:(e.kids.map (E.val old d0)).getD 0 0=v0)(h1:(e.kids.map (E.val old d0)).getD 1 0=v1)(h2:(e.kids.map (E.val old d0)).getD 2 0=v2):
 (e.op=4→0≤v0∧v0<256∧e.val old d0=G3a e.w.toNat-1-v0)∧(e.op=5→e.val old d0=s0b v0 v1)∧(e.op=6→e.val old d0=bor v0 v1)∧(e.op=7→e.val old d0=j0c v0 v1) ∧
 (5≤e.op∧e.op≤13→0≤v0∧v0<256∧0≤v1∧v1<256)∧(e.op=8→e.val old d0=s0b (v0+v1) (G3a e.w.toNat-1))∧(e.op=9→e.val old d0=s0b (v0-v1+G3a e.w.toNat) (G3a e.w.toNat-1))∧(e.op=10→e.val old d0=s0b (v0*v1) (G3a e.w.toNat-1)) ∧
 (e.op=11→e.val old d0=if v0=v1 then 1 else 0)∧(e.op=12→e.val old d0=if v0<v1 then 1 else 0)∧(e.op=13→e.val old d0=if v0≤v1 then 1 else 0)∧(e.op=14→(v0=1∧e.val old d0=v1)∨(v0=0∧e.val old d0=v2)):=by
 obtain⟨g0,hk⟩:=U2a hg;have hw:=g0.1;have q0:=g0.2.1;obtain⟨n,_⟩:=Int.eq_ofNat_of_zero_le (show 0≤e.w by omega);have f0:n≤8:=by omega
 have b0:∀(i:Nat) (v:Int),i<e.kids.length→(e.kids.map (E.val old d0)).getD i 0=v→0≤v∧v<G3a (e.kw i).toNat:=fun i v hi hv=>by
  have hx:e.kids[i]?=some e.kids[i]:=List.getElem?_eq_getElem hi;have hr:=W9a (hk _ (List.getElem_mem hi)) old d0;rw[List.getD_eq_getElem?_getD,List.getElem?_map,hx] at hv;simp only[Option.map_some,Option.getD_some] at hv;have j0:e.kw i=e.kids[i].w:=by unfold E.kw;rw[hx];rfl
  rw[j0,←hv];exact hr
 have a0:=E.val_def old d0 e;rw[h0,h1,h2] at a0;have e0:e.w.toNat=n:=by omega
 rw[e0] at a0 ⊢;have o0:G3a n≤256:=by rw[a3a];have:=Nat.pow_le_pow_right (show 0<2 by omega) f0;omega
 refine⟨fun o=>?_,fun o=>?_,fun o=>?_,fun o=>?_,fun o=>?_,fun o=>?_,fun o=>?_,fun o=>?_,fun o=>?_,fun o=>?_,fun o=>?_,fun o=>?_⟩
 ·have hs:=(f5b o).1 g0;have r0:=b0 0 v0 (by omega) h0;rw[hs.2.2.2.2,e0] at r0;obtain⟨x,rfl,x1,x2⟩:=H0c r0.1 r0.2 f0;refine⟨by omega,by omega,?_⟩;rw[a0,if_neg (by omega),if_neg (by omega),if_neg (by omega)];unfold b2a;rw[if_pos o,j4c (by omega),A4a _ _ (by omega),a3a];have n0:0<(2:Nat) ^ n:=Nat.pow_pos (by omega);rw[←Int.add_emod_right,Int.emod_eq_of_lt (by omega) (by omega)];omega
 ·have hs:=(T5a (e:=e) (by omega)).1 g0;have r0:=b0 0 v0 (by omega) h0;have r1:=b0 1 v1 (by omega) h1;rw[hs.2.2.2.2.1,e0] at r0;rw[hs.2.2.2.2.2,e0] at r1;obtain⟨x,rfl,x1,x2⟩:=H0c r0.1 r0.2 f0;obtain⟨y,rfl,y1,y2⟩:=H0c r1.1 r1.2 f0;rw[a0,if_neg (by omega),if_neg (by omega),if_neg (by omega)];unfold b2a;rw[if_neg (by omega),if_pos o,k2c (by omega) (by omega)];exact P0b f0 (Nat.and_lt_two_pow x y1)
 ·have hs:=(T5a (e:=e) (by omega)).1 g0;have r0:=b0 0 v0 (by omega) h0;have r1:=b0 1 v1 (by omega) h1;rw[hs.2.2.2.2.1,e0] at r0;rw[hs.2.2.2.2.2,e0] at r1;obtain⟨x,rfl,x1,x2⟩:=H0c r0.1 r0.2 f0;obtain⟨y,rfl,y1,y2⟩:=H0c r1.1 r1.2 f0;rw[a0,if_neg (by omega),if_neg (by omega),if_neg (by omega)];unfold b2a;rw[if_neg (by omega),if_neg (by omega),if_pos o,D6c (by omega) (by omega)];exact P0b f0 (Nat.or_lt_two_pow x1 y1)
 ·have hs:=(T5a (e:=e) (by omega)).1 g0;have r0:=b0 0 v0 (by omega) h0;have r1:=b0 1 v1 (by omega) h1;rw[hs.2.2.2.2.1,e0] at r0;rw[hs.2.2.2.2.2,e0] at r1;obtain⟨x,rfl,x1,x2⟩:=H0c r0.1 r0.2 f0;obtain⟨y,rfl,y1,y2⟩:=H0c r1.1 r1.2 f0;rw[a0,if_neg (by omega),if_neg (by omega),if_neg (by omega)];unfold b2a;rw[if_neg (by omega),if_neg (by omega),if_neg (by omega),if_pos o,z3c (by omega) (by omega)];exact P0b f0 (Nat.xor_lt_two_pow x1 y1)
 ·have hl:e.kids.length=2:=by
   by_cases o2:e.op≤10
   ·exact((T5a (e:=e) (by omega)).1 g0).2.2.1
   ·exact((T6a (e:=e) (by omega)).1 g0).1
  have i0:∀i,i<e.kids.length→(e.kw i).toNat≤8:=fun i hi=>by
   have hx:e.kids[i]?=some e.kids[i]:=List.getElem?_eq_getElem hi;have j0:e.kw i=e.kids[i].w:=by unfold E.kw;rw[hx];rfl
   have:=(U2a (hk _ (List.getElem_mem hi))).1.2.1;omega
  have r0:=b0 0 v0 (by omega) h0;have r1:=b0 1 v1 (by omega) h1;obtain⟨x,rfl,x1,x2⟩:=H0c r0.1 r0.2 (i0 0 (by omega));obtain⟨y,rfl,y1,y2⟩:=H0c r1.1 r1.2 (i0 1 (by omega));omega
 ·have hs:=(T5a (e:=e) (by omega)).1 g0;have r0:=b0 0 v0 (by omega) h0;have r1:=b0 1 v1 (by omega) h1;rw[hs.2.2.2.2.1,e0] at r0;rw[hs.2.2.2.2.2,e0] at r1;rw[a0,if_neg (by omega),if_neg (by omega),if_neg (by omega)];unfold b2a;rw[if_neg (by omega),if_neg (by omega),if_neg (by omega),if_neg (by omega),if_neg (by omega),if_pos o,show wr (v0+v1)=v0+v1 from p4a _ (by omega) (by omega)]
 ·have hs:=(T5a (e:=e) (by omega)).1 g0;have r0:=b0 0 v0 (by omega) h0;have r1:=b0 1 v1 (by omega) h1;rw[hs.2.2.2.2.1,e0] at r0;rw[hs.2.2.2.2.2,e0] at r1;rw[a0,if_neg (by omega),if_neg (by omega),if_neg (by omega)];unfold b2a;rw[if_neg (by omega),if_neg (by omega),if_neg (by omega),if_neg (by omega),if_pos o,show wr (0-v1)=0-v1 from F4a (by unfold i64;omega),show wr (v0+(0-v1))=v0+(0-v1) from F4a (by unfold i64;omega),A4a _ _ (by omega),A4a _ _ (by omega),Int.add_emod_right]
  congr 1;omega
 ·have hs:=(T5a (e:=e) (by omega)).1 g0;have r0:=b0 0 v0 (by omega) h0;have r1:=b0 1 v1 (by omega) h1;rw[hs.2.2.2.2.1,e0] at r0;rw[hs.2.2.2.2.2,e0] at r1;have m0:=Int.mul_nonneg r0.1 r1.1;have m1:v0*v1≤256*256:=Int.mul_le_mul (by omega) (by omega) r1.1 (by omega);rw[a0,if_neg (by omega),if_neg (by omega),if_neg (by omega)];unfold b2a;rw[if_neg (by omega),if_neg (by omega),if_neg (by omega),if_neg (by omega),if_neg (by omega),if_neg (by omega),if_pos o,show wr (v0*v1)=v0*v1 from p4a _ m0 (by omega)]
 ·have hs:=(T6a (e:=e) (by omega)).1 g0;obtain rfl:n=1:=by omega
  rw[a0,if_neg (by omega),if_neg (by omega),if_neg (by omega)];unfold b2a;rw[if_neg (by omega),if_neg (by omega),if_neg (by omega),if_neg (by omega),if_neg (by omega),if_neg (by omega),if_neg (by omega),if_pos o]
  split<;>rfl
 ·have hs:=(T6a (e:=e) (by omega)).1 g0;obtain rfl:n=1:=by omega
  rw[a0,if_neg (by omega),if_neg (by omega),if_neg (by omega)];unfold b2a;rw[if_neg (by omega),if_neg (by omega),if_neg (by omega),if_neg (by omega),if_neg (by omega),if_neg (by omega),if_neg (by omega),if_neg (by omega),if_neg (by omega),if_pos o]
  split<;>rfl
 ·have hs:=(T6a (e:=e) (by omega)).1 g0;obtain rfl:n=1:=by omega
  rw[a0,if_neg (by omega),if_neg (by omega),if_neg (by omega)];unfold b2a;rw[if_neg (by omega),if_neg (by omega),if_neg (by omega),if_neg (by omega),if_neg (by omega),if_neg (by omega),if_neg (by omega),if_neg (by omega),if_pos o];by_cases c1:v0=v1
  ·rw[if_pos c1,if_pos (by omega)];rfl
  ·rw[if_neg c1];by_cases c2:v0<v1
   ·rw[if_pos c2,if_pos (by omega)];rfl
   ·rw[if_neg c2,if_neg (by omega)];rfl
 ·have hs:=(Y1b o).1 g0;have r0:=b0 0 v0 (by omega) h0;have r1:=b0 1 v1 (by omega) h1;have r2:=b0 2 v2 (by omega) h2;rw[hs.2.2.2.2.1] at r0;rw[hs.2.2.2.2.2.1,e0] at r1;rw[hs.2.2.2.2.2.2,e0] at r2;have e2:G3a (1:Int).toNat=2:=rfl;rw[e2] at r0;obtain⟨y,rfl,y1,y2⟩:=H0c r1.1 r1.2 f0;obtain⟨_,rfl,z1,_⟩:=H0c r2.1 r2.2 f0;rw[if_neg (by omega),if_neg (by omega),if_neg (by omega)] at a0;unfold b2a at a0;rw[if_neg (by omega),if_neg (by omega),if_neg (by omega),if_neg (by omega),if_neg (by omega),if_neg (by omega),if_neg (by omega),if_neg (by omega),if_neg (by omega),if_neg (by omega),if_pos o] at a0;by_cases c1:v0=1
  ·rw[if_pos c1,P0b f0 y1] at a0;exact .inl ⟨c1,a0⟩
  ·rw[if_neg c1,P0b f0 z1] at a0;exact .inr ⟨by omega,a0⟩
def Hid(p:Prop):Prop:=p
theorem Hid.mk{p:Prop}(h:p):Hid p:=h
theorem Hid.out{p:Prop}(h:Hid p):p:=h
theorem S7a(n w:Int)(w0:World)(h0:0≤w)(h1:w≤8):M0a Tryz.prog 119 #[.int .i64 n,.int .i64 w] w0 fun v w'=>v=.int .i64 (s0b n (G3a w.toNat-1))∧Below w0.heap.size w0 w':=by
 have S:=St.refl w0;have hp:G3a w.toNat≤256:=by rw[a3a];have:=Nat.pow_le_pow_right (show 0<2 by omega) (show w.toNat≤8 by omega);omega
 have hq:=I7a w.toNat;refine a0a Tryz.func119 rfl Tryz.ntmps119 rfl ?_;refine wO0 rfl ⟨⟩ (g0a S E6a rfl rfl (R4a w _ (by omega) (by omega)) ?_);intro w7 S7 X7;exact lT rfl ⟨by omega,⟨⟩⟩ rfl ⟨rfl,S7.fin⟩
theorem S0c(l:List Int)(n:Int)(M:List Nat)(w0:World)(vl:Value)(h0:0≤n)(hL:RdI M w0 vl l):M0a Tryz.prog 120 #[vl,.int .i64 n] w0 fun v w'=>v=.int .i64 (l.getD n.toNat 0)∧Below w0.heap.size w0 w':=by
 obtain⟨_,_,_,rfl⟩:=hL.form;obtain⟨_,-,_⟩:=hL.len;have S:=St.refl w0;refine a0a Tryz.func120 rfl Tryz.ntmps120 rfl ?_;refine wB0 rfl ⟨⟩ (fun h8=>?_) fun h8=>?_
 ·obtain⟨x,e0,g0,_,f0,a0,_,_,b0,d0⟩:=RdS.get (hL) (n.toNat) (by omega);obtain⟨rfl,_⟩:=id d0;refine lR (S.k.a b0) [.x e0 g0,.f 0 0] rfl ⟨rfl,⟨a0,by omega⟩,⟨⟩⟩ (o0a rfl (by conv=>lhs;whnf) ?_);exact⟨by rw[getD_some f0],S.fin⟩
 refine lR0 rfl ⟨⟩ (o0a rfl (by conv=>lhs;whnf) ?_);exact⟨by rw[List.getD_eq_getElem?_getD,List.getElem?_eq_none (by omega)];rfl,S.fin⟩
theorem t8b(e:E)(v3:Int)(hg:e.good v3=true)(old i1:List Int)(Q3:¬e.op=2∧¬e.op=3)(M:List Nat)(w0:World)(cs:List Value)(va:Value)(hR:RdE M w0 e cs)(hV:RdI M w0 va (e.kids.map (E.val old i1))):
 M0a Tryz.prog 121 #[.agg cs.toArray,va] w0 fun v w'=>v=.int .i64 (e.val old i1)∧Below w0.heap.size w0 w':=by
 obtain⟨_,_,_,rfl,_,_,_,_,_⟩:=hR.cells;obtain⟨_,_,c,rfl⟩:=hV.form;obtain⟨u3,-,_⟩:=hV.len;have C2:=(U2a hg).1;have V3:=C2.1;have W3:=C2.2.1;have S3:=Q5a C2;have t3:=h2a e.op;have T3:G3a e.w.toNat≤256:=by rw[a3a];have:=Nat.pow_le_pow_right (show 0<2 by omega) (show e.w.toNat≤8 by omega);omega
 have U3:=I7a e.w.toNat;obtain⟨V,eV⟩:∃V,V=e.kids.map (E.val old i1):=⟨_,rfl⟩;have R3:V.length=e.kids.length:=by rw[eV,List.length_map]
 have z:=b1d hg old i1 rfl rfl rfl;rw[←eV] at hV z u3;obtain⟨z4,z5,z6,z7,zr,z8,z9,F2,v0,j1,m1,H2⟩:=z;have I2:5≤e.op∧e.op≤13→0≤V.getD 0 0*V.getD 1 0∧V.getD 0 0*V.getD 1 0≤65536:=fun h=>by
  obtain⟨y0,_,y2,_⟩:=zr h;exact⟨Int.mul_nonneg y0 y2,Int.mul_le_mul (c:=256) (d:=256) (by omega) (by omega) y2 (by omega)⟩
 replace z4:=Hid.mk z4;replace z5:=Hid.mk z5;replace z6:=Hid.mk z6;replace z7:=Hid.mk z7;replace zr:=Hid.mk zr;replace z8:=Hid.mk z8;replace z9:=Hid.mk z9;replace F2:=Hid.mk F2;replace v0:=Hid.mk v0;replace j1:=Hid.mk j1;replace m1:=Hid.mk m1;replace H2:=Hid.mk H2;replace I2:=Hid.mk I2;have S:=St.refl w0;refine a0a Tryz.func121 rfl Tryz.ntmps121 rfl ?_;refine wO0 rfl ⟨⟩ (h0a S (by conv=>lhs;whnf) rfl ?_);intro g2 w2 S2 X2 G2;refine lB S2.k [.o 0] rfl ⟨rfl,⟨⟩⟩ (fun h8=>?_) fun h8=>?_
 ·refine lR S2.k [.o 0] rfl ⟨rfl,⟨⟩⟩ (o0a rfl (by conv=>lhs;whnf) ?_);refine⟨congrArg (Value.int .i64) ?_,S2.fin⟩;rw[E.val_def,if_pos (by omega)];done
 refine lB0 rfl ⟨⟩ (fun i3=>?_) fun i3=>?_
 ·refine lC0 rfl ⟨⟩ (v0a b0a [0,1,2,3,4,5,6,7,8] [] [] (by kernel_rfl) rfl (Cl _ _ _ _) (Cl.start S2) ?_);refine qO S2.q [.o 0] rfl ⟨rfl,⟨⟩⟩ (r1a E6a rfl rfl (fun w1 S1 X1=>R4a e.w _ (by omega) (by omega)) ?_);obtain⟨x,P2,w3,_,d0,y1,_,_,O1,i2⟩:=RdS.get (hV) (0) (by omega);obtain⟨rfl,_⟩:=id i2;have ex:=getD_some (d:=0) d0;have K2:=z4.out (by omega);rw[ex] at K2;refine qN (S2.q.a O1) [.x P2 w3,.f 0 0] rfl ⟨by omega,rfl,⟨y1,by omega⟩,by omega,⟨⟩⟩ (V3a ?_);refine R1a ?_;rintro X3 ⟨L2,_⟩;refine lT rfl ⟨⟩ rfl ⟨congrArg (Value.int .i64) ?_,L2.fin⟩;rw[K2.2.2];done
 refine lB0 rfl ⟨⟩ (fun j3=>?_) fun j3=>?_
 ·refine lC0 rfl ⟨⟩ (v0a b0a [0,1,2,3,4,5,6,7] [] [] (by kernel_rfl) rfl (Cl _ _ _ _) (Cl.start S2) ?_);obtain⟨x,Q2,x3,_,d0,z1,_,_,P1,j2⟩:=RdS.get (hV) (0) (by omega);obtain⟨rfl,_⟩:=id j2;have ex:=getD_some (d:=0) d0;obtain⟨y,R2,y3,_,f0,A1,_,_,Q1,m2⟩:=RdS.get (hV) (1) (by omega);obtain⟨rfl,_⟩:=id m2;have ey:=getD_some (d:=0) f0;refine qN ((S2.q.a Q1).a P1) [.x Q2 x3,.f 0 0,.x R2 y3,.f 1 0] rfl ⟨rfl,⟨A1,by omega⟩,rfl,⟨z1,by omega⟩,⟨⟩⟩ (V3a ?_);refine R1a ?_;rintro Y3 ⟨N2,_⟩;refine lT rfl ⟨⟩ rfl ⟨congrArg (Value.int .i64) ?_,N2.fin⟩;rw[z5.out (by omega),ex,ey];done
 refine lB0 rfl ⟨⟩ (fun m3=>?_) fun m3=>?_
 ·refine lC0 rfl ⟨⟩ (v0a b0a [0,1,2,3,4,5,6,7] [] [] (by kernel_rfl) rfl (Cl _ _ _ _) (Cl.start S2) ?_);obtain⟨x,T2,z3,_,d0,B1,_,_,R1,n2⟩:=RdS.get (hV) (0) (by omega);obtain⟨rfl,_⟩:=id n2;have ex:=getD_some (d:=0) d0;obtain⟨y,U2,A3,_,f0,C1,_,_,T1,o2⟩:=RdS.get (hV) (1) (by omega);obtain⟨rfl,_⟩:=id o2;have ey:=getD_some (d:=0) f0;refine qN ((S2.q.a T1).a R1) [.x T2 z3,.f 0 0,.x U2 A3,.f 1 0] rfl ⟨rfl,⟨C1,by omega⟩,rfl,⟨B1,by omega⟩,⟨⟩⟩ (V3a ?_);refine R1a ?_;rintro Z3 ⟨O2,_⟩;refine lT rfl ⟨⟩ rfl ⟨congrArg (Value.int .i64) ?_,O2.fin⟩;rw[z6.out (by omega),ex,ey];done
 refine lB0 rfl ⟨⟩ (fun n3=>?_) fun n3=>?_
 ·refine lC0 rfl ⟨⟩ (v0a b0a [0,1,2,3,4,5,6,7] [] [] (by kernel_rfl) rfl (Cl _ _ _ _) (Cl.start S2) ?_);obtain⟨x,V2,B3,_,d0,D1,_,_,U1,p2⟩:=RdS.get (hV) (0) (by omega);obtain⟨rfl,_⟩:=id p2;have ex:=getD_some (d:=0) d0;obtain⟨y,W2,C3,_,f0,E1,_,_,V1,r2⟩:=RdS.get (hV) (1) (by omega);obtain⟨rfl,_⟩:=id r2;have ey:=getD_some (d:=0) f0;refine qN ((S2.q.a V1).a U1) [.x V2 B3,.f 0 0,.x W2 C3,.f 1 0] rfl ⟨rfl,⟨E1,by omega⟩,rfl,⟨D1,by omega⟩,⟨⟩⟩ (V3a ?_);refine R1a ?_;rintro L3 ⟨n1,_⟩;refine lT rfl ⟨⟩ rfl ⟨congrArg (Value.int .i64) ?_,n1.fin⟩;rw[z7.out (by omega),ex,ey];done
 refine lB0 rfl ⟨⟩ (fun o3=>?_) fun o3=>?_
 ·refine lC0 rfl ⟨⟩ (v0a b0a [0,1,2,3,4,5,6,7,8,9,10] [] [] (by kernel_rfl) rfl (Cl _ _ _ _) (Cl.start S2) ?_);obtain⟨x,Y2,D3,_,d0,F1,_,_,W1,s2⟩:=RdS.get (hV) (0) (by omega);obtain⟨rfl,_⟩:=id s2;have ex:=getD_some (d:=0) d0;obtain⟨y,Z2,E3,_,f0,G1,_,_,Y1,t2⟩:=RdS.get (hV) (1) (by omega);obtain⟨rfl,_⟩:=id t2;have ey:=getD_some (d:=0) f0;have J2:=zr.out (by omega);rw[ex,ey] at J2;refine qO ((S2.q.a Y1).a W1) [.x Y2 D3,.f 0 0,.x Z2 E3,.f 1 0,.o 0] rfl ⟨rfl,by omega,rfl,⟨G1,by omega⟩,rfl,⟨F1,by omega⟩,⟨⟩⟩ (r1a X9a rfl rfl (fun w1 S1 X1=>S7a _ e.w _ (by omega) (by omega)) ?_);refine qD rfl ⟨⟩ ?_;rintro M3 ⟨o1,_⟩;refine lT rfl ⟨⟩ rfl ⟨congrArg (Value.int .i64) ?_,o1.fin⟩;rw[z8.out (by omega),ex,ey];done
 refine lB0 rfl ⟨⟩ (fun p3=>?_) fun p3=>?_
 ·refine lC0 rfl ⟨⟩ (v0a b0a [0,1,2,3,4,5,6,7,8,9,10,11,12,13,14] [] [] (by kernel_rfl) rfl (Cl _ _ _ _) (Cl.start S2) ?_);obtain⟨x,a3,F3,_,d0,H1,_,_,Z1,u2⟩:=RdS.get (hV) (0) (by omega);obtain⟨rfl,_⟩:=id u2;have ex:=getD_some (d:=0) d0;obtain⟨y,b3,G3,_,f0,I1,_,_,a2,v2⟩:=RdS.get (hV) (1) (by omega);obtain⟨rfl,_⟩:=id v2;have ey:=getD_some (d:=0) f0;have J2:=zr.out (by omega);rw[ex,ey] at J2;refine qO ((S2.q.a a2).a Z1) [.x a3 F3,.f 0 0,.x b3 G3,.f 1 0,.o 0] rfl ⟨rfl,by omega,rfl,⟨I1,by omega⟩,rfl,⟨H1,by omega⟩,⟨⟩⟩ (r1a E6a rfl rfl (fun w1 S1 X1=>R4a e.w _ (by omega) (by omega)) ?_);refine qO S2.q [.o 0] rfl ⟨rfl,by omega,⟨⟩⟩ (r1a X9a rfl rfl (fun w1 S1 X1=>S7a _ e.w _ (by omega) (by omega)) ?_);refine qD rfl ⟨⟩ ?_;rintro N3 ⟨p1,_⟩;refine lT rfl ⟨⟩ rfl ⟨congrArg (Value.int .i64) ?_,p1.fin⟩;rw[z9.out (by omega),ex,ey];done
 refine lB0 rfl ⟨⟩ (fun q3=>?_) fun q3=>?_
 ·refine lC0 rfl ⟨⟩ (v0a b0a [0,1,2,3,4,5,6,7,8,9,10] [] [] (by kernel_rfl) rfl (Cl _ _ _ _) (Cl.start S2) ?_);obtain⟨x,d3,H3,_,d0,J1,_,_,b2,x2⟩:=RdS.get (hV) (0) (by omega);obtain⟨rfl,_⟩:=id x2;have ex:=getD_some (d:=0) d0;obtain⟨y,e3,I3,_,f0,K1,_,_,d2,z2⟩:=RdS.get (hV) (1) (by omega);obtain⟨rfl,_⟩:=id z2;have ey:=getD_some (d:=0) f0;have P3:=I2.out (by omega);rw[ex,ey] at P3;refine qO ((S2.q.a d2).a b2) [.x d3 H3,.f 0 0,.x e3 I3,.f 1 0,.o 0] rfl ⟨rfl,by omega,rfl,⟨K1,by omega⟩,rfl,⟨J1,by omega⟩,⟨⟩⟩ (r1a X9a rfl rfl (fun w1 S1 X1=>S7a _ e.w _ (by omega) (by omega)) ?_);refine qD rfl ⟨⟩ ?_;rintro O3 ⟨r1,_⟩;refine lT rfl ⟨⟩ rfl ⟨congrArg (Value.int .i64) ?_,r1.fin⟩;rw[F2.out (by omega),ex,ey];done
 refine lB0 rfl ⟨⟩ (fun r3=>?_) fun r3=>?_
 ·obtain⟨x,g3,J3,_,d0,M1,_,_,f2,A2⟩:=RdS.get (hV) (0) (by omega);obtain⟨rfl,_⟩:=id A2;have ex:=getD_some (d:=0) d0;have h1:=H2.out (by omega);rw[ex] at h1;obtain⟨y,h3,K3,_,f0,N1,_,_,h2,B2⟩:=RdS.get (hV) ((2-x).toNat) (by omega);obtain⟨rfl,_⟩:=id B2;have ey:=getD_some (d:=0) f0;refine lR ((S2.k.a h2).a f2) [.x g3 J3,.f 0 0,.x h3 K3,.f 1 0] rfl ⟨rfl,⟨N1,by omega⟩,by omega,rfl,⟨M1,by omega⟩,⟨⟩⟩ (o0a rfl (by conv=>lhs;whnf) ?_);refine⟨congrArg (Value.int .i64) ?_,S2.fin⟩;rcases h1 with⟨q1,q2⟩|⟨q1,q2⟩
  ·rw[q2,←ey,q1];rfl
  ·rw[q2,←ey,q1];rfl
 refine lC0 rfl ⟨⟩ (v0a b0a [0,1,2,3,4,5,6,7,8,9,10,11,12,13,14,15,16,17,18,19,20,21,22,23,24,25,26,27,28,29,30,31,32,33,34,35,36,37,38,39] [] [] (by kernel_rfl) rfl (Cl _ _ _ _) (Cl.start S2) ?_);refine qB S2.q [.o 0] rfl ⟨rfl,⟨⟩⟩ (fun s3=>?_) fun s3=>?_
 ·obtain⟨x,s1,D2,_,d0,T0,_,_,X0,b1⟩:=RdS.get (hV) (0) (by omega);obtain⟨rfl,_⟩:=id b1;have ex:=getD_some (d:=0) d0;obtain⟨y,t1,E2,_,f0,U0,_,_,Y0,d1⟩:=RdS.get (hV) (1) (by omega);obtain⟨rfl,_⟩:=id d1;have ey:=getD_some (d:=0) f0;refine qB ((S2.q.a Y0).a X0) [.x s1 D2,.f 0 0,.x t1 E2,.f 1 0] rfl ⟨rfl,⟨U0,by omega⟩,rfl,⟨T0,by omega⟩,⟨⟩⟩ (fun x1=>?_) fun x1=>?_
  ·refine qD rfl ⟨⟩ ?_;rintro e0 ⟨a0,b0⟩;refine lT rfl ⟨⟩ rfl ⟨congrArg (Value.int .i64) ?_,a0.fin⟩;rw[v0.out (by omega),ex,ey,if_pos (by omega)];done
  refine qB S2.q [.o 0] rfl ⟨rfl,⟨⟩⟩ (fun P0=>?_) fun P0=>?_
  ·obtain⟨x,K0,R0,u1,d0,x0,V0,Z0,C0,G0⟩:=RdS.get (hV) (0) (by omega);obtain⟨rfl,f1⟩:=id G0;have ex:=getD_some (d:=0) d0;obtain⟨y,L0,S0,v1,f0,z0,W0,a1,D0,H0⟩:=RdS.get (hV) (1) (by omega);obtain⟨rfl,g1⟩:=id H0;have ey:=getD_some (d:=0) f0;refine qB ((S2.q.a D0).a C0) [.x K0 R0,.f 0 0,.x L0 S0,.f 1 0] rfl ⟨rfl,⟨z0,by omega⟩,rfl,⟨x0,by omega⟩,⟨⟩⟩ (fun Q0=>?_) fun Q0=>?_
   ·refine qD rfl ⟨⟩ ?_;rintro e0 ⟨a0,b0⟩;refine lT rfl ⟨⟩ rfl ⟨congrArg (Value.int .i64) ?_,a0.fin⟩;rw[v0.out (by omega),ex,ey,if_pos (by omega)];done
   refine qB S2.q [.o 0] rfl ⟨rfl,⟨⟩⟩ (fun r0=>?_) fun r0=>?_
   ·obtain⟨x,p0,t0,N0,d0,g0,A0,E0,i0,n0⟩:=RdS.get (hV) (0) (by omega);obtain⟨rfl,I0⟩:=id n0;have ex:=getD_some (d:=0) d0;obtain⟨y,q0,u0,O0,f0,h0,B0,F0,j0,o0⟩:=RdS.get (hV) (1) (by omega);obtain⟨rfl,J0⟩:=id o0;have ey:=getD_some (d:=0) f0;refine qB ((S2.q.a j0).a i0) [.x p0 t0,.f 0 0,.x q0 u0,.f 1 0] rfl ⟨rfl,⟨h0,by omega⟩,rfl,⟨g0,by omega⟩,⟨⟩⟩ (fun s0=>?_) fun s0=>?_
    ·refine qD rfl ⟨⟩ ?_;rintro e0 ⟨a0,b0⟩;refine lT rfl ⟨⟩ rfl ⟨congrArg (Value.int .i64) ?_,a0.fin⟩;rw[v0.out (by omega),ex,ey,if_pos (by omega)];done
    refine qD rfl ⟨⟩ ?_;rintro e0 ⟨a0,b0⟩;refine lT rfl ⟨⟩ rfl ⟨congrArg (Value.int .i64) ?_,a0.fin⟩;rw[v0.out (by omega),ex,ey,if_neg (by omega)];done
   refine qD rfl ⟨⟩ ?_;rintro e0 ⟨a0,b0⟩;refine lT rfl ⟨⟩ rfl ⟨congrArg (Value.int .i64) ?_,a0.fin⟩;rw[v0.out (by omega),ex,ey,if_neg (by omega)];done
  refine qB S2.q [.o 0] rfl ⟨rfl,⟨⟩⟩ (fun r0=>?_) fun r0=>?_
  ·obtain⟨x,p0,t0,N0,d0,g0,A0,E0,i0,n0⟩:=RdS.get (hV) (0) (by omega);obtain⟨rfl,I0⟩:=id n0;have ex:=getD_some (d:=0) d0;obtain⟨y,q0,u0,O0,f0,h0,B0,F0,j0,o0⟩:=RdS.get (hV) (1) (by omega);obtain⟨rfl,J0⟩:=id o0;have ey:=getD_some (d:=0) f0;refine qB ((S2.q.a j0).a i0) [.x p0 t0,.f 0 0,.x q0 u0,.f 1 0] rfl ⟨rfl,⟨h0,by omega⟩,rfl,⟨g0,by omega⟩,⟨⟩⟩ (fun s0=>?_) fun s0=>?_
   ·refine qD rfl ⟨⟩ ?_;rintro e0 ⟨a0,b0⟩;refine lT rfl ⟨⟩ rfl ⟨congrArg (Value.int .i64) ?_,a0.fin⟩;rw[v0.out (by omega),ex,ey,if_pos (by omega)];done
   refine qD rfl ⟨⟩ ?_;rintro e0 ⟨a0,b0⟩;refine lT rfl ⟨⟩ rfl ⟨congrArg (Value.int .i64) ?_,a0.fin⟩;rw[v0.out (by omega),ex,ey,if_neg (by omega)];done
  refine qD rfl ⟨⟩ ?_;rintro e0 ⟨a0,b0⟩;refine lT rfl ⟨⟩ rfl ⟨congrArg (Value.int .i64) ?_,a0.fin⟩;rw[v0.out (by omega),ex,ey,if_neg (by omega)];done
 refine qB S2.q [.o 0] rfl ⟨rfl,⟨⟩⟩ (fun P0=>?_) fun P0=>?_
 ·obtain⟨x,K0,R0,u1,d0,x0,V0,Z0,C0,G0⟩:=RdS.get (hV) (0) (by omega);obtain⟨rfl,f1⟩:=id G0;have ex:=getD_some (d:=0) d0;obtain⟨y,L0,S0,v1,f0,z0,W0,a1,D0,H0⟩:=RdS.get (hV) (1) (by omega);obtain⟨rfl,g1⟩:=id H0;have ey:=getD_some (d:=0) f0;refine qB ((S2.q.a D0).a C0) [.x K0 R0,.f 0 0,.x L0 S0,.f 1 0] rfl ⟨rfl,⟨z0,by omega⟩,rfl,⟨x0,by omega⟩,⟨⟩⟩ (fun Q0=>?_) fun Q0=>?_
  ·refine qD rfl ⟨⟩ ?_;rintro e0 ⟨a0,b0⟩;refine lT rfl ⟨⟩ rfl ⟨congrArg (Value.int .i64) ?_,a0.fin⟩;rw[j1.out (by omega),ex,ey,if_pos (by omega)];done
  refine qB S2.q [.o 0] rfl ⟨rfl,⟨⟩⟩ (fun r0=>?_) fun r0=>?_
  ·obtain⟨x,p0,t0,N0,d0,g0,A0,E0,i0,n0⟩:=RdS.get (hV) (0) (by omega);obtain⟨rfl,I0⟩:=id n0;have ex:=getD_some (d:=0) d0;obtain⟨y,q0,u0,O0,f0,h0,B0,F0,j0,o0⟩:=RdS.get (hV) (1) (by omega);obtain⟨rfl,J0⟩:=id o0;have ey:=getD_some (d:=0) f0;refine qB ((S2.q.a j0).a i0) [.x p0 t0,.f 0 0,.x q0 u0,.f 1 0] rfl ⟨rfl,⟨h0,by omega⟩,rfl,⟨g0,by omega⟩,⟨⟩⟩ (fun s0=>?_) fun s0=>?_
   ·refine qD rfl ⟨⟩ ?_;rintro e0 ⟨a0,b0⟩;refine lT rfl ⟨⟩ rfl ⟨congrArg (Value.int .i64) ?_,a0.fin⟩;rw[v0.out (by omega),ex,ey,if_pos (by omega)];done
   refine qD rfl ⟨⟩ ?_;rintro e0 ⟨a0,b0⟩;refine lT rfl ⟨⟩ rfl ⟨congrArg (Value.int .i64) ?_,a0.fin⟩;rw[v0.out (by omega),ex,ey,if_neg (by omega)];done
  refine qD rfl ⟨⟩ ?_;rintro e0 ⟨a0,b0⟩;refine lT rfl ⟨⟩ rfl ⟨congrArg (Value.int .i64) ?_,a0.fin⟩;rw[j1.out (by omega),ex,ey,if_neg (by omega)];done
 refine qB S2.q [.o 0] rfl ⟨rfl,⟨⟩⟩ (fun r0=>?_) fun r0=>?_
 ·obtain⟨x,p0,t0,N0,d0,g0,A0,E0,i0,n0⟩:=RdS.get (hV) (0) (by omega);obtain⟨rfl,I0⟩:=id n0;have ex:=getD_some (d:=0) d0;obtain⟨y,q0,u0,O0,f0,h0,B0,F0,j0,o0⟩:=RdS.get (hV) (1) (by omega);obtain⟨rfl,J0⟩:=id o0;have ey:=getD_some (d:=0) f0;refine qB ((S2.q.a j0).a i0) [.x p0 t0,.f 0 0,.x q0 u0,.f 1 0] rfl ⟨rfl,⟨h0,by omega⟩,rfl,⟨g0,by omega⟩,⟨⟩⟩ (fun s0=>?_) fun s0=>?_
  ·refine qD rfl ⟨⟩ ?_;rintro e0 ⟨a0,b0⟩;refine lT rfl ⟨⟩ rfl ⟨congrArg (Value.int .i64) ?_,a0.fin⟩;rw[m1.out (by omega),ex,ey,if_pos (by omega)];done
  refine qD rfl ⟨⟩ ?_;rintro e0 ⟨a0,b0⟩;refine lT rfl ⟨⟩ rfl ⟨congrArg (Value.int .i64) ?_,a0.fin⟩;rw[m1.out (by omega),ex,ey,if_neg (by omega)];done
 refine qD rfl ⟨⟩ ?_;rintro e0 ⟨a0,b0⟩;refine lT rfl ⟨⟩ rfl ⟨congrArg (Value.int .i64) ?_,a0.fin⟩;exfalso;omega
theorem q8b:∀(e:E) (M:List Nat) (w0:World) (cs:List Value) (vo vn:Value) (old a0:List Int) (q0:Int),RdE M w0 e cs→RdI M w0 vo old→RdI M w0 vn a0→e.good q0=true →
 M0a Tryz.prog 82 #[.agg cs.toArray,vo,vn] w0 fun v w'=>v=.int .i64 (e.val old a0)∧Below w0.heap.size w0 w':=by
 intro e
 induction e using E.induct with
 | _ e ih =>
 intro M w0 cs vo vn old a0 q0 hR hO hN hg;obtain⟨Ae,ne,ce,rfl,_,_,_,_,_⟩:=hR.cells;obtain⟨Ao,no,co,rfl⟩:=hO.form;obtain⟨An,nn,cn,rfl⟩:=hN.form;have g0:=(U2a hg).1;have F0:=(U2a hg).2;have G0:=hR.kidsRd;have W0:=g0.1;have X0:=g0.2.1;have S0:=Q5a g0;have E0:=h2a e.op;have T0:(e.op=3∨e.op=2)→0≤e.n∧e.n<32:=fun h=>by
  have:=(f5a (by omega)).1 g0;omega
 have f0:=E.val_def old a0 e;obtain⟨V,eV⟩:∃V,V=e.kids.map (E.val old a0):=⟨_,rfl⟩;have R0:V.length=e.kids.length:=by rw[eV,List.length_map]
 have S:=(St.refl w0).nilEnt 3;refine a0a Tryz.func82 rfl Tryz.ntmps82 rfl ?_;refine wO0 rfl ⟨⟩ (h0a S (by conv=>lhs;whnf) rfl ?_);intro g3 w3 S3 X3 G3;refine lB S3.k [.o 0] rfl ⟨rfl,⟨⟩⟩ (fun A0=>?_) fun A0=>?_
 ·refine lC0 rfl ⟨⟩ (v0a b0a [0,1,2,3,4,5,6,7] [] [] (by kernel_rfl) rfl (Cl _ _ _ _) (Cl.start S3) ?_);refine h1a (by conv=>lhs;whnf) rfl ?_;refine qO S3.q [.o 0] rfl ⟨rfl,⟨⟩⟩ (r1a h0c rfl rfl (fun w1 S1 X1=>S0c a0 e.n M _ _ (by omega) (hN.keep (S1.keep0 M))) ?_);refine qO S3.q [.o 0] rfl ⟨rfl,⟨⟩⟩ (r1a X9a rfl rfl (fun w1 S1 X1=>S7a _ e.w _ (by omega) (by omega)) ?_);refine qD rfl ⟨⟩ ?_;rintro g1 ⟨v0,_⟩;refine lR0 rfl ⟨⟩ (o0a rfl (by conv=>lhs;whnf) ?_);exact⟨by rw[f0,if_neg (by omega),if_pos (by omega)],v0.fin⟩
 refine lB S3.k [.o 0] rfl ⟨rfl,⟨⟩⟩ (fun B0=>?_) fun B0=>?_
 ·refine lC0 rfl ⟨⟩ (v0a b0a [0,1,2,3,4,5,6,7] [] [] (by kernel_rfl) rfl (Cl _ _ _ _) (Cl.start S3) ?_);refine h1a (by conv=>lhs;whnf) rfl ?_;refine qO S3.q [.o 0] rfl ⟨rfl,⟨⟩⟩ (r1a h0c rfl rfl (fun w1 S1 X1=>S0c old e.n M _ _ (by omega) (hO.keep (S1.keep0 M))) ?_);refine qO S3.q [.o 0] rfl ⟨rfl,⟨⟩⟩ (r1a X9a rfl rfl (fun w1 S1 X1=>S7a _ e.w _ (by omega) (by omega)) ?_);refine qD rfl ⟨⟩ ?_;rintro h1 ⟨x0,_⟩;refine lR0 rfl ⟨⟩ (o0a rfl (by conv=>lhs;whnf) ?_);exact⟨by rw[f0,if_neg (by omega),if_neg (by omega),if_pos (by omega)],x0.fin⟩
 refine lC0 rfl ⟨⟩ (wL (fun μk D ε w=>D=[]∧∃k:Nat,∃G:Option Nat,∃h0:List Value,∃v:Value,(k+μk=(e.kids.length))∧(B1a (fun _ _=>P2c) 1 [] w0 G h0 v (V.take k))∧St [] w0 w [(some g3,68,[.int .i64 e.op,.int .i64 e.w,.int .i64 e.n,.slice Ae ne ce]),(G,3,h0)]∧Sl ε [(1,.slice Ao no co),(2,.slice An nn cn),(3,.pointer (some ⟨g3,0,none⟩)),(7,v),(8,.int .i64 k)]) (μ:=(e.kids.length)) ⟨rfl,0,none,[],.slice none 0 0,by omega,B1a.nil,S3,rfl⟩ ?_);rintro μk D ε w ⟨rfl,k,G,h0,v,_,e0,S,eZ⟩;refine wK eZ (wB S.k [.o 0] rfl ⟨rfl,⟨⟩⟩ (fun C0=>?_) fun C0=>?_)
 ·refine lOn 8 S.k [] rfl ⟨⟩ (Z0a (by conv=>lhs;whnf) rfl ?_);obtain⟨x,y0,H0,_,p0,i0,_,o0,j0,d0⟩:=RdS.get (G0) (k) (by omega);obtain⟨_,_,_,rfl,_,_,_,_,_⟩:=RdE.cells d0;have n0:=F0 x (c0a p0);have V0:=W9a n0 old a0;have Y0:=(U2a n0).1.2.1;have U0:G3a x.w.toNat≤256:=by rw[a3a];have:=Nat.pow_le_pow_right (show 0<2 by omega) (show x.w.toNat≤8 by omega);omega
  have D0:V[k]?=some (x.val old a0):=by rw[eV,List.getElem?_map,p0];rfl
  refine lO (S.k.a j0) [.o 0,.x y0 H0,.v 0] rfl ⟨⟨rfl,o0⟩,⟨i0,by omega⟩,rfl,⟨⟩⟩ (g0a S L4c rfl rfl (ih x (c0a p0) M _ _ _ _ old a0 _ (RdE.keep (S.keep0 M) _ _ d0) (hO.keep (S.keep0 M)) (hN.keep (S.keep0 M)) n0) ?_);intro a1 s0 L0;refine u0a s0 O0a (vs:=[.int .i64 _]) (cs:=[_]) (by rfl) rfl rfl rfl rfl rfl rfl ?_;intro Q0 b1 r0 N0 J0;refine Y0a Z2a (k:=2) (M2:=[]) (e1:=x.val old a0) r0 O0a (by decide) rfl e0 rfl rfl (r0.cells 0 rfl) ⟨rfl,by unfold i64;omega⟩ (by rw[List.length_take];omega) rfl ?_;intro Z0 K0 z0 d1 t0 b0 O0 I0;refine P0a (by conv=>lhs;whnf) rfl ?_;refine lP0 rfl ⟨by omega,⟨⟩⟩ ?_;refine⟨μk-1,by omega,rfl,(k+1),(_),(_),(_),(by omega),((by rw[H0a D0];exact b0)),t0.tail,rfl⟩
 refine lOn 8 S.k [.w 0] rfl ⟨⟨rfl,rfl⟩,⟨⟩⟩ (Z0a (by conv=>lhs;whnf) rfl ?_);refine g0a S N6c rfl rfl (t8b e q0 hg old a0 ⟨by omega,by omega⟩ [] _ _ _ ((RdE.less (fun g hg=>by cases hg) _ _ (RdE.keep (S.keep0 M) _ _ hR))) (by rw[←eV];have z:=B1a.rd Z2a (M:=[]) (w:=w) e0 S (k:=1) rfl (fun g hg=>by simp) (by rw[List.length_take];omega);rwa [List.take_of_length_le (by omega)] at z)) ?_;intro f1 u0 P0;exact lT rfl ⟨⟩ rfl ⟨rfl,u0.fin⟩
theorem R0b(e:E)(M:List Nat)(w0:World)(cs:List Value)(vo vn:Value)(old a0:List Int)(hR:RdE M w0 e cs)(hO:RdI M w0 vo old)(hN:RdI M w0 vn a0):
 M0a Tryz.prog 46 #[.agg cs.toArray,vo,vn] w0 fun v w'=>v=.int .i64 (e.evl old a0)∧Below w0.heap.size w0 w':=by
 obtain⟨_,_,_,rfl,_,_,_,_,_⟩:=hR.cells;obtain⟨_,_,_,rfl⟩:=hO.form;obtain⟨_,_,_,rfl⟩:=hN.form;have S:=St.refl w0;refine a0a Tryz.func46 rfl Tryz.ntmps46 rfl ?_;refine wO0 rfl ⟨⟩ (h0a S (by conv=>lhs;whnf) rfl ?_);intro g3 w3 S3 X3 G3;refine lO S3.k [.w 0] rfl ⟨⟨rfl,rfl⟩,⟨⟩⟩ (C0a S3 A4b rfl rfl (E7a _ M _ _ (RdE.keep (S3.keep0 M) _ _ hR)) (fun h8 w8 S8 X8=>?_) (fun h8 w8 S8 X8=>?_))
 ·refine lO S8.k [.w 0] rfl ⟨⟨rfl,rfl⟩,⟨⟩⟩ (g0a S8 L4c rfl rfl (q8b e M _ _ _ _ old a0 40 (RdE.keep (S8.keep0 M) _ _ hR) (hO.keep (S8.keep0 M)) (hN.keep (S8.keep0 M)) (s2b h8)) ?_);intro e0 b0 d0;refine lR0 rfl ⟨⟩ (o0a rfl (by conv=>lhs;whnf) ?_);exact⟨by unfold E.evl;rw[if_pos h8],b0.fin⟩
 refine lR0 rfl ⟨⟩ (o0a rfl (by conv=>lhs;whnf) ?_);exact⟨by unfold E.evl;rw[if_neg (by rw[h8];exact Bool.false_ne_true)],S8.fin⟩
theorem B1a.newRow{M:List Nat}{w0 w1 w:World}{L:List Ent}{k el:Nat}{G:Option Nat}{cs:List Value}{v:Value}{l:List Int}(h:B1a (fun _ _=>P2c) 1 M w1 G cs v l)(S:St [] w0 w L)(hk:L[k]?=some (G,el,cs)):x6a el w0 w v l:=by
 obtain⟨css,h1,_,h3,h4⟩:=h;have e1:css.flatten=l.map (Value.int .i64):=by
  have key:∀(css:List (List Value)) (l:List Int),css.length=l.length→(∀(i:Nat) (x:Int),l[i]?=some x→∃c,css[i]?=some c∧P2c c x)→css.flatten=l.map (Value.int .i64):=by
   intro css
   induction css with
   | nil=>intro l hl _;cases l with
     | nil=>rfl
     | cons=>simp at hl
   | cons c css ih =>
     intro l hl hx;cases l with
     | nil=>simp at hl
     | cons x l =>
       obtain⟨_,hc,hr⟩:=hx 0 x rfl;simp at hc;subst hc;rw[List.flatten_cons,hr.1,ih l (by simpa using hl) (fun i y hy=>by simpa using hx (i+1) y (by simpa using hy))];rfl
  exact key css l h1 h4
 rw[e1] at h3;refine⟨G,cs,h3,fun g hg=>?_⟩;subst hg;exact⟨by simpa using S.new k hk,S.blk k hk⟩
theorem f7b{p:f0a}(hp:d1a p):y2b p where
 cells c hc:=by have:=(hp.cells c hc).name.2.1;omega
 mods m hm:=by have h1:=(hp.modules m hm).name.2.1;have h2:=(hp.modules m hm).owner.2.1;omega
 threads t ht:=by
  obtain⟨i,hi,rfl⟩:=List.getElem_of_mem ht;have:=(hp.threads i hi).name.2.1;omega
theorem h6a(l:List Int)(M:List Nat)(w0:World)(v:Value)(hL:RdI M w0 v l)(hl:l.length≤1000000):M0a Tryz.prog 80 #[v] w0 fun v w'=>x6a 3 w0 w' v l∧Below w0.heap.size w0 w':=by
 obtain⟨A,nl,c,rfl⟩:=hL.form;obtain⟨_,-,_⟩:=hL.len;have S:=(St.refl w0).nilEnt 3;refine a0a Tryz.func80 rfl Tryz.ntmps80 rfl ?_;refine wC0 rfl ⟨⟩ (wL (fun μk D ε w=>D=[]∧∃k:Nat,∃G:Option Nat,∃d0:List Value,∃v:Value,(k+μk=(l.length))∧(B1a (fun _ _=>P2c) 1 [] w0 G d0 v (l.take k))∧St [] w0 w [(G,3,d0)]∧Sl ε [(0,.slice A nl c),(3,v),(4,.int .i64 k)]) (μ:=(l.length)) ⟨rfl,0,none,[],.slice none 0 0,by omega,B1a.nil,S,rfl⟩ ?_);rintro μk D ε w ⟨rfl,k,G,d0,v,_,a0,S,eZ⟩;refine wK eZ (wB0 rfl ⟨⟩ (fun h8=>?_) fun h8=>?_)
 ·refine lOn 8 S.k [] rfl ⟨⟩ (Z0a (by conv=>lhs;whnf) rfl ?_);obtain⟨y,n0,q0,_,p0,e0,_,_,f0,g0⟩:=RdS.get (hL) (k) (by omega);obtain⟨rfl,h0⟩:=id g0;refine lO (S.k.a f0) [.x n0 q0,.f 0 0] rfl ⟨rfl,⟨e0,by omega⟩,⟨⟩⟩ (u0a S O0a (vs:=[.int .i64 _]) (cs:=[_]) (by rfl) rfl rfl rfl rfl rfl rfl ?_);intro x0 z0 i0 u0 s0;refine Y0a Z2a (k:=1) (M2:=[]) (e1:=y) i0 O0a (by decide) rfl a0 rfl rfl (i0.cells 0 rfl) ⟨rfl,h0⟩ (by rw[List.length_take];omega) rfl ?_;intro y0 t0 o0 A0 j0 b0 v0 r0;refine P0a (by conv=>lhs;whnf) rfl ?_;refine lP0 rfl ⟨by omega,⟨⟩⟩ ?_;refine⟨μk-1,by omega,rfl,(k+1),(_),(_),(_),(by omega),((by rw[H0a p0];exact b0)),j0.tail,rfl⟩
 refine lOn 7 S.k [] rfl ⟨⟩ (Z0a (by conv=>lhs;whnf) rfl ?_);refine P0a (by conv=>lhs;whnf) rfl ?_;refine lR0 rfl ⟨⟩ (o0a rfl (by conv=>lhs;whnf) ?_);exact⟨B1a.newRow (k:=0) (by rw[List.take_of_length_le (by omega)] at a0;exact a0) S rfl,S.fin⟩
theorem R2c(l:List A0a)(a:A0a)(M:List Nat)(w0:World)(va:Value)(hA:Q8b M w0 va l):
 M0a Tryz.prog 41 #[va,.agg #[.int .i64 a.thread,.int .i64 a.step,.int .i64 a.cell]] w0 fun v w'=>v=.bool (decide (a∈l))∧Below w0.heap.size w0 w':=by
 obtain⟨Aa,na,ca,rfl⟩:=hA.form;obtain⟨_,-,_⟩:=hA.len;have S:=St.refl w0;refine a0a Tryz.func41 rfl Tryz.ntmps41 rfl ?_;refine wO0 rfl ⟨⟩ (h0a S (by conv=>lhs;whnf) rfl ?_);intro g3 w3 S3 X3 G3;refine lC0 rfl ⟨⟩ (wL (fun μk D ε w=>D=[]∧∃k:Nat,(k+μk=(l.length))∧(o1a (l) k (fun x=>a≠x))∧St [] w0 w [(some g3,44,[.int .i64 a.thread,.int .i64 a.step,.int .i64 a.cell])]∧Sl ε [(0,.slice Aa na ca),(3,.pointer (some ⟨g3,0,none⟩)),(5,.int .i64 k)]) (μ:=(l.length)) ⟨rfl,0,by omega,o1a.zero,S3,rfl⟩ ?_);rintro μk D ε w ⟨rfl,k,_,hn,S,eZ⟩;refine wK eZ (wB0 rfl ⟨⟩ (fun h9=>?_) fun h9=>?_)
 ·refine lC0 rfl ⟨⟩ (v0a b0a [0,1,2,3,4,5] [] [] (by kernel_rfl) rfl (Cl _ _ _ _) (Cl.start S) ?_);obtain⟨x,j0,n0,_,h0,d0,_,f0,e0,g0⟩:=RdS.get (hA) (k) (by omega);obtain⟨rfl,_,_,_⟩:=id g0;refine qOn 5 (S.q.a e0) [.x j0 n0,.v 0,.w 0] rfl ⟨⟨rfl,rfl⟩,⟨rfl,f0⟩,⟨d0,by omega⟩,⟨⟩⟩ (f9c Z9a rfl rfl rfl (fun b0=>?_) fun b0=>?_)
  ·refine qD rfl ⟨⟩ ?_;rintro o0 ⟨a0,i0⟩;exact lT rfl ⟨⟩ rfl ⟨congrArg Value.bool (Eq.symm (decide_eq_true (A0a.ext' b0▸c0a h0))),a0.fin⟩
  refine qD rfl ⟨⟩ ?_;rintro o0 ⟨a0,i0⟩;refine lP0 rfl ⟨by omega,⟨⟩⟩ ?_;refine⟨μk-1,by omega,rfl,(k+1),(by omega),(hn.succ h0 (fun e=>b0 (by rw[←e];exact⟨rfl,rfl,rfl⟩))),a0,rfl⟩
 refine lR0 rfl ⟨⟩ (o0a rfl (by conv=>lhs;whnf) ?_);exact⟨by rw[decide_eq_false (fun hh=>hn.all (by omega) a hh rfl)],S.fin⟩
theorem x0c(p:f0a)(c:q0a)(t:Nat)(th:X0a)(x:Int)(M:List Nat)(w0:World)(cs xs:List Value)(hP:q1a M w0 p cs)(hX:t0a M w0 c xs)(ht:p.threads[t]?=some th)(hx:c.at_[t]?=some x)(h1:1≤th.points∧th.points≤48):
 M0a Tryz.prog 77 #[.agg cs.toArray,.agg xs.toArray,.int .i64 t] w0 fun v w'=>v=.bool (decide (x=th.points-1))∧Below w0.heap.size w0 w':=by
 obtain⟨_,_,_,_,_,_,_,_,_,_,_,_,rfl,_,_,_,q0,_,_,_,_,_,_,_,_⟩:=hP.open_;obtain⟨_,_,_,_,_,_,_,_,_,rfl,_,p0,_,_,_,_,_,_,_⟩:=hX.open_;have l1:=u1a ht;have l2:=u1a hx;have S:=St.refl w0;refine a0a Tryz.func77 rfl Tryz.ntmps77 rfl ?_;refine wO0 rfl ⟨⟩ (h0a S (by conv=>lhs;whnf) rfl ?_);intro g3 w3 S3 X3 G3;refine h0a S3 (by conv=>lhs;whnf) rfl ?_;intro g4 w4 S4 X4 G4;refine lC0 rfl ⟨⟩ (v0a b0a [0,1,2,3,4,5,6,7,8,9,10,11,12,13] [] [] (by kernel_rfl) rfl (Cl _ _ _ _) (Cl.start S4) ?_);obtain⟨_,j0,t0,_,s0,b0,_,_,e0,g0⟩:=RdS.get (p0) (t) (by omega);obtain⟨rfl,_⟩:=id g0;obtain rfl:=Option.some.inj (hx.symm.trans s0);obtain⟨_,n0,u0,_,r0,d0,_,_,f0,h0⟩:=RdS.get (q0) (t) (by omega);obtain⟨_,_,_,_,_,_,_,_,_,_,_,_,rfl,_,_,_,_,_,_,_,_,_,_,_,_,_⟩:=N0a.open_ h0;obtain rfl:=Option.some.inj (ht.symm.trans r0);refine qB ((S4.q.a f0).a e0) [.o 0,.x j0 t0,.f 0 0,.o 1,.x n0 u0,.f 1 1] rfl ⟨by omega,rfl,⟨d0,by omega⟩,rfl,rfl,⟨b0,by omega⟩,rfl,⟨⟩⟩ (fun o0=>?_) fun o0=>?_
 ·refine qD rfl ⟨⟩ ?_;rintro v0 ⟨a0,i0⟩;refine lR0 rfl ⟨⟩ (o0a rfl (by conv=>lhs;whnf) ?_);exact⟨by rw[decide_eq_true (by omega)],a0.fin⟩
 refine qD rfl ⟨⟩ ?_;rintro v0 ⟨a0,i0⟩;refine lR0 rfl ⟨⟩ (o0a rfl (by conv=>lhs;whnf) ?_);exact⟨by rw[decide_eq_false (by omega)],a0.fin⟩
theorem y6b(p:f0a)(M:List Nat)(w0:World)(cs:List Value)(hI:InP p M w0 cs):
 M0a Tryz.prog 48 #[.agg cs.toArray] w0 fun v w'=>v=.bool true∧Below w0.heap.size w0 w':=by
 obtain⟨_,_,_,_,_,_,_,_,_,_,_,_,rfl,-⟩:=hI.rd.open_;have S:=St.refl w0;refine a0a Tryz.func48 rfl Tryz.ntmps48 rfl ?_;refine wO0 rfl ⟨⟩ (h0a S (by conv=>lhs;whnf) rfl ?_);intro g1 w1 S1 X1 G1;refine lO S1.k [.w 0] rfl ⟨⟨rfl,rfl⟩,⟨⟩⟩ (x0a S1 X0c rfl rfl (x7a p M _ _ (hI.rd.keep (S1.keep0 M)) (hI.keep (S1.keep0 M)).lt (f7b hI.ok)) ?_);rintro v8 w8 ⟨_,_,_,rfl,hv⟩ S8 X8;obtain rfl:=hv.2 hI.ok;refine lB0 rfl ⟨⟩ (fun a0=>?_) (fun a0=>by exfalso;omega);exact lT rfl ⟨⟩ rfl ⟨rfl,S8.fin⟩
theorem g8c(p:f0a)(M:List Nat)(w0:World)(cs:List Value)(hI:InP p M w0 cs):
 M0a Tryz.prog 74 #[.agg cs.toArray] w0 fun v w'=>v=.bool true∧Below w0.heap.size w0 w':=by
 obtain⟨_,_,_,_,_,_,_,_,_,_,_,_,rfl,-⟩:=hI.rd.open_;have S:=St.refl w0;refine a0a Tryz.func74 rfl Tryz.ntmps74 rfl ?_;refine wO0 rfl ⟨⟩ (h0a S (by conv=>lhs;whnf) rfl ?_);intro g1 w1 S1 X1 G1;refine lO S1.k [.w 0] rfl ⟨⟨rfl,rfl⟩,⟨⟩⟩ (x0a S1 X0c rfl rfl (x7a p M _ _ (hI.rd.keep (S1.keep0 M)) (hI.keep (S1.keep0 M)).lt (f7b hI.ok)) ?_);rintro v8 w8 ⟨_,_,_,rfl,hv⟩ S8 X8;obtain rfl:=hv.2 hI.ok;refine lB0 rfl ⟨⟩ (fun a0=>?_) (fun a0=>by exfalso;omega);exact lT rfl ⟨⟩ rfl ⟨rfl,S8.fin⟩
theorem K0c(p:f0a)(c:q0a)(M:List Nat)(w0:World)(cs:List Value)(vm va:Value)(hI:InP p M w0 cs)(e0:RdI M w0 vm c.mem)(g0:RdI M w0 va c.at_)(hf:c3a p c):
 M0a Tryz.prog 116 #[.agg cs.toArray,vm,va] w0 fun v w'=>v=.bool true∧Below w0.heap.size w0 w':=by
 obtain⟨Ac,nc,cc,Am,nm,cm,Al,nl,cl,At,nt,ct,rfl,hC,_,_,S0,_,_,_,_,_,_,_,_⟩:=hI.rd.open_;obtain⟨Xm,xm,ym,rfl⟩:=e0.form;obtain⟨Xa,xa,ya,rfl⟩:=g0.form;obtain⟨_,-,_⟩:=e0.len;obtain⟨_,-,_⟩:=g0.len;have f1:=hf.mem.len;have f2:=hf.nat;have S:=St.refl w0;refine a0a Tryz.func116 rfl Tryz.ntmps116 rfl ?_;refine wO0 rfl ⟨⟩ (h0a S (by conv=>lhs;whnf) rfl ?_);intro g3 w3 S3 X3 G3;refine lB S3.k [.o 0] rfl ⟨rfl,⟨⟩⟩ (fun h1=>by exfalso;omega) fun h1=>?_;refine lB S3.k [.o 0] rfl ⟨rfl,⟨⟩⟩ (fun i1=>by exfalso;omega) fun i1=>?_;refine lC0 rfl ⟨⟩ (wL (fun μk D ε w=>D=[]∧∃k:Nat,(k+μk=(c.mem.length))∧St [] w0 w [(some g3,27,[.slice Ac nc cc,.slice Am nm cm,.slice Al nl cl,.slice At nt ct])]∧Sl ε [(1,.slice Xm xm ym),(2,.slice Xa xa ya),(3,.pointer (some ⟨g3,0,none⟩)),(7,.int .i64 k)]) (μ:=(c.mem.length)) ⟨rfl,0,by omega,S3,rfl⟩ ?_);rintro μk D ε w ⟨rfl,k,hk,S,eZ⟩;refine wK eZ (wB0 rfl ⟨⟩ (fun j1=>?_) fun j1=>?_)
 ·refine lC0 rfl ⟨⟩ (v0a b0a [0,1,2,3,4,5,6,7,8,9,10,11,12,13,14,15,16,17,18] [] [] (by kernel_rfl) rfl (Cl _ _ _ _) (Cl.start S) ?_);obtain⟨v,W0,t1,_,T0,n0,_,_,v0,D0⟩:=RdS.get (e0) (k) (by omega);obtain⟨rfl,_⟩:=id D0;have q1:=hf.mem.vals k v T0;refine qB (S.q.a v0) [.x W0 t1,.f 0 0] rfl ⟨rfl,⟨n0,by omega⟩,⟨⟩⟩ (fun m1=>by exfalso;omega) fun m1=>?_;obtain⟨_,X0,u1,_,L0,o0,_,_,x0,E0⟩:=RdS.get (e0) (k) (by omega);obtain rfl:=Option.some.inj (T0.symm.trans L0);obtain⟨rfl,_⟩:=id E0;obtain⟨x,Y0,v1,_,U0,p0,_,_,y0,F0⟩:=RdS.get (hC) (k) (by omega);obtain⟨rfl,_,_,_,_⟩:=F2a.open_ F0;have q2:=(hI.ok.cells x (c0a U0)).w;rw[a1d U0] at q1;refine qO ((S.q.a y0).a x0) [.x X0 u1,.f 0 0,.o 0,.x Y0 v1,.f 1 1] rfl ⟨rfl,⟨p0,by omega⟩,rfl,rfl,⟨o0,by omega⟩,⟨⟩⟩ (r1a E6a rfl rfl (fun w1 S1 X1=>R4a x.w _ (by omega) (by omega)) ?_);refine qB0 rfl ⟨⟩ (fun n1=>by exfalso;omega) fun n1=>?_;refine qD rfl ⟨⟩ ?_;rintro C1 ⟨V0,_⟩;refine lP0 rfl ⟨by omega,⟨⟩⟩ ⟨μk-1,by omega,rfl,(k+1),(by omega),V0,rfl⟩
 refine lC0 rfl ⟨⟩ (wL (fun μk D ε w=>D=[]∧∃k:Nat,(k+μk=(c.at_.length))∧St [] w0 w [(some g3,27,[.slice Ac nc cc,.slice Am nm cm,.slice Al nl cl,.slice At nt ct])]∧Sl ε [(2,.slice Xa xa ya),(3,.pointer (some ⟨g3,0,none⟩)),(8,.int .i64 k)]) (μ:=(c.at_.length)) ⟨rfl,0,by omega,S,rfl⟩ ?_);rintro μk D ε w ⟨rfl,k,hk,S,eZ⟩;refine wK eZ (wB0 rfl ⟨⟩ (fun o1=>?_) fun o1=>?_)
 ·refine lC0 rfl ⟨⟩ (v0a b0a [0,1,2,3,4,5,6,7,8,9,10,11,12,13,14,15,16,17,18,19,20,21,22,23,24,25,26,27,28,29,30,31,32,33] [] [] (by kernel_rfl) rfl (Cl _ _ _ _) (Cl.start S) ?_);obtain⟨y,Z0,x1,_,R0,q0,_,_,z0,G0⟩:=RdS.get (g0) (k) (by omega);obtain⟨rfl,_⟩:=id G0;obtain⟨j0,b0⟩:∃j0,p.threads[k]?=some j0:=⟨p.threads[k]'(by omega),List.getElem?_eq_getElem _⟩;have q3:=hf.atr k y R0 j0 b0;refine qB (S.q.a z0) [.x Z0 x1,.f 0 0] rfl ⟨rfl,⟨q0,by omega⟩,⟨⟩⟩ (fun p1=>by exfalso;omega) fun p1=>?_;obtain⟨_,a1,y1,_,N0,r0,_,_,A0,H0⟩:=RdS.get (g0) (k) (by omega);obtain rfl:=Option.some.inj (R0.symm.trans N0);obtain⟨rfl,_⟩:=id H0;obtain⟨_,b1,z1,_,O0,s0,_,_,B0,I0⟩:=RdS.get (S0) (k) (by omega);obtain rfl:=Option.some.inj (b0.symm.trans O0);obtain⟨_,_,_,_,_,_,_,_,_,_,_,_,rfl,_,_,_,_,_,_,_,_,_,_,_,_,_⟩:=N0a.open_ I0;refine qB ((S.q.a B0).a A0) [.x a1 y1,.f 0 0,.o 0,.x b1 z1,.f 1 1] rfl ⟨rfl,⟨s0,by omega⟩,rfl,rfl,⟨r0,by omega⟩,⟨⟩⟩ (fun r1=>by exfalso;omega) fun r1=>?_;obtain⟨_,d1,A1,_,P0,t0,_,_,C0,J0⟩:=RdS.get (g0) (k) (by omega);obtain rfl:=Option.some.inj (R0.symm.trans P0);obtain⟨rfl,_⟩:=id J0;refine qB (S.q.a C0) [.x d1 A1,.f 0 0] rfl ⟨rfl,⟨t0,by omega⟩,⟨⟩⟩ (fun s1=>?_) fun s1=>?_
  ·obtain⟨_,g1,B1,_,Q0,u0,_,_,h0,K0⟩:=RdS.get (S0) (k) (by omega);obtain rfl:=Option.some.inj (b0.symm.trans Q0);obtain⟨_,_,_,_,_,_,_,_,_,_,_,_,rfl,_,_,_,_,_,_,_,_,_,_,_,_,_⟩:=N0a.open_ K0;refine qO S.q [.o 0,.x g1 B1] rfl ⟨⟨u0,by omega⟩,rfl,⟨⟩⟩ ?_;rcases(Bool.eq_false_or_eq_true (j0.asleep)).symm with a0|a0
   ·refine j0a m2a rfl (fun w1 hw=>by exact(hw.1.old (h0 _ _ rfl)).trans (congrArg (fun b=>some (Value.bool b)) a0)) rfl ?_;refine qD rfl ⟨⟩ ?_;rintro i0 ⟨d0,f0⟩;refine lR0 rfl ⟨⟩ (o0a rfl (by conv=>lhs;whnf) ?_);exfalso;have:=q3.2.2 (by omega);rw[this] at a0;cases a0
   refine j0a m2a rfl (fun w1 hw=>by exact(hw.1.old (h0 _ _ rfl)).trans (congrArg (fun b=>some (Value.bool b)) a0)) rfl ?_;refine qD rfl ⟨⟩ ?_;rintro i0 ⟨d0,f0⟩;refine lP0 rfl ⟨by omega,⟨⟩⟩ ⟨μk-1,by omega,rfl,(k+1),(by omega),d0,rfl⟩
  refine qD rfl ⟨⟩ ?_;rintro i0 ⟨d0,f0⟩;refine lP0 rfl ⟨by omega,⟨⟩⟩ ⟨μk-1,by omega,rfl,(k+1),(by omega),d0,rfl⟩
 exact lT rfl ⟨⟩ rfl ⟨rfl,S.fin⟩
theorem w1b(mem a0:List Int)(set:List L1a)(M:List Nat)(w0:World)(vm vv vs:Value)(d0:RdI M w0 vm mem)(hV:RdI M w0 vv a0)(b0:k5c M w0 vs set)(N0:mem.length≤1000)(hc:∀a∈set,0≤a.cell∧a.cell<mem.length)(he:∀a∈set,i64 (a.to.evl a0 a0)):
 M0a Tryz.prog 45 #[vm,vv,vs] w0 fun v w'=>x6a 3 w0 w' v (B7a set a0 mem)∧Below w0.heap.size w0 w':=by
 obtain⟨_,_,_,rfl⟩:=d0.form;obtain⟨Xv,xv,yv,rfl⟩:=hV.form;obtain⟨As,ns,css,rfl⟩:=b0.form;obtain⟨_,-,_⟩:=d0.len;obtain⟨_,-,_⟩:=b0.len;have S:=St.refl w0;refine a0a Tryz.func45 rfl Tryz.ntmps45 rfl ?_;refine wO0 rfl ⟨⟩ (x0a S I0b rfl rfl (h6a mem M _ _ (d0.keep (S.keep0 M)) (by omega)) ?_);rintro P0 Q0 s0 C0 L0;obtain⟨Gm,e0,f0,i0⟩:=s0.open_ C0 S;obtain⟨x0,A0,z0,rfl⟩:=f0.form;refine lC0 rfl ⟨⟩ (wL (fun μk D ε w=>D=[]∧∃k:Nat,∃e0:List Value,(k+μk=(set.length))∧(d3a Gm 1 mem.length e0 (.slice x0 A0 z0) ((B7a (set.take k) a0 mem).map (Value.int .i64)))∧St [] w0 w [(Gm,3,e0)]∧Sl ε [(1,.slice Xv xv yv),(2,.slice As ns css),(7,.slice x0 A0 z0),(8,.int .i64 k)]) (μ:=(set.length)) ⟨rfl,0,e0,by omega,(by simpa[B7a] using f0),i0,rfl⟩ ?_);rintro μk D ε w ⟨rfl,k,e0,_,f0,S,eZ⟩;refine wK eZ (wB0 rfl ⟨⟩ (fun G0=>?_) fun G0=>?_)
 ·have O0:(B7a (set.take k) a0 mem).length=mem.length:=by simp
  have q0:=hc (set[k]'(by omega)) (List.getElem_mem _);obtain⟨gm,pad,rfl,I0,rfl,H0⟩:=f0.pad (by simp;omega);cases I0;refine lC0 rfl ⟨⟩ (v0a b0a [0,1,2,3,4,5,6,7,8,9,10,11,12,13,14] [] [15] (by kernel_rfl) rfl (Cl _ _ _ _) (Cl.start S) ?_);obtain⟨a,E0,J0,_,h0,j0,_,_,p0,t0⟩:=RdS.get (b0) (k) (by omega);obtain⟨_,_,_,rfl,_,_⟩:=U0a.open_ t0;obtain⟨_,F0,K0,_,v0,n0,_,_,r0,u0⟩:=RdS.get (b0) (k) (by omega);obtain rfl:=Option.some.inj (h0.symm.trans v0);obtain⟨_,_,_,rfl,_,o0⟩:=U0a.open_ u0;have q1:=hc a (c0a h0);have q2:=he a (c0a h0);refine qO ((S.q.a r0).a p0) [.x E0 J0,.f 0 0,.x F0 K0,.f 1 1] rfl ⟨rfl,⟨n0,by omega⟩,rfl,⟨j0,by omega⟩,⟨⟩⟩ (r1a U8b rfl rfl (fun w1 S1 X1=>R0b a.to M _ _ _ _ a0 a0 (RdE.keep (S1.keep0 M) _ _ o0) (hV.keep (S1.keep0 M)) (hV.keep (S1.keep0 M))) ?_);refine n0a O0a.slT rfl (by rfl) rfl (by omega) (by omega) rfl ?_;refine qD rfl ⟨⟩ ?_;rintro R0 ⟨D0,_⟩
  first|refine B0a (kk:=0) D0 u9a rfl (by conv=>lhs;whnf) rfl rfl (by(simp;omega)) ?_
  intro B0 g0 y0;refine lP0 rfl ⟨by omega,⟨⟩⟩ ⟨μk-1,by omega,rfl,(k+1),(_),(by omega),?_,g0,rfl⟩;have z:=d3a.ofPad (g:=gm) (l:=(B7a (set.take k) a0 mem).set a.cell.toNat (a.to.evl a0 a0)) (pad:=pad) (by simpa using H0);rw[H0a h0,f6a];rw[←H5a (by simp;omega)] at z;simpa using z
 refine lR0 rfl ⟨⟩ (o0a rfl (by conv=>lhs;whnf) ?_);exact⟨⟨Gm,e0,by rw[List.take_of_length_le (by omega)] at f0;simpa using f0,fun g hg=>by subst hg;exact⟨by simpa using S.new 0 rfl,S.blk 0 rfl⟩⟩,S.fin⟩
theorem N7b(p:f0a)(M:List Nat)(w0:World)(cs:List Value)(hI:InP p M w0 cs):
 M0a Tryz.prog 15 #[.agg cs.toArray] w0 fun v w'=>(∃xs,v=.agg xs.toArray∧t0a M w' (T0a p) xs)∧Below w0.heap.size w0 w':=by
 obtain⟨Ac,nc,cc,Am,nm,cm,Al,nl,cl,At,nt,ct,rfl,hC,_,_,h1,_,_,_,j1,_,_,_,bt⟩:=hI.rd.open_;have hp:=hI.ok;have n1:=hp.ncells;have n2:=hp.nthreads;have hf:=y5a hp;have S:=((St.refl w0).nilEnt 3).nilEnt 3;refine a0a Tryz.func15 rfl Tryz.ntmps15 rfl ?_;refine wO0 rfl ⟨⟩ (h0a S (by conv=>lhs;whnf) rfl ?_);intro g1 w1 S1 X1 G1;refine m0a S1 Q3a rfl rfl ?_;intro g2 w2 S2 X2 G2;refine lO S2.k [.w 1] rfl ⟨⟨rfl,rfl⟩,⟨⟩⟩ (g0a S2 E8c rfl rfl (y6b p M _ _ (hI.keep (S2.keep0 M))) ?_);intro w8 S8 X8;refine lO S8.k [.o 1] rfl ⟨rfl,⟨⟩⟩ (z1b (n:=nt) (c:=nt) S8 V2a rfl rfl (by omega) (by omega) (by omega) rfl rfl ?_);intro y0 D1 S0 z1 x1;refine f1a u4a (vs:=[(2,.slice _ _ _)]) (cs:=[_,_,_]) rfl rfl rfl rfl ?_;refine m0a S0 Q3a rfl rfl ?_;intro g3 w3 S3 X3 G3;refine e0a (kk:=0) (vs:=[_,_,_]) S3 e2a rfl rfl rfl rfl rfl rfl rfl ?_;intro s1 n0 U0;dsimp only[k0a,List.set] at n0;refine lC0 rfl ⟨⟩ (wL (fun μk D ε w=>D=[]∧∃k:Nat,∃G:Option Nat,∃x0:List Value,∃aM:Option Addr,∃kM:Nat,∃cM:Nat,(k+μk=(p.cells.length))∧(B1a (fun _ _=>P2c) 1 [] w0 G x0 (.slice aM kM cM) ((T0a p).mem.take k))∧St [] w0 w [(some g3,38,[.slice aM kM cM,.slice none 0 0,.slice (some ⟨y0,0,none⟩) nt nt]),(some y0,86,(List.replicate nt (.slice none 0 0))),(some g2,38,[.slice none 0 0,.slice none 0 0,.slice none 0 0]),(some g1,27,[.slice Ac nc cc,.slice Am nm cm,.slice Al nl cl,.slice At nt ct]),(G,3,x0),(none,3,[])]∧Sl ε [(1,.pointer (some ⟨g1,0,none⟩)),(2,.pointer (some ⟨g2,0,none⟩)),(3,.pointer (some ⟨g3,0,none⟩)),(4,.int .i64 k)]) (μ:=(p.cells.length)) ⟨rfl,0,none,[],none,0,0,by omega,B1a.nil,n0,rfl⟩ ?_);rintro μk D ε w ⟨rfl,k,G,x0,aM,kM,cM,_,j0,S,eZ⟩;refine wK eZ (wB S.k [.o 3] rfl ⟨rfl,⟨⟩⟩ (fun d1=>?_) fun d1=>?_)
 ·refine lC0 rfl ⟨⟩ (v0a b0a [0,1,2,3,4,5,6,7] [8] [9,10,11] (by kernel_rfl) rfl (Cl _ _ _ _) (Cl.start S) ?_);obtain⟨c,X0,p1,_,K0,B0,_,_,D0,F0⟩:=RdS.get (hC) (k) (by omega);obtain⟨rfl,_,_,_,_⟩:=F2a.open_ F0;have s0:(T0a p).mem[k]?=some c.init:=by simp[T0a,K0]
  have i1:=hf.mem.vals k _ s0;have o1:=(hp.cells c (c0a K0)).w;have m1:G3a (wAt p.cells k).toNat≤256:=j9a hp _;refine qN (S.q.a D0) [.o 0,.o 3,.x X0 p1,.f 0 2] rfl ⟨rfl,⟨B0,by omega⟩,rfl,rfl,⟨⟩⟩ (V3a ?_);refine x3a rfl rfl O0a (vs:=[.int .i64 _]) (cs:=[_]) (by rfl) rfl rfl rfl rfl rfl ?_;refine R1a ?_;rintro F1 ⟨v0,_⟩;intro B1 E0 P0 H0;dsimp only[R3a];clear H0;replace v0:=v0.push_new S E0 P0;refine Y0a Z2a (k:=5) (M2:=[]) (e1:=c.init) v0 O0a (by decide) rfl j0 rfl rfl (v0.cells 0 rfl) ⟨rfl,by unfold i64;omega⟩ (by rw[List.length_take];simp[T0a];omega) rfl ?_;intro C1 y1 a1 E1 T0 g0 A1 v1;obtain⟨_,_,rfl⟩:=g0.form;refine lO0 rfl ⟨⟩ ?_
  first|refine B0a (kk:=1) T0 W0b rfl (by conv=>lhs;whnf) rfl rfl (by exact Nat.le_of_ble_eq_true rfl) ?_
  intro L0 p0 J0;refine lP0 rfl ⟨by omega,⟨⟩⟩ ?_;refine⟨μk-1,by omega,rfl,(k+1),(_),(_),(_),(_),(_),(by omega),((by rw[H0a s0];exact g0)),p0.tail,rfl⟩
 refine lC0 rfl ⟨⟩ (wL (fun μj D ε w=>D=[]∧∃j:Nat,∃G2:Option Nat,∃cs2:List Value,∃aA:Option Addr,∃kA:Nat,∃cA:Nat,(j+μj=(p.threads.length))∧(B1a (fun _ _=>P2c) 1 [] w0 G2 cs2 (.slice aA kA cA) ((T0a p).at_.take j))∧St [] w0 w [(some g3,38,[.slice aM kM cM,.slice aA kA cA,.slice (some ⟨y0,0,none⟩) nt nt]),(some y0,86,(List.replicate nt (.slice none 0 0))),(some g2,38,[.slice none 0 0,.slice none 0 0,.slice none 0 0]),(some g1,27,[.slice Ac nc cc,.slice Am nm cm,.slice Al nl cl,.slice At nt ct]),(G,3,x0),(G2,3,cs2)]∧Sl ε [(1,.pointer (some ⟨g1,0,none⟩)),(2,.pointer (some ⟨g2,0,none⟩)),(3,.pointer (some ⟨g3,0,none⟩)),(5,.int .i64 j)]) (μ:=(p.threads.length)) ⟨rfl,0,none,[],none,0,0,by omega,B1a.nil,S,rfl⟩ ?_);rintro μj D ε w ⟨rfl,j,G2,cs2,aA,kA,cA,_,d0,S,eZ⟩;refine wK eZ (wB S.k [.o 3] rfl ⟨rfl,⟨⟩⟩ (fun f1=>?_) fun f1=>?_)
 ·obtain⟨th,Y0,q1,_,t0,C0,_,_,r0,G0⟩:=RdS.get (h1) (j) (by omega);obtain⟨_,_,_,_,_,_,_,_,_,_,_,_,rfl,_,_,_,_,_,_,_,_,_,_,_,_,_⟩:=N0a.open_ G0;refine lO S.k [.o 3,.x Y0 q1] rfl ⟨⟨C0,by omega⟩,rfl,⟨⟩⟩ ?_;cases h0:th.asleep
  ·refine s0a m2a rfl (by exact(S.old (r0 _ _ rfl)).trans (congrArg (fun b=>some (Value.bool b)) h0)) rfl ?_;refine lO S.k [.o 0] rfl ⟨rfl,⟨⟩⟩ (u0a S O0a (vs:=[.int .i64 _]) (cs:=[_]) (by rfl) rfl rfl rfl rfl rfl rfl ?_);intro b1 t1 o0 V0 Q0;have f0:(T0a p).at_[j]?=some (if th.asleep then -1 else 0):=by simp[T0a,t0]
   rw[h0] at f0;refine Y0a Z2a (k:=6) (M2:=[]) o0 O0a (by decide) rfl d0 rfl rfl (o0.cells 0 rfl) ⟨rfl,by unfold i64;omega⟩ (by rw[List.length_take];simp[T0a];omega) rfl ?_;intro r1 R0 A0 u1 z0 b0 W0 O0;obtain⟨N0,Z0,rfl⟩:=b0.form;refine lO0 rfl ⟨⟩ ?_
   first|refine B0a (kk:=1) z0 W0b rfl (by conv=>lhs;whnf) rfl rfl (by exact Nat.le_of_ble_eq_true rfl) ?_
   intro u0 e0 q0;refine lP0 rfl ⟨by omega,⟨⟩⟩ ?_;refine⟨μj-1,by omega,rfl,(j+1),(_),(_),(_),(_),(_),(by omega),((by rw[H0a f0];exact b0)),e0.tail,rfl⟩
  refine s0a m2a rfl (by exact(S.old (r0 _ _ rfl)).trans (congrArg (fun b=>some (Value.bool b)) h0)) rfl ?_;refine lO S.k [.o 0] rfl ⟨rfl,⟨⟩⟩ (u0a S O0a (vs:=[.int .i64 _]) (cs:=[_]) (by rfl) rfl rfl rfl rfl rfl rfl ?_);intro b1 t1 o0 V0 Q0;have f0:(T0a p).at_[j]?=some (if th.asleep then -1 else 0):=by simp[T0a,t0]
  rw[h0] at f0;refine Y0a Z2a (k:=6) (M2:=[]) o0 O0a (by decide) rfl d0 rfl rfl (o0.cells 0 rfl) ⟨rfl,by unfold i64;omega⟩ (by rw[List.length_take];simp[T0a];omega) rfl ?_;intro r1 R0 A0 u1 z0 b0 W0 O0;obtain⟨N0,Z0,rfl⟩:=b0.form;refine lO0 rfl ⟨⟩ ?_
  first|refine B0a (kk:=1) z0 W0b rfl (by conv=>lhs;whnf) rfl rfl (by exact Nat.le_of_ble_eq_true rfl) ?_
  intro u0 e0 q0;refine lP0 rfl ⟨by omega,⟨⟩⟩ ?_;refine⟨μj-1,by omega,rfl,(j+1),(_),(_),(_),(_),(_),(by omega),((by rw[H0a f0];exact b0)),e0.tail,rfl⟩
 refine lO S.k [.w 0] rfl ⟨⟨rfl,rfl⟩,⟨⟩⟩ ?_
 first|refine e0a (kk:=2) (vs:=[_,_,_]) S e2a rfl rfl rfl rfl rfl rfl rfl ?_
 intro i0 a0 I0;dsimp only[k0a,List.set] at a0;refine lR0 rfl ⟨⟩ ?_;rw[List.take_of_length_le (by simp[T0a];omega)] at d0;rw[List.take_of_length_le (by simp[T0a];omega)] at j0;refine n1a (n:=3) rfl a1a rfl (a0.cells 2 rfl) rfl ⟨⟨_,rfl,_,_,_,rfl,B1a.rd Z2a (M:=M) (w:=i0) j0 a0 (k:=4) rfl (fun g hg=>by subst hg;exact Q0a hI.lt (a0.new 4 rfl)) (by simp[T0a];omega),B1a.rd Z2a (M:=M) (w:=i0) d0 a0 (k:=5) rfl (fun g hg=>by subst hg;exact Q0a hI.lt (a0.new 5 rfl)) (by simp[T0a];omega),?_⟩,a0.fin⟩;exact a0.rdBufs 1 rfl (Q0a hI.lt (a0.new 1 rfl)) (by simp[T0a,j1]) bt (fun b hb=>by simp[T0a] at hb;exact hb.2)
theorem n0b(a b:E0a):W8a a b=W8a b a:=by
 rw[Bool.eq_iff_iff,H6a,H6a];exact⟨fun⟨c,h1,h2⟩=>⟨c,h2,h1⟩,fun⟨c,h1,h2⟩=>⟨c,h2,h1⟩⟩
theorem Z0d{p:f0a}{m:Int}{c:q0a}{t:Nat}{s:y1a}{a:Int}(hm:m=0)(hx:c.at_[t]?=some a)(h1:a=s.frm)(h2:s.guard.evl (c1a c t) (c1a c t)=1)(hk:s.kind=3):S0a p m c t s=true:=by
 unfold S0a;rw[getD_some hx];simp[h1,h2,hk,hm]
theorem K2b{f:FuncId}{args:Array Value}{w:World}{el:Nat}{l:List Int}{M:List Nat}(h:M0a Tryz.prog f args w fun v w'=>x6a el w w' v l∧Below w.heap.size w w')(hM:∀g∈M,g<w.heap.size)(hl:∀x∈l,i64 x)(a0:l.length≤140737488355328):
 M0a Tryz.prog f args w fun v w'=>RdI M w' v l∧Below w.heap.size w w':=h.mono fun _ _ ⟨h1,h2⟩=>⟨h1.rd hM hl h2 a0,h2⟩
theorem j1b(p:f0a)(e:E0a)(M:List Nat)(w0:World)(cs es:List Value)(hp:d1a p)(hP:q1a M w0 p cs)(hE:I0a M w0 es e)(he:J0b p e):
 M0a Tryz.prog 117 #[.agg cs.toArray,.agg es.toArray] w0 fun v w'=>v=.bool true∧Below w0.heap.size w0 w':=by
 obtain⟨Ac,nc,cc,Am,nm,cm,Al,nl,cl,At,nt,ct,rfl,hC,_,_,_,_,_,_,_,_,_,_,_⟩:=hP.open_;obtain⟨Ec,ec,fc,Ev,ev,fv,rfl,E0,g1,_,_,_,_⟩:=hE.open_;have u1:0<e.cells.length:=List.length_pos_iff.2 he.some_;have t1:e.values.length=e.cells.length:=he.even;have S:=St.refl w0;refine a0a Tryz.func117 rfl Tryz.ntmps117 rfl ?_;refine wO0 rfl ⟨⟩ (h0a S (by conv=>lhs;whnf) rfl ?_);intro g2 w2 S2 X2 G2;refine h0a S2 (by conv=>lhs;whnf) rfl ?_;intro g3 w3 S3 X3 G3;refine lB S3.k [.o 0] rfl ⟨rfl,⟨⟩⟩ (fun p1=>by exfalso;omega) fun p1=>?_;refine lB S3.k [.o 0,.o 0] rfl ⟨rfl,rfl,⟨⟩⟩ (fun q1=>by exfalso;omega) fun q1=>?_;refine lC0 rfl ⟨⟩ (wL (fun μk D ε w=>D=[]∧∃k:Nat,(k+μk=(e.cells.length))∧St [] w0 w [(some g3,88,[.slice Ec ec fc,.slice Ev ev fv]),(some g2,27,[.slice Ac nc cc,.slice Am nm cm,.slice Al nl cl,.slice At nt ct])]∧Sl ε [(2,.pointer (some ⟨g2,0,none⟩)),(3,.pointer (some ⟨g3,0,none⟩)),(5,.int .i64 k)]) (μ:=(e.cells.length)) ⟨rfl,0,by omega,S3,rfl⟩ ?_);rintro μk D ε w ⟨rfl,k,_,S,eZ⟩;refine wK eZ (wB S.k [.o 0] rfl ⟨rfl,⟨⟩⟩ (fun r1=>?_) fun r1=>?_)
 ·obtain⟨n,h1,v1,_,t0,B0,_,_,I0,O0⟩:=RdS.get (E0) (k) (by omega);obtain⟨rfl,_⟩:=id O0;have q:=he.cells k n t0;unfold D2a at q;refine lC (S.k.a I0) [.o 0,.x h1 v1,.f 0 0] rfl ⟨rfl,⟨B0,by omega⟩,rfl,⟨⟩⟩ (v0a b0a [0,1,2,3,4,5,6,7,8,9,10,11,12,13,14,15,16,17,18,19,20,21,22,23,24,25,26,27,28,29,30,31,32,33,34,35,36,37,38,39,40,41] [] [] (by kernel_rfl) rfl (Cl _ _ _ _) (Cl.start S) ?_);refine qO S.q [.o 1] rfl ⟨rfl,⟨⟩⟩ (r1a m3a rfl rfl (fun w1 S1 X1=>y4a (n7a n nc _) (decide_eq_true (by omega))) ?_);obtain⟨c0,i1,x1,_,a0,C0,_,_,J0,P0⟩:=RdS.get (hC) (n.toNat) (by omega);obtain⟨rfl,_,_,_,_⟩:=F2a.open_ P0;have q2:=q.2.1;rw[i1a a0] at q2;have q3:=q.2.2;rw[G2a a0] at q3;have q4:=(hp.cells c0 (c0a a0)).w;refine qB (S.q.a J0) [.o 1,.x i1 x1,.f 0 3] rfl ⟨rfl,⟨C0,by omega⟩,rfl,⟨⟩⟩ (fun s1=>by exfalso;omega) fun s1=>?_;obtain⟨_,j1,y1,_,R0,D0,_,_,s0,Q0⟩:=RdS.get (hC) (n.toNat) (by omega);obtain rfl:=Option.some.inj (a0.symm.trans R0);obtain⟨rfl,_,_,_,_⟩:=F2a.open_ Q0;refine qO S.q [.o 1,.x j1 y1] rfl ⟨⟨D0,by omega⟩,rfl,⟨⟩⟩ ?_;rcases(Bool.eq_false_or_eq_true (c0.ghost)).symm with b0|b0
  ·refine j0a m2a rfl (fun w1 hw=>by exact(hw.1.old (s0 _ _ rfl)).trans (congrArg (fun b=>some (Value.bool b)) b0)) rfl ?_;refine qB0 rfl ⟨⟩ (fun z0=>?_) fun z0=>?_
   ·refine qD rfl ⟨⟩ ?_;rintro f1 ⟨q0,u0⟩;refine lR0 rfl ⟨⟩ (o0a rfl (by conv=>lhs;whnf) ?_);exfalso;rw[b0] at q3;have z:=of_decide_eq_false q3.symm;omega
   obtain⟨y,v0,a1,m1,S0,d0,F0,K0,g0,j0⟩:=RdS.get (g1) (k) (by omega);obtain⟨rfl,U0⟩:=id j0;have q5:=he.vals (n,y) (List.mem_of_getElem? (i:=k) (by rw[List.getElem?_zip_eq_some];exact⟨t0,S0⟩));simp only at q5;rw[i5a (by omega) a0] at q5;obtain⟨z1,x0,b1,n1,p0,e0,G0,L0,h0,n0⟩:=RdS.get (hC) (n.toNat) (by omega);obtain rfl:=Option.some.inj (a0.symm.trans p0);obtain⟨rfl,V0,X0,Y0,Z0⟩:=F2a.open_ n0;refine qO ((S.q.a h0).a g0) [.o 0,.x v0 a1,.f 0 0,.o 1,.x x0 b1,.f 1 1] rfl ⟨rfl,⟨e0,by omega⟩,rfl,rfl,⟨d0,by omega⟩,rfl,⟨⟩⟩ (r1a E6a rfl rfl (fun w1 S1 X1=>R4a c0.w _ (by omega) (by omega)) ?_);refine qO0 rfl ⟨⟩ (r1a m3a rfl rfl (fun w1 S1 X1=>y4a (n7a y (G3a c0.w.toNat) _) (decide_eq_true (by omega))) ?_);refine qD rfl ⟨⟩ ?_;rintro f1 ⟨q0,u0⟩;refine lC0 rfl ⟨⟩ (wL (fun μj D ε w=>D=[]∧∃j:Nat,(j+μj=(k))∧St [] w0 w [(some g3,88,[.slice Ec ec fc,.slice Ev ev fv]),(some g2,27,[.slice Ac nc cc,.slice Am nm cm,.slice Al nl cl,.slice At nt ct])]∧Sl ε [(2,.pointer (some ⟨g2,0,none⟩)),(3,.pointer (some ⟨g3,0,none⟩)),(5,.int .i64 k),(6,.int .i64 n),(7,.int .i64 j)]) (μ:=(k)) ⟨rfl,0,by omega,q0,rfl⟩ ?_);rintro μj D ε w ⟨rfl,j,hj,S,eZ⟩;refine wK eZ (wB0 rfl ⟨⟩ (fun A0=>?_) fun A0=>?_)
   ·obtain⟨z,y0,d1,o1,T0,f0,H0,N0,i0,o0⟩:=RdS.get (E0) (j) (by omega);obtain⟨rfl,W0⟩:=id o0;refine lB (S.k.a i0) [.o 0,.x y0 d1,.f 0 0] rfl ⟨rfl,⟨f0,by omega⟩,rfl,⟨⟩⟩ (fun r0=>by exact absurd r0 (i6a he.once T0 t0 (by omega))) (fun r0=>?_);refine lP0 rfl ⟨by omega,⟨⟩⟩ ⟨μj-1,by omega,rfl,(j+1),(by omega),S,rfl⟩
   refine lP0 rfl ⟨by omega,⟨⟩⟩ ⟨μk-1,by omega,rfl,(k+1),(by omega),S,rfl⟩
  refine j0a m2a rfl (fun w1 hw=>by exact(hw.1.old (s0 _ _ rfl)).trans (congrArg (fun b=>some (Value.bool b)) b0)) rfl ?_;refine qB0 rfl ⟨⟩ (fun z0=>?_) fun z0=>?_
  ·obtain⟨y,v0,a1,m1,S0,d0,F0,K0,g0,j0⟩:=RdS.get (g1) (k) (by omega);obtain⟨rfl,U0⟩:=id j0;have q5:=he.vals (n,y) (List.mem_of_getElem? (i:=k) (by rw[List.getElem?_zip_eq_some];exact⟨t0,S0⟩));simp only at q5;rw[i5a (by omega) a0] at q5;obtain⟨z1,x0,b1,n1,p0,e0,G0,L0,h0,n0⟩:=RdS.get (hC) (n.toNat) (by omega);obtain rfl:=Option.some.inj (a0.symm.trans p0);obtain⟨rfl,V0,X0,Y0,Z0⟩:=F2a.open_ n0;refine qO ((S.q.a h0).a g0) [.o 0,.x v0 a1,.f 0 0,.o 1,.x x0 b1,.f 1 1] rfl ⟨rfl,⟨e0,by omega⟩,rfl,rfl,⟨d0,by omega⟩,rfl,⟨⟩⟩ (r1a E6a rfl rfl (fun w1 S1 X1=>R4a c0.w _ (by omega) (by omega)) ?_);refine qO0 rfl ⟨⟩ (r1a m3a rfl rfl (fun w1 S1 X1=>y4a (n7a y (G3a c0.w.toNat) _) (decide_eq_true (by omega))) ?_);refine qD rfl ⟨⟩ ?_;rintro f1 ⟨q0,u0⟩;refine lC0 rfl ⟨⟩ (wL (fun μj D ε w=>D=[]∧∃j:Nat,(j+μj=(k))∧St [] w0 w [(some g3,88,[.slice Ec ec fc,.slice Ev ev fv]),(some g2,27,[.slice Ac nc cc,.slice Am nm cm,.slice Al nl cl,.slice At nt ct])]∧Sl ε [(2,.pointer (some ⟨g2,0,none⟩)),(3,.pointer (some ⟨g3,0,none⟩)),(5,.int .i64 k),(6,.int .i64 n),(7,.int .i64 j)]) (μ:=(k)) ⟨rfl,0,by omega,q0,rfl⟩ ?_);rintro μj D ε w ⟨rfl,j,hj,S,eZ⟩;refine wK eZ (wB0 rfl ⟨⟩ (fun A0=>?_) fun A0=>?_)
   ·obtain⟨z,y0,d1,o1,T0,f0,H0,N0,i0,o0⟩:=RdS.get (E0) (j) (by omega);obtain⟨rfl,W0⟩:=id o0;refine lB (S.k.a i0) [.o 0,.x y0 d1,.f 0 0] rfl ⟨rfl,⟨f0,by omega⟩,rfl,⟨⟩⟩ (fun r0=>by exact absurd r0 (i6a he.once T0 t0 (by omega))) (fun r0=>?_);refine lP0 rfl ⟨by omega,⟨⟩⟩ ⟨μj-1,by omega,rfl,(j+1),(by omega),S,rfl⟩
   refine lP0 rfl ⟨by omega,⟨⟩⟩ ⟨μk-1,by omega,rfl,(k+1),(by omega),S,rfl⟩
  refine qD rfl ⟨⟩ ?_;rintro f1 ⟨q0,u0⟩;refine lR0 rfl ⟨⟩ (o0a rfl (by conv=>lhs;whnf) ?_);exfalso;rw[b0] at q3;have z:=of_decide_eq_true q3.symm;omega
 exact lT rfl ⟨⟩ rfl ⟨rfl,S.fin⟩
theorem K6c(p:f0a)(c:q0a)(M:List Nat)(w0:World)(cs xs:List Value)(hI:InP p M w0 cs)(hX:t0a M w0 c xs)(hf:c3a p c):
 M0a Tryz.prog 75 #[.agg cs.toArray,.agg xs.toArray] w0 fun v w'=>v=.bool true∧Below w0.heap.size w0 w':=by
 obtain⟨Ac,nc,cc,Am,nm,cm,Al,nl,cl,At,nt,ct,rfl,_,_,_,_,_,_,_,_,_,_,_,_⟩:=hI.rd.open_;obtain⟨Xm,xm,ym,Xa,xa,ya,Xb,xb,yb,rfl,b1,B1,a0,_,_,t0,_,_,_⟩:=hX.open_;have f2:=hf.nat;have f3:=hf.nbuf;have S:=St.refl w0;refine a0a Tryz.func75 rfl Tryz.ntmps75 rfl ?_;refine wO0 rfl ⟨⟩ (h0a S (by conv=>lhs;whnf) rfl ?_);intro g2 w2 S2 X2 G2;refine h0a S2 (by conv=>lhs;whnf) rfl ?_;intro g3 w3 S3 X3 G3;refine lO S3.k [.w 1,.o 0,.o 0] rfl ⟨rfl,rfl,⟨rfl,rfl⟩,⟨⟩⟩ (g0a S3 Q5c rfl rfl (K0c p c M _ _ _ _ (hI.keep (S3.keep0 M)) (b1.keep (S3.keep0 M)) (B1.keep (S3.keep0 M)) hf) ?_);intro V1 z1 U1;refine lB z1.k [.o 0,.o 1] rfl ⟨rfl,rfl,⟨⟩⟩ (fun I1=>by exfalso;omega) fun I1=>?_;refine lC0 rfl ⟨⟩ (wL (fun μk D ε w=>D=[]∧∃k:Nat,(k+μk=(c.buf.length))∧St [] w0 w [(some g3,38,[.slice Xm xm ym,.slice Xa xa ya,.slice Xb xb yb]),(some g2,27,[.slice Ac nc cc,.slice Am nm cm,.slice Al nl cl,.slice At nt ct])]∧Sl ε [(2,.pointer (some ⟨g2,0,none⟩)),(3,.pointer (some ⟨g3,0,none⟩)),(5,.int .i64 k)]) (μ:=(c.buf.length)) ⟨rfl,0,by omega,z1,rfl⟩ ?_);rintro μk D ε w ⟨rfl,k,_,S,eZ⟩;refine wK eZ (wB S.k [.o 0] rfl ⟨rfl,⟨⟩⟩ (fun J1=>?_) fun J1=>?_)
 ·obtain⟨b,C1,O1,_,t0,V0,_,_,d1,j1⟩:=RdS.get (a0) (k) (by omega);obtain⟨_,_,_,rfl,_,_,_⟩:=F3a.open_ j1;have q:=hf.bufs k b t0;refine lB (S.k.a d1) [.o 0,.x C1 O1,.f 0 0] rfl ⟨rfl,⟨V0,by omega⟩,rfl,⟨⟩⟩ (fun K1=>by exfalso;omega) fun K1=>?_;obtain⟨_,D1,P1,_,o1,W0,_,_,f1,m1⟩:=RdS.get (a0) (k) (by omega);obtain rfl:=Option.some.inj (t0.symm.trans o1);obtain⟨_,_,_,rfl,_,y0,_⟩:=F3a.open_ m1;refine lB (S.k.a f1) [.o 0,.x D1 P1,.f 0 0] rfl ⟨rfl,⟨W0,by omega⟩,rfl,⟨⟩⟩ (fun M1=>?_) fun M1=>?_
  ·obtain⟨_,E1,Q1,_,N1,X0,_,_,g1,n1⟩:=RdS.get (B1) (k) (by omega);obtain⟨rfl,_⟩:=id n1;refine lB (S.k.a g1) [.o 0,.x E1 Q1,.f 0 0] rfl ⟨rfl,⟨X0,by omega⟩,rfl,⟨⟩⟩ (fun A1=>by have z:=q.2.2 (by rw[N1,A1]);subst z;simp at y0;omega) (fun A1=>?_);refine lC0 rfl ⟨⟩ (wL (fun μj D ε w=>D=[]∧∃j:Nat,(j+μj=(b.length))∧St [] w0 w [(some g3,38,[.slice Xm xm ym,.slice Xa xa ya,.slice Xb xb yb]),(some g2,27,[.slice Ac nc cc,.slice Am nm cm,.slice Al nl cl,.slice At nt ct])]∧Sl ε [(2,.pointer (some ⟨g2,0,none⟩)),(3,.pointer (some ⟨g3,0,none⟩)),(5,.int .i64 k),(6,.int .i64 j)]) (μ:=(b.length)) ⟨rfl,0,by omega,S,rfl⟩ ?_);rintro μj D ε w ⟨rfl,j,hj,S,eZ⟩;refine wK eZ ?_;obtain⟨R1,I0,u1,F1,r0,f0,Y0,h1,i0,p0⟩:=RdS.get (a0) (k) (by omega);obtain rfl:=Option.some.inj (t0.symm.trans r0);obtain⟨D0,q1,Q0,rfl,u0,z0,L0⟩:=F3a.open_ p0;refine wB (S.k.a i0) [.o 0,.x I0 u1,.f 0 0] rfl ⟨rfl,⟨f0,by omega⟩,rfl,⟨⟩⟩ (fun U0=>?_) fun U0=>?_
   ·refine lC0 rfl ⟨⟩ (v0a b0a [0,1,2,3,4,5,6,7,8,9,10] [] [] (by kernel_rfl) rfl (Cl _ _ _ _) (Cl.start S) ?_);obtain⟨T1,J0,v1,G1,s0,g0,Z0,i1,j0,q0⟩:=RdS.get (a0) (k) (by omega);obtain rfl:=Option.some.inj (t0.symm.trans s0);obtain⟨E0,r1,R0,rfl,b0,A0,N0⟩:=F3a.open_ q0;obtain⟨e,K0,x1,H1,p1,h0,a1,o0,n0,d0⟩:=RdS.get (b0) (j) (by omega);obtain⟨F0,s1,S0,G0,t1,T0,rfl,v0,x0,B0,C0,O0,P0⟩:=I0a.open_ d0;refine qO ((S.q.a n0).a j0) [.w 1,.o 0,.x J0 v1,.f 0 0,.x K0 x1,.v 1] rfl ⟨⟨rfl,o0⟩,⟨h0,by omega⟩,rfl,⟨g0,by omega⟩,rfl,⟨rfl,rfl⟩,⟨⟩⟩ (r1a Z0c rfl rfl (fun w1 S1 X1=>j1b p e M _ _ _ hI.ok (hI.keep (S1.keep0 M)).rd (I0a.keep (S1.keep0 M) _ _ d0) (q.2.1 e (c0a p1))) ?_);refine qD rfl ⟨⟩ ?_;rintro y1 ⟨e0,H0⟩;refine lP0 rfl ⟨by omega,⟨⟩⟩ ⟨μj-1,by omega,rfl,(j+1),(by omega),e0,rfl⟩
   refine lP0 rfl ⟨by omega,⟨⟩⟩ ⟨μk-1,by omega,rfl,(k+1),(by omega),S,rfl⟩
  refine lC0 rfl ⟨⟩ (wL (fun μj D ε w=>D=[]∧∃j:Nat,(j+μj=(b.length))∧St [] w0 w [(some g3,38,[.slice Xm xm ym,.slice Xa xa ya,.slice Xb xb yb]),(some g2,27,[.slice Ac nc cc,.slice Am nm cm,.slice Al nl cl,.slice At nt ct])]∧Sl ε [(2,.pointer (some ⟨g2,0,none⟩)),(3,.pointer (some ⟨g3,0,none⟩)),(5,.int .i64 k),(6,.int .i64 j)]) (μ:=(b.length)) ⟨rfl,0,by omega,S,rfl⟩ ?_);rintro μj D ε w ⟨rfl,j,hj,S,eZ⟩;refine wK eZ ?_;obtain⟨R1,I0,u1,F1,r0,f0,Y0,h1,i0,p0⟩:=RdS.get (a0) (k) (by omega);obtain rfl:=Option.some.inj (t0.symm.trans r0);obtain⟨D0,q1,Q0,rfl,u0,z0,L0⟩:=F3a.open_ p0;refine wB (S.k.a i0) [.o 0,.x I0 u1,.f 0 0] rfl ⟨rfl,⟨f0,by omega⟩,rfl,⟨⟩⟩ (fun U0=>?_) fun U0=>?_
  ·refine lC0 rfl ⟨⟩ (v0a b0a [0,1,2,3,4,5,6,7,8,9,10] [] [] (by kernel_rfl) rfl (Cl _ _ _ _) (Cl.start S) ?_);obtain⟨T1,J0,v1,G1,s0,g0,Z0,i1,j0,q0⟩:=RdS.get (a0) (k) (by omega);obtain rfl:=Option.some.inj (t0.symm.trans s0);obtain⟨E0,r1,R0,rfl,b0,A0,N0⟩:=F3a.open_ q0;obtain⟨e,K0,x1,H1,p1,h0,a1,o0,n0,d0⟩:=RdS.get (b0) (j) (by omega);obtain⟨F0,s1,S0,G0,t1,T0,rfl,v0,x0,B0,C0,O0,P0⟩:=I0a.open_ d0;refine qO ((S.q.a n0).a j0) [.w 1,.o 0,.x J0 v1,.f 0 0,.x K0 x1,.v 1] rfl ⟨⟨rfl,o0⟩,⟨h0,by omega⟩,rfl,⟨g0,by omega⟩,rfl,⟨rfl,rfl⟩,⟨⟩⟩ (r1a Z0c rfl rfl (fun w1 S1 X1=>j1b p e M _ _ _ hI.ok (hI.keep (S1.keep0 M)).rd (I0a.keep (S1.keep0 M) _ _ d0) (q.2.1 e (c0a p1))) ?_);refine qD rfl ⟨⟩ ?_;rintro y1 ⟨e0,H0⟩;refine lP0 rfl ⟨by omega,⟨⟩⟩ ⟨μj-1,by omega,rfl,(j+1),(by omega),e0,rfl⟩
  refine lP0 rfl ⟨by omega,⟨⟩⟩ ⟨μk-1,by omega,rfl,(k+1),(by omega),S,rfl⟩
 exact lT rfl ⟨⟩ rfl ⟨rfl,S.fin⟩
theorem W7b(c:q0a)(M:List Nat)(w0:World)(xs:List Value)(hX:t0a M w0 c xs):
 M0a Tryz.prog 76 #[.agg xs.toArray] w0 fun v w'=>v=.bool (dec (t3a c))∧Below w0.heap.size w0 w':=by
 obtain⟨Xm,xm,ym,Xa,xa,ya,Xb,xb,yb,rfl,_,_,b0,_,_,f0,_,_,_⟩:=hX.open_;have S:=St.refl w0;refine a0a Tryz.func76 rfl Tryz.ntmps76 rfl ?_;refine wO0 rfl ⟨⟩ (h0a S (by conv=>lhs;whnf) rfl ?_);intro g1 w1 S1 X1 G1;refine lC0 rfl ⟨⟩ (wL (fun μk D ε w=>D=[]∧∃k:Nat,(k+μk=(c.buf.length))∧(o1a (c.buf) k (fun b=>b=[]))∧St [] w0 w [(some g1,38,[.slice Xm xm ym,.slice Xa xa ya,.slice Xb xb yb])]∧Sl ε [(1,.pointer (some ⟨g1,0,none⟩)),(3,.int .i64 k)]) (μ:=(c.buf.length)) ⟨rfl,0,by omega,o1a.zero,S1,rfl⟩ ?_);rintro μk D ε w ⟨rfl,k,_,hn,S,eZ⟩;refine wK eZ (wB S.k [.o 0] rfl ⟨rfl,⟨⟩⟩ (fun h8=>?_) fun h8=>?_)
 ·refine lOn 11 S.k [.o 0] rfl ⟨rfl,⟨⟩⟩ ?_;obtain⟨b,_,_,_,f0,_,_,_,d0,e0⟩:=RdS.get (b0) (k) (by omega);obtain⟨_,_,_,rfl,_,a0,_⟩:=F3a.open_ e0;refine Z0a (v:=.int .i64 _) rfl rfl ?_;refine w0a V2a.slT rfl (by assumption) rfl (by omega) (by omega) rfl ?_;refine s0a e9a rfl (by exact S.old (d0 0 _ rfl)) rfl ?_;refine lB0 rfl ⟨⟩ (fun g0=>?_) fun g0=>?_
  ·refine lT rfl ⟨⟩ rfl ?_;refine⟨p1a (fun h=>?_),S.fin⟩;have z:=h b (c0a f0);subst z;simp at a0;omega
  refine lP0 rfl ⟨by omega,⟨⟩⟩ ⟨μk-1,by omega,rfl,(k+1),(by omega),(hn.succ f0 (List.length_eq_zero_iff.1 (by omega))),S,rfl⟩
 exact lT rfl ⟨⟩ rfl ⟨Z3a (hn.all (by omega)),S.fin⟩
theorem U3b(p:f0a)(c:q0a)(m:Int)(hm:(m=0∧t3a c)∨m=1∨m=2)(M:List Nat)(w0:World)(cs xs:List Value)(hI:InP p M w0 cs)(hX:t0a M w0 c xs)(hf:c3a p c):
 M0a Tryz.prog 38 #[.agg cs.toArray,.int .i64 m,.agg xs.toArray] w0 fun v w'=>v=.bool true∧Below w0.heap.size w0 w':=by
 obtain⟨_,_,_,_,_,_,_,_,_,_,_,_,rfl,-⟩:=hI.rd.open_;obtain⟨_,_,_,_,_,_,_,_,_,rfl,-⟩:=hX.open_;have j0:m=0∨m=1∨m=2:=by rcases hm with h|h|h;exact .inl h.1;exact .inr (.inl h);exact .inr (.inr h)
 have S:=St.refl w0;refine a0a Tryz.func38 rfl Tryz.ntmps38 rfl ?_;refine wO0 rfl ⟨⟩ (h0a S (by conv=>lhs;whnf) rfl ?_);intro g3 w3 S3 X3 G3;refine h0a S3 (by conv=>lhs;whnf) rfl ?_;intro g5 w5 S5 X5 G5;refine lB0 rfl ⟨⟩ (fun h8=>by exfalso;omega) fun h8=>?_;refine lB0 rfl ⟨⟩ (fun e0=>by exfalso;omega) fun e0=>?_;refine lO S5.k [.w 1] rfl ⟨⟨rfl,rfl⟩,⟨⟩⟩ (g0a S5 Z9c rfl rfl (g8c p M _ _ (hI.keep (S5.keep0 M))) ?_);intro n0 a0 g0;refine lO a0.k [.w 1,.w 0] rfl ⟨⟨rfl,rfl⟩,⟨rfl,rfl⟩,⟨⟩⟩ (g0a a0 J9c rfl rfl (K6c p c M _ _ _ (hI.keep (a0.keep0 M)) (hX.keep (a0.keep0 M)) hf) ?_);intro o0 b0 h0;refine lB0 rfl ⟨⟩ (fun f0=>?_) fun f0=>?_
 ·exact lT rfl ⟨⟩ rfl ⟨rfl,b0.fin⟩
 refine lO b0.k [.w 0] rfl ⟨⟨rfl,rfl⟩,⟨⟩⟩ ?_;refine g0a b0 K9c rfl rfl (y4a (W7b c M _ _ (hX.keep (b0.keep0 M))) (q9c (by rcases hm with h|h|h;exact h.2;omega;omega))) ?_;intro p0 d0 i0;exact lT rfl ⟨⟩ rfl ⟨rfl,d0.fin⟩
theorem L6b(mem:List Int)(e:E0a)(M:List Nat)(w0:World)(vm:Value)(es:List Value)(a0:RdI M w0 vm mem)(hE:I0a M w0 es e)(I0:mem.length≤1000)(B0:e.values.length=e.cells.length)(hc:∀n∈e.cells,0≤n∧n<mem.length):
 M0a Tryz.prog 79 #[vm,.agg es.toArray] w0 fun v w'=>x6a 3 w0 w' v (f2a mem e)∧Below w0.heap.size w0 w':=by
 obtain⟨_,_,_,rfl⟩:=a0.form;obtain⟨_,-,_⟩:=a0.len;obtain⟨Ec,ec,fc,Ev,ev,fv,rfl,z0,A0,_,_,_,_⟩:=hE.open_;have S:=St.refl w0;refine a0a Tryz.func79 rfl Tryz.ntmps79 rfl ?_;refine wO0 rfl ⟨⟩ (h0a S (by conv=>lhs;whnf) rfl ?_);intro g3 w3 S3 X3 G3;refine lO0 rfl ⟨⟩ (x0a S3 I0b rfl rfl (h6a mem M _ _ (a0.keep (S3.keep0 M)) (by omega)) ?_);rintro v8 w8 j0 S8 X8;obtain⟨Gm,b0,d0,t0⟩:=j0.open_ S8 S3;obtain⟨A8,n8,c8,rfl⟩:=d0.form;refine lC0 rfl ⟨⟩ ?_;refine wL (fun μk D ε w=>D=[]∧∃k:Nat,∃b0:List Value,(k+μk=(e.cells.length))∧(d3a Gm 1 mem.length b0 (.slice A8 n8 c8) ((d4a mem e k).map (Value.int .i64)))∧St [] w0 w [(Gm,3,b0),(some g3,88,[.slice Ec ec fc,.slice Ev ev fv])]∧Sl ε [(3,.pointer (some ⟨g3,0,none⟩)),(5,.slice A8 n8 c8),(6,.int .i64 k)]) (μ:=(e.cells.length)) ⟨rfl,0,b0,by omega,(by rw[f9a];exact d0),t0,rfl⟩ ?_;rintro μk D ε w ⟨rfl,k,b0,_,d0,S,eZ⟩;refine wK eZ (wB S.k [.o 1] rfl ⟨rfl,⟨⟩⟩ (fun y0=>?_) fun y0=>?_)
 ·have D0:(d4a mem e k).length=mem.length:=C4a _ _;have q0:=hc (e.cells[k]'(by omega)) (List.getElem_mem _);have q1:∀n,e.cells[k]?=some n→0≤n∧n<mem.length:=fun n hn=>hc n (c0a hn);obtain⟨gm,pad,rfl,E0,rfl,C0⟩:=d0.pad (by omega);cases E0;refine lC0 rfl ⟨⟩ (v0a b0a [0,1,2,3,4,5,6,7,8,9,10,11] [] [12] (by kernel_rfl) rfl (Cl _ _ _ _) (Cl.start S) ?_);obtain⟨n,v0,G0,_,r0,f0,_,_,h0,n0⟩:=RdS.get (z0) (k) (by omega);obtain⟨rfl,_⟩:=id n0;obtain⟨y,x0,H0,_,F0,g0,_,_,i0,o0⟩:=RdS.get (A0) (k) (by omega);obtain⟨rfl,_⟩:=id o0;refine qO ((S.q.a i0).a h0) [.o 1,.x v0 G0,.f 0 0,.o 1,.x x0 H0,.f 1 0] rfl ⟨rfl,⟨g0,by omega⟩,rfl,rfl,⟨f0,by omega⟩,rfl,⟨⟩⟩ ?_;have q2:=q1 n r0;refine n0a O0a.slT rfl (by rfl) rfl (by omega) (by omega) rfl ?_;refine qD rfl ⟨⟩ ?_;rintro J0 ⟨u0,_⟩
  first|refine B0a (kk:=0) u0 u9a rfl (by conv=>lhs;whnf) rfl rfl (by(simp;omega)) ?_
  intro s0 e0 p0;refine lP0 rfl ⟨by omega,⟨⟩⟩ ⟨μk-1,by omega,rfl,(k+1),(_),(by omega),?_,e0,rfl⟩;have z:=d3a.ofPad (g:=gm) (l:=(d4a mem e k).set n.toNat y) (pad:=pad) (by simpa using C0);rw[o9a r0 F0];rw[←H5a (by omega)] at z;simpa[D0] using z
 refine lR0 rfl ⟨⟩ (o0a rfl (by conv=>lhs;whnf) ?_);exact⟨⟨Gm,b0,by rw[k0b _ _ (by omega)] at d0;have hl:(f2a mem e).length=mem.length:=C4a _ _;rw[hl];exact d0,fun g hg=>by subst hg;exact⟨by simpa using S.new 0 rfl,S.blk 0 rfl⟩⟩,S.fin⟩
theorem F3b(p:f0a)(c:q0a)(t:Nat)(b:List E0a)(M:List Nat)(w0:World)(xs:List Value)(hp:d1a p)(hM:∀g∈M,g<w0.heap.size)(hX:t0a M w0 c xs)(hf:c3a p c)(b0:c.buf[t]?=some b):
 M0a Tryz.prog 44 #[.agg xs.toArray,.int .i64 t] w0 fun v w'=>RdI M w' v (c1a c t)∧Below w0.heap.size w0 w':=by
 obtain⟨Xm,xm,ym,Xa,xa,ya,Xb,xb,yb,rfl,n0,_,e0,_,_,_,_,_,_⟩:=hX.open_;have n1:=hp.ncells;have f1:=hf.mem.len;have K0:=u1a b0;have x0:∀w':World,w0.heap.size≤w'.heap.size→∀g∈M,g<w'.heap.size:=fun w' h g hg=>by have:=hM g hg;omega
 have y0:=(hf.bufs t b b0).2.1;have J0:=(hf.bufs t b b0).1;have S:=St.refl w0;refine a0a Tryz.func44 rfl Tryz.ntmps44 rfl ?_;refine wO0 rfl ⟨⟩ (h0a S (by conv=>lhs;whnf) rfl ?_);intro g2 w2 S2 X2 G2;refine lO S2.k [.o 0] rfl ⟨rfl,⟨⟩⟩ (x0a S2 I0b rfl rfl (K2b (M:=M) (h6a c.mem M _ _ (n0.keep (S2.keep0 M)) (by omega)) (x0 _ S2.size) (X2a hp hf.mem) (by omega)) ?_);rintro v9 w9 z0 S9 X9;obtain⟨_,_,_,rfl⟩:=z0.form;refine P0a (v:=.slice _ _ _) rfl rfl ?_;refine lC0 rfl ⟨⟩ (wL (fun μk D ε w=>D=[]∧∃k:Nat,∃A5:Option Addr,∃n5:Nat,∃c5:Nat,(k+μk=(b.length))∧(RdI M w (.slice A5 n5 c5) (z4a c b k))∧St [] w0 w [(some g2,38,[.slice Xm xm ym,.slice Xa xa ya,.slice Xb xb yb])]∧Sl ε [(1,.int .i64 t),(2,.pointer (some ⟨g2,0,none⟩)),(5,.slice A5 n5 c5),(6,.int .i64 k)]) (μ:=(b.length)) ⟨rfl,0,_,_,_,by omega,(by simpa[z4a] using z0),S9,rfl⟩ ?_);rintro μk D ε w ⟨rfl,k,A5,n5,c5,_,hv,S,eZ⟩;refine wK eZ ?_;obtain⟨_,C0,G0,_,u0,h0,_,_,o0,s0⟩:=RdS.get (e0) (t) (by omega);obtain rfl:=Option.some.inj (b0.symm.trans u0);obtain⟨_,_,_,rfl,_,_,_⟩:=F3a.open_ s0;refine wB (S.k.a o0) [.o 0,.x C0 G0,.f 0 0] rfl ⟨rfl,⟨h0,by omega⟩,rfl,⟨⟩⟩ (fun F0=>?_) fun F0=>?_
 ·obtain⟨_,D0,H0,_,v0,i0,_,_,p0,t0⟩:=RdS.get (e0) (t) (by omega);obtain rfl:=Option.some.inj (b0.symm.trans v0);obtain⟨_,_,_,rfl,d0,_,_⟩:=F3a.open_ t0;obtain⟨en,E0,I0,_,a0,j0,_,r0,q0,f0⟩:=RdS.get (d0) (k) (by omega);obtain⟨_,_,_,_,_,_,rfl,_,_,_,_,_,_⟩:=I0a.open_ f0;have q1:=y0 en (c0a a0);have q2:=u3b hf y0 (k+1);rw[s7a a0] at q2;refine lO ((S.k.a q0).a p0) [.o 0,.x D0 H0,.f 0 0,.x E0 I0,.v 1] rfl ⟨⟨rfl,r0⟩,⟨j0,by omega⟩,rfl,⟨i0,by omega⟩,rfl,⟨⟩⟩ ?_;refine x0a S E4c rfl rfl (K2b (M:=M) (L6b (z4a c b k) en M _ _ _ hv (I0a.keep (S.keep0 M) _ _ f0) (by simp;omega) q1.even (fun n hn=>by have:=q1.i64s n hn;simp;omega)) (x0 _ S.size) (X2a hp q2) (by have:=q2.len;omega)) ?_;rintro L0 N0 g0 A0 B0;replace hv:=hv.keep (B0.of_nil);obtain⟨_,_,_,rfl⟩:=g0.form;refine lP0 rfl ⟨by omega,⟨⟩⟩ ?_;refine⟨μk-1,by omega,rfl,(k+1),(_),(_),(_),(by omega),((by rw[s7a a0];exact g0)),A0,rfl⟩
 refine lR0 rfl ⟨⟩ (o0a rfl (by conv=>lhs;whnf) ?_);exact⟨by rw[Z8a b0 (by omega)] at hv;exact hv,S.fin⟩
theorem Y3b(a b:E0a)(M:List Nat)(w0:World)(az bz:List Value)(hA:I0a M w0 az a)(hB:I0a M w0 bz b):
 M0a Tryz.prog 78 #[.agg az.toArray,.agg bz.toArray] w0 fun v w'=>v=.bool (W8a b a)∧Below w0.heap.size w0 w':=by
 obtain⟨Ac,nc,cc,Av,nv,cv,rfl,v0,-,_,-,_,-⟩:=hA.open_;obtain⟨Dc,mc,dc,Dv,mv,dv,rfl,x0,-,_,-,_,-⟩:=hB.open_;have S:=St.refl w0;refine a0a Tryz.func78 rfl Tryz.ntmps78 rfl ?_;refine wO0 rfl ⟨⟩ (h0a S (by conv=>lhs;whnf) rfl ?_);intro g2 w2 S2 X2 G2;refine h0a S2 (by conv=>lhs;whnf) rfl ?_;intro g3 w3 S3 X3 G3;refine lC0 rfl ⟨⟩ (wL (fun μk D ε w=>D=[]∧∃k:Nat,(k+μk=(a.cells.length))∧(o1a (a.cells) k (fun x=>x∉b.cells))∧St [] w0 w [(some g3,88,[.slice Dc mc dc,.slice Dv mv dv]),(some g2,88,[.slice Ac nc cc,.slice Av nv cv])]∧Sl ε [(2,.pointer (some ⟨g2,0,none⟩)),(3,.pointer (some ⟨g3,0,none⟩)),(5,.int .i64 k)]) (μ:=(a.cells.length)) ⟨rfl,0,by omega,o1a.zero,S3,rfl⟩ ?_);rintro μk D ε w ⟨rfl,k,_,ha,S,eZ⟩;refine wK eZ (wB S.k [.o 1] rfl ⟨rfl,⟨⟩⟩ (fun t0=>?_) fun t0=>?_)
 ·obtain⟨q,a0⟩:∃q,a.cells[k]?=some q:=⟨a.cells[k]'(by omega),List.getElem?_eq_getElem _⟩;refine lC0 rfl ⟨⟩ (wL (fun μj D ε w=>D=[]∧∃j:Nat,(j+μj=(b.cells.length))∧(o1a (b.cells) j (fun y=>y≠a.cells.getD k 0))∧St [] w0 w [(some g3,88,[.slice Dc mc dc,.slice Dv mv dv]),(some g2,88,[.slice Ac nc cc,.slice Av nv cv])]∧Sl ε [(2,.pointer (some ⟨g2,0,none⟩)),(3,.pointer (some ⟨g3,0,none⟩)),(5,.int .i64 k),(6,.int .i64 j)]) (μ:=(b.cells.length)) ⟨rfl,0,by omega,o1a.zero,S,rfl⟩ ?_);rintro μj D ε w ⟨rfl,j,_,o0,S,eZ⟩;refine wK eZ (wB S.k [.o 0] rfl ⟨rfl,⟨⟩⟩ (fun u0=>?_) fun u0=>?_)
  ·refine lC0 rfl ⟨⟩ (v0a b0a [0,1,2,3,4,5,6,7,8,9,10] [] [] (by kernel_rfl) rfl (Cl _ _ _ _) (Cl.start S) ?_);obtain⟨_,r0,y0,_,j0,d0,_,_,f0,h0⟩:=RdS.get (v0) (k) (by omega);obtain rfl:=Option.some.inj (a0.symm.trans j0);obtain⟨rfl,_⟩:=id h0;obtain⟨y,s0,z0,_,p0,e0,_,_,g0,i0⟩:=RdS.get (x0) (j) (by omega);obtain⟨rfl,_⟩:=id i0;refine qB ((S.q.a g0).a f0) [.o 1,.x r0 y0,.f 0 0,.o 0,.x s0 z0,.f 1 0] rfl ⟨rfl,⟨e0,by omega⟩,rfl,rfl,⟨d0,by omega⟩,rfl,⟨⟩⟩ (fun n0=>?_) fun n0=>?_
   ·refine qD rfl ⟨⟩ ?_;rintro A0 ⟨b0,q0⟩;refine lT rfl ⟨⟩ rfl ?_;exact⟨congrArg Value.bool (Eq.symm (H6a.2 ⟨q,c0a a0,by rw[n0];exact c0a p0⟩)),b0.fin⟩
   refine qD rfl ⟨⟩ ?_;rintro A0 ⟨b0,q0⟩;refine lP0 rfl ⟨by omega,⟨⟩⟩ ?_;refine⟨μj-1,by omega,rfl,(j+1),(by omega),(o0.succ p0 ((by rw[getD_some a0];omega))),b0,rfl⟩
  refine lP0 rfl ⟨by omega,⟨⟩⟩ ⟨μk-1,by omega,rfl,(k+1),(by omega),(ha.succ a0 ((fun hx=>o0.all (by omega) _ hx (getD_some a0).symm))),S,rfl⟩
 exact lT rfl ⟨⟩ rfl ⟨congrArg Value.bool (Eq.symm (N0c (ha.all (by omega)))),S.fin⟩
theorem v8b(m:Int)(l:List E0a)(i:Nat)(en:E0a)(hi:l[i]?=some en)(M:List Nat)(w0:World)(vl:Value)(hL:j7c M w0 vl l):
 M0a Tryz.prog 40 #[.int .i64 m,vl,.int .i64 i] w0 fun v w'=>v=.bool (s3a m l i)∧Below w0.heap.size w0 w':=by
 obtain⟨A,n,c,rfl⟩:=hL.form;obtain⟨_,-,_⟩:=hL.len;have f1:=u1a hi;have S:=St.refl w0;refine a0a Tryz.func40 rfl Tryz.ntmps40 rfl ?_;refine wB0 rfl ⟨⟩ (fun h9=>?_) fun h9=>?_
 ·refine lB0 rfl ⟨⟩ (fun d1=>?_) fun d1=>?_
  ·refine lT rfl ⟨⟩ rfl ⟨congrArg Value.bool ?_,S.fin⟩;rw[T3a hi];rw[decide_eq_false (show ¬i=0 by omega),decide_eq_false (show ¬m=2 by omega)];rfl
  refine lC0 rfl ⟨⟩ (wL (fun μk D ε w=>D=[]∧∃k:Nat,(k+μk=(i))∧(o1a (l) k (fun o=>W8a o en=false))∧St [] w0 w []∧Sl ε [(1,.slice A n c),(2,.int .i64 i),(7,.int .i64 k)]) (μ:=(i)) ⟨rfl,0,by omega,o1a.zero,S,rfl⟩ ?_);rintro μk D ε w ⟨rfl,k,hk,ha,S,eZ⟩;refine wK eZ (wB0 rfl ⟨⟩ (fun P0=>?_) fun P0=>?_)
  ·refine lC0 rfl ⟨⟩ (v0a b0a [0,1,2,3,4,5,6,7,8] [] [] (by kernel_rfl) rfl (Cl _ _ _ _) (Cl.start S) ?_);obtain⟨o,E0,W0,Z0,y0,f0,Q0,j0,h0,a0⟩:=RdS.get (hL) (k) (by omega);obtain⟨z0,S0,K0,B0,U0,N0,rfl,p0,r0,t0,v0,G0,I0⟩:=I0a.open_ a0;obtain⟨b1,F0,X0,a1,d0,g0,R0,n0,i0,b0⟩:=RdS.get (hL) (i) (by omega);obtain⟨A0,T0,L0,C0,V0,O0,rfl,q0,s0,u0,x0,H0,J0⟩:=I0a.open_ b0;obtain rfl:=Option.some.inj (hi.symm.trans d0);refine qO ((S.q.a i0).a h0) [.x E0 W0,.v 0,.x F0 X0,.v 1] rfl ⟨⟨rfl,n0⟩,⟨g0,by omega⟩,⟨rfl,j0⟩,⟨f0,by omega⟩,⟨⟩⟩ (Y1a b5c rfl rfl (fun w1 S1 X1=>Y3b o en M _ _ _ (I0a.keep (S1.keep0 M) _ _ a0) (I0a.keep (S1.keep0 M) _ _ b0)) (fun o0=>?_) fun o0=>?_)
   ·refine qD rfl ⟨⟩ ?_;rintro Y0 ⟨e0,D0⟩;refine lT rfl ⟨⟩ rfl ⟨congrArg Value.bool ?_,e0.fin⟩;rw[T3a hi];rw[decide_eq_false (show ¬i=0 by omega),decide_eq_true (show m=2 by omega)];rw[List.any_eq_true.2 ⟨o,List.mem_of_getElem? (i:=k) (by rw[List.getElem?_take,if_pos (by omega)];exact y0),by rw[n0b];exact o0⟩];rfl
   refine qD rfl ⟨⟩ ?_;rintro Y0 ⟨e0,D0⟩;refine lP0 rfl ⟨by omega,⟨⟩⟩ ?_;refine⟨μk-1,by omega,rfl,(k+1),(by omega),(ha.succ y0 ((by rw[n0b];exact o0))),e0,rfl⟩
  refine lT rfl ⟨⟩ rfl ⟨congrArg Value.bool ?_,S.fin⟩;rw[T3a hi];rw[decide_eq_true (show m=2 by omega)];rw[List.any_eq_false.2 (fun o ho=>?_)]
  ·simp
  ·rw[ha o (by rw[show k=i by omega];exact ho)];exact Bool.false_ne_true
 refine lC0 rfl ⟨⟩ (wL (fun μk D ε w=>D=[]∧∃k:Nat,(k+μk=(i))∧(o1a (l) k (fun o=>W8a o en=false))∧St [] w0 w []∧Sl ε [(1,.slice A n c),(2,.int .i64 i),(7,.int .i64 k)]) (μ:=(i)) ⟨rfl,0,by omega,o1a.zero,S,rfl⟩ ?_);rintro μk D ε w ⟨rfl,k,hk,ha,S,eZ⟩;refine wK eZ (wB0 rfl ⟨⟩ (fun P0=>?_) fun P0=>?_)
 ·refine lC0 rfl ⟨⟩ (v0a b0a [0,1,2,3,4,5,6,7,8] [] [] (by kernel_rfl) rfl (Cl _ _ _ _) (Cl.start S) ?_);obtain⟨o,E0,W0,Z0,y0,f0,Q0,j0,h0,a0⟩:=RdS.get (hL) (k) (by omega);obtain⟨z0,S0,K0,B0,U0,N0,rfl,p0,r0,t0,v0,G0,I0⟩:=I0a.open_ a0;obtain⟨b1,F0,X0,a1,d0,g0,R0,n0,i0,b0⟩:=RdS.get (hL) (i) (by omega);obtain⟨A0,T0,L0,C0,V0,O0,rfl,q0,s0,u0,x0,H0,J0⟩:=I0a.open_ b0;obtain rfl:=Option.some.inj (hi.symm.trans d0);refine qO ((S.q.a i0).a h0) [.x E0 W0,.v 0,.x F0 X0,.v 1] rfl ⟨⟨rfl,n0⟩,⟨g0,by omega⟩,⟨rfl,j0⟩,⟨f0,by omega⟩,⟨⟩⟩ (Y1a b5c rfl rfl (fun w1 S1 X1=>Y3b o en M _ _ _ (I0a.keep (S1.keep0 M) _ _ a0) (I0a.keep (S1.keep0 M) _ _ b0)) (fun o0=>?_) fun o0=>?_)
  ·refine qD rfl ⟨⟩ ?_;rintro Y0 ⟨e0,D0⟩;refine lT rfl ⟨⟩ rfl ⟨congrArg Value.bool ?_,e0.fin⟩;rw[T3a hi];rw[decide_eq_false (show ¬i=0 by omega),decide_eq_false (show ¬m=2 by omega)];rfl
  refine qD rfl ⟨⟩ ?_;rintro Y0 ⟨e0,D0⟩;refine lP0 rfl ⟨by omega,⟨⟩⟩ ?_;refine⟨μk-1,by omega,rfl,(k+1),(by omega),(ha.succ y0 ((by rw[n0b];exact o0))),e0,rfl⟩
 refine lT rfl ⟨⟩ rfl ⟨congrArg Value.bool ?_,S.fin⟩;rw[T3a hi];rw[decide_eq_true (show i=0 by omega)];rfl
theorem X4b(p:f0a)(c:q0a)(m:Int)(t i:Nat)(th:X0a)(s:y1a)(M:List Nat)(w0:World)(cs xs ss:List Value)(hI:InP p M w0 cs)(hX:t0a M w0 c xs)(hS:q2a M w0 ss s)(hf:c3a p c)(u0:p.threads[t]?=some th)(n1:th.steps[i]?=some s):
 M0a Tryz.prog 39 #[.agg cs.toArray,.int .i64 m,.agg xs.toArray,.int .i64 t,.agg ss.toArray] w0 fun v w'=>v=.bool (S0a p m c t s)∧Below w0.heap.size w0 w':=by
 obtain⟨_,_,_,_,_,_,_,_,_,_,_,_,rfl,_,_,_,_,_,_,_,_,_,_,_,_⟩:=hI.rd.open_;obtain⟨_,_,_,_,_,_,_,_,_,rfl,_,Z0,s0,_,f0,_,_,b2,_⟩:=hX.open_;obtain⟨_,_,_,_,_,_,rfl,⟨_,_,_,_,_⟩,hG,_,_,_⟩:=hS.open_;have S:=St.refl w0;have f2:=hf.nat;have f3:=hf.nbuf;have hp:=hI.ok;have ht:=u1a u0;have j1:=hp.thread u0;have T0:=j1.steps s (c0a n1);have u1:=T0.kind;have a1:6≤s.kind→0≤s.target∧s.target<p.threads.length:=fun h=>(T0.row.k6 h).1;have i1:=T0.rel;obtain⟨b,g0⟩:∃b,c.buf[t]?=some b:=⟨c.buf[t]'(by omega),List.getElem?_eq_getElem _⟩;have q3:=(hf.bufs t b g0).1;refine a0a Tryz.func39 rfl Tryz.ntmps39 rfl ?_;refine wO0 rfl ⟨⟩ (h0a S (by conv=>lhs;whnf) rfl ?_);intro g5 w5 S5 X5 G5;refine h0a S5 (by conv=>lhs;whnf) rfl ?_;intro g7 w7 S7 X7 G7;refine h0a S7 (by conv=>lhs;whnf) rfl ?_;intro g9 w9 S9 X9 G9;refine lO S9.k [.w 1] rfl ⟨⟨rfl,rfl⟩,⟨⟩⟩ (x0a S9 H4c rfl rfl (F3b p c t b M _ _ hp (hI.keep (S9.keep0 M)).lt (hX.keep (S9.keep0 M)) hf g0) ?_);rintro v1 x1 hv B0 t1;obtain⟨_,_,_,rfl⟩:=hv.form;refine lC0 rfl ⟨⟩ (v0a b0a [0,1,2,3,4,5,6,7,8,9,10,11,12,13,14,15] [] [] (by kernel_rfl) rfl (Cl _ _ _ _) (Cl.start B0) ?_);obtain⟨a,d1,o1,_,f0,G0,_,_,K0,P0⟩:=RdS.get (Z0) (t) (by omega);obtain⟨rfl,_⟩:=id P0;refine qB (B0.q.a K0) [.o 1,.x d1 o1,.f 0 0,.o 0] rfl ⟨rfl,rfl,⟨G0,by omega⟩,rfl,⟨⟩⟩ (fun d0=>?_) fun d0=>?_
 ·refine qD rfl ⟨⟩ ?_;rintro b1 ⟨b0,q0⟩;replace hv:=hv.keep (q0.of_nil);refine lT rfl ⟨⟩ rfl ⟨congrArg Value.bool ?_,b0.fin⟩;rw[e0c f0 d0];done
 refine qO B0.q [.o 0] rfl ⟨rfl,⟨⟩⟩ (r1a U8b rfl rfl (fun w1 S1 X1=>R0b s.guard M _ _ _ _ (c1a c t) (c1a c t) (RdE.keep (S1.keep0 M) _ _ hG) (hv.keep X1.of_nil) (hv.keep X1.of_nil)) ?_);refine qB0 rfl ⟨⟩ (fun e0=>?_) fun e0=>?_
 ·refine qD rfl ⟨⟩ ?_;rintro b1 ⟨b0,q0⟩;replace hv:=hv.keep (q0.of_nil);refine lT rfl ⟨⟩ rfl ⟨congrArg Value.bool ?_,b0.fin⟩;rw[z7b e0];done
 refine qD rfl ⟨⟩ ?_;rintro b1 ⟨b0,q0⟩;replace hv:=hv.keep (q0.of_nil);obtain⟨_,f1,p1,_,U0,H0,_,_,L0,Q0⟩:=RdS.get (s0) (t) (by omega);obtain rfl:=Option.some.inj (g0.symm.trans U0);obtain⟨_,_,_,rfl,_,a0,_⟩:=F3a.open_ Q0;refine lB (b0.k.a L0) [.o 1,.x f1 p1,.f 0 0,.o 0] rfl ⟨rfl,rfl,⟨H0,by omega⟩,rfl,⟨⟩⟩ (fun W0=>?_) fun W0=>?_
 ·refine lT rfl ⟨⟩ rfl ⟨congrArg Value.bool ?_,b0.fin⟩;rw[y5c f0 d0 e0 (.inl W0)];done
 refine lB0 rfl ⟨⟩ (fun X0=>?_) fun X0=>?_
 ·refine lT rfl ⟨⟩ rfl ⟨congrArg Value.bool ?_,b0.fin⟩;rw[y5c f0 d0 e0 (.inr X0)];done
 refine lB0 rfl ⟨⟩ (fun n0=>?_) fun n0=>?_
 ·refine lB0 rfl ⟨⟩ (fun o0=>?_) fun o0=>?_
  ·refine lT rfl ⟨⟩ rfl ⟨congrArg Value.bool ?_,b0.fin⟩;rw[Z0d o0 f0 d0 e0 n0];done
  refine lB0 rfl ⟨⟩ (fun Y0=>?_) fun Y0=>?_
  ·refine lO0 rfl ⟨⟩ ?_;cases i0:s.release
   ·refine s0a m2a rfl (by exact(b0.cell 0 rfl rfl).trans (congrArg (fun b=>some (Value.bool b)) i0)) rfl ?_;refine lT rfl ⟨⟩ rfl ⟨congrArg Value.bool ?_,b0.fin⟩;rw[v0d o0 f0 d0 e0 g0 a0 n0 i0];exact(decide_eq_true Y0).symm
   refine s0a m2a rfl (by exact(b0.cell 0 rfl rfl).trans (congrArg (fun b=>some (Value.bool b)) i0)) rfl ?_;refine lB0 rfl ⟨⟩ (fun C0=>?_) fun C0=>?_
   ·refine lT rfl ⟨⟩ rfl ⟨congrArg Value.bool ?_,b0.fin⟩;rw[I9b o0 f0 d0 e0 g0 a0 n0 i0];exact(decide_eq_true C0).symm
   refine lT rfl ⟨⟩ rfl ⟨congrArg Value.bool ?_,b0.fin⟩;rw[I9b o0 f0 d0 e0 g0 a0 n0 i0];exact(decide_eq_false C0).symm
  refine lT rfl ⟨⟩ rfl ⟨congrArg Value.bool ?_,b0.fin⟩;cases hr:s.release
  ·rw[v0d o0 f0 d0 e0 g0 a0 n0 hr];exact(decide_eq_false (by omega)).symm
  ·rw[I9b o0 f0 d0 e0 g0 a0 n0 hr];exact(decide_eq_false (by omega)).symm
 refine lB0 rfl ⟨⟩ (fun x0=>?_) fun x0=>?_
 ·refine lB0 rfl ⟨⟩ (fun y0=>?_) fun y0=>?_
  ·have q6:=a1 (by omega);obtain⟨a2,g1,q1,_,h0,I0,_,_,N0,R0⟩:=RdS.get (Z0) (s.target.toNat) (by omega);obtain⟨rfl,_⟩:=id R0;refine lB (b0.k.a N0) [.o 1,.o 0,.x g1 q1,.f 0 0] rfl ⟨rfl,⟨I0,by omega⟩,rfl,rfl,⟨⟩⟩ (fun D0=>?_) fun D0=>?_
   ·refine lT rfl ⟨⟩ rfl ⟨congrArg Value.bool ?_,b0.fin⟩;rw[r0d f0 d0 e0 g0 a0 x0 h0];rw[decide_eq_true y0];(rw[decide_eq_true D0];rfl)
   refine lT rfl ⟨⟩ rfl ⟨congrArg Value.bool ?_,b0.fin⟩;rw[r0d f0 d0 e0 g0 a0 x0 h0];rw[decide_eq_true y0];(rw[decide_eq_false D0];rfl)
  refine lT rfl ⟨⟩ rfl ⟨congrArg Value.bool ?_,b0.fin⟩;rw[X3c g0 a0 (.inl x0) y0];done
 refine lB0 rfl ⟨⟩ (fun r0=>?_) fun r0=>?_
 ·refine lB0 rfl ⟨⟩ (fun z0=>?_) fun z0=>?_
  ·refine lO b0.k [.w 2,.w 1,.o 0] rfl ⟨rfl,⟨rfl,rfl⟩,⟨rfl,rfl⟩,⟨⟩⟩ ?_;have q6:=a1 (by omega);obtain⟨u,v0⟩:∃u,p.threads[s.target.toNat]?=some u:=⟨p.threads[s.target.toNat]'(by omega),List.getElem?_eq_getElem _⟩;obtain⟨a2,h0⟩:∃a2,c.at_[s.target.toNat]?=some a2:=⟨c.at_[s.target.toNat]'(by omega),List.getElem?_eq_getElem _⟩;obtain⟨tt,_⟩:=Int.eq_ofNat_of_zero_le q6.1;have m1:s.target.toNat=tt:=by omega
   refine C0a b0 m9c rfl rfl ((by have z:=x0c p c s.target.toNat u a2 M _ _ _ (hI.keep (b0.keep0 M)).rd (hX.keep (b0.keep0 M)) v0 h0 (hp.thread v0).points;rw[show((s.target.toNat:Nat):Int)=s.target by omega] at z;exact z)) (fun A0 s1 p0 V0=>?_) (fun A0 s1 p0 V0=>?_)
   ·replace hv:=hv.keep (V0.of_nil);obtain⟨b2,h1,r1,_,t0,J0,_,_,O0,S0⟩:=RdS.get (s0) (s.target.toNat) (by omega);obtain⟨_,_,_,rfl,_,j0,_⟩:=F3a.open_ S0;refine lB (p0.k.a O0) [.o 1,.o 0,.x h1 r1,.f 0 0] rfl ⟨rfl,⟨J0,by omega⟩,rfl,rfl,⟨⟩⟩ (fun E0=>?_) fun E0=>?_
    ·refine lT rfl ⟨⟩ rfl ⟨congrArg Value.bool ?_,p0.fin⟩;rw[D0d f0 d0 e0 g0 a0 r0 h0 v0 t0 j0];rw[decide_eq_true z0,decide_eq_true (of_decide_eq_true A0)];(rw[decide_eq_true E0];rfl)
    refine lT rfl ⟨⟩ rfl ⟨congrArg Value.bool ?_,p0.fin⟩;rw[D0d f0 d0 e0 g0 a0 r0 h0 v0 t0 j0];rw[decide_eq_true z0,decide_eq_true (of_decide_eq_true A0)];(rw[decide_eq_false E0];rfl)
   refine lT rfl ⟨⟩ rfl ⟨congrArg Value.bool ?_,p0.fin⟩;rw[S9c r0 h0 v0 (of_decide_eq_false A0)];done
  refine lT rfl ⟨⟩ rfl ⟨congrArg Value.bool ?_,b0.fin⟩;rw[X3c g0 a0 (.inr r0) z0];done
 refine lB0 rfl ⟨⟩ (fun F0=>?_) fun F0=>?_
 ·refine lT rfl ⟨⟩ rfl ⟨congrArg Value.bool ?_,b0.fin⟩;rw[T7b f0 d0 e0 g0 a0 (by omega)];exact(decide_eq_true F0).symm
 refine lT rfl ⟨⟩ rfl ⟨congrArg Value.bool ?_,b0.fin⟩;rw[T7b f0 d0 e0 g0 a0 (by omega)];exact(decide_eq_false F0).symm
theorem z6a(p:f0a)(c:q0a)(m:Int)(hm:(m=0∧t3a c)∨m=1∨m=2)(M Mx:List Nat)(w0:World)(cs xs:List Value)(hI:InP p M w0 cs)(hX:t0a M w0 c xs)(hf:c3a p c)(I1:∀g∈Mx,g<w0.heap.size):
 M0a Tryz.prog 12 #[.agg cs.toArray,.int .i64 m,.agg xs.toArray] w0 fun v w'=>Q8b Mx w' v (G0a p m c)∧Below w0.heap.size w0 w':=by
 obtain⟨Ac,nc,cc,Am,nm,cm,Al,nl,cl,At,nt,ct,rfl,_,_,_,o1,_,_,_,_,_,_,_,_⟩:=hI.rd.open_;obtain⟨Xm,xm,ym,Xa,xa,ya,Xb,xb,yb,rfl,_,_,h0,_,_,_,_,_,_⟩:=hX.open_;have hp:=hI.ok;have f3:=hf.nbuf;have n2:=hp.nthreads;have S:=(St.refl w0).nilEnt 44;refine a0a Tryz.func12 rfl Tryz.ntmps12 rfl ?_;refine wO0 rfl ⟨⟩ (h0a S (by conv=>lhs;whnf) rfl ?_);intro g3 w3 S3 X3 G3;refine h0a S3 (by conv=>lhs;whnf) rfl ?_;intro g5 w5 S5 X5 G5;refine lO S5.k [.w 1,.w 0] rfl ⟨⟨rfl,rfl⟩,⟨rfl,rfl⟩,⟨⟩⟩ (g0a S5 e5c rfl rfl (U3b p c m hm M _ _ _ (hI.keep (S5.keep0 M)) (hX.keep (S5.keep0 M)) hf) ?_);intro r2 q1 d2;refine lC0 rfl ⟨⟩ (wL (fun μk D ε w=>D=[]∧∃k:Nat,∃G:Option Nat,∃u0:List Value,∃v:Value,(k+μk=(p.threads.length))∧(B1a (fun _ _=>M1a) 3 [] w0 G u0 v (Z1a p m c k))∧St [] w0 w [(some g5,38,[.slice Xm xm ym,.slice Xa xa ya,.slice Xb xb yb]),(some g3,27,[.slice Ac nc cc,.slice Am nm cm,.slice Al nl cl,.slice At nt ct]),(G,44,u0)]∧Sl ε [(1,.int .i64 m),(3,.pointer (some ⟨g3,0,none⟩)),(5,.pointer (some ⟨g5,0,none⟩)),(7,v),(8,.int .i64 k)]) (μ:=(p.threads.length)) ⟨rfl,0,none,[],.slice none 0 0,by omega,B1a.nil,q1,rfl⟩ ?_);rintro μk D ε w ⟨rfl,k,G,u0,v,_,i0,S,eZ⟩;refine wK eZ (wB S.k [.o 1] rfl ⟨rfl,⟨⟩⟩ (fun F1=>?_) fun F1=>?_)
 ·obtain⟨th,a0⟩:∃th,p.threads[k]?=some th:=⟨p.threads[k]'(by omega),List.getElem?_eq_getElem _⟩;obtain⟨b,g0⟩:∃b,c.buf[k]?=some b:=⟨c.buf[k]'(by omega),List.getElem?_eq_getElem _⟩;have o2:=(hp.thread a0).nsteps;have q3:=hf.bufs k b g0;refine lC0 rfl ⟨⟩ (wL (fun μj D ε w=>D=[]∧∃j:Nat,∃G2:Option Nat,∃cs2:List Value,∃v2:Value,(j+μj=(th.steps.length))∧(B1a (fun _ _=>M1a) 3 [] w0 G2 cs2 v2 (Z1a p m c k++k2a p m c k j))∧St [] w0 w [(some g5,38,[.slice Xm xm ym,.slice Xa xa ya,.slice Xb xb yb]),(some g3,27,[.slice Ac nc cc,.slice Am nm cm,.slice Al nl cl,.slice At nt ct]),(G2,44,cs2)]∧Sl ε [(1,.int .i64 m),(3,.pointer (some ⟨g3,0,none⟩)),(5,.pointer (some ⟨g5,0,none⟩)),(7,v2),(8,.int .i64 k),(9,.int .i64 j)]) (μ:=(th.steps.length)) ⟨rfl,0,G,u0,v,by omega,by simpa[k2a] using i0,S,rfl⟩ ?_);rintro μj D ε w ⟨rfl,j,G2,cs2,v2,_,b0,S,eZ⟩;refine wK eZ ?_;obtain⟨_,u1,K1,_,Z0,A0,_,_,I0,S0⟩:=RdS.get (o1) (k) (by omega);obtain rfl:=Option.some.inj (a0.symm.trans Z0);obtain⟨_,_,_,_,_,_,_,_,_,_,_,_,rfl,_,_,_,_,_,_,_,_,_,_,_,_,_⟩:=N0a.open_ S0;refine wB (S.k.a I0) [.o 1,.x u1 K1,.f 0 4] rfl ⟨rfl,⟨A0,by omega⟩,rfl,⟨⟩⟩ (fun G1=>?_) fun G1=>?_
  ·refine lC0 rfl ⟨⟩ (v0a b0a [0,1,2,3,4,5,6,7,8,9,10,11,12,13] [] [] (by kernel_rfl) rfl (Cl _ _ _ _) (Cl.start S) ?_);obtain⟨_,v1,M1,_,a1,B0,_,_,J0,T0⟩:=RdS.get (o1) (k) (by omega);obtain rfl:=Option.some.inj (a0.symm.trans a1);obtain⟨_,_,_,_,_,_,_,_,_,_,_,_,rfl,_,_,_,s0,_,_,_,_,_,_,_,_,_⟩:=N0a.open_ T0;obtain⟨s,x1,N1,_,h1,C0,_,R0,K0,t0⟩:=RdS.get (s0) (j) (by omega);obtain⟨_,_,_,_,_,_,rfl,⟨_,_,_,_,_⟩,_,_,_,_⟩:=q2a.open_ t0;refine qO ((S.q.a K0).a J0) [.w 1,.w 0,.o 1,.x v1 M1,.f 0 4,.x x1 N1,.v 1] rfl ⟨⟨rfl,R0⟩,⟨C0,by omega⟩,rfl,⟨B0,by omega⟩,rfl,⟨rfl,rfl⟩,⟨rfl,rfl⟩,⟨⟩⟩ (Y1a h9c rfl rfl (fun w1 S1 X1=>X4b p c m k j th s M _ _ _ _ (hI.keep (S1.keep0 M)) (hX.keep (S1.keep0 M)) (q2a.keep (S1.keep0 M) _ _ t0) hf a0 h1) (fun y0=>?_) fun y0=>?_)
   ·refine qD rfl ⟨⟩ ?_;rintro i1 ⟨e0,v0⟩;refine lOn 4 e0.k [] rfl ⟨⟩ (Z0a (by conv=>lhs;whnf) rfl ?_);refine lO0 rfl ⟨⟩ (f1a f4b (vs:=[(0,.int .i64 _),(1,.int .i64 _)]) (cs:=[_,_,_]) rfl rfl rfl rfl ?_);refine u0a e0 W2a (vs:=[.agg _]) (cs:=[_,_,_]) (by rfl) rfl rfl rfl rfl rfl rfl ?_;intro j2 s2 j1 f2 Y1;have l1:=X1a hp hf m k (by omega);have l2:=O3a p m c k j;refine Y0a K1a (k:=3) (M2:=[]) (e1:=⟨k,j,0⟩) j1 W2a (by decide) rfl b0 rfl rfl (j1.cells 0 rfl) (M1a.of (by unfold i64;omega) (by unfold i64;omega) (by unfold i64;omega)) (by rw[List.length_append];omega) rfl ?_;intro p2 Z1 D1 t2 r1 j0 g2 V1;refine P0a (by conv=>lhs;whnf) rfl ?_;refine lP0 rfl ⟨by omega,⟨⟩⟩ ⟨μj-1,by omega,rfl,(j+1),(_),(_),(_),(by omega),?_,r1.tail,rfl⟩;rw[i7a a0 h1 y0,←List.append_assoc];exact j0
   refine qD rfl ⟨⟩ ?_;rintro i1 ⟨e0,v0⟩;refine lP0 rfl ⟨by omega,⟨⟩⟩ ⟨μj-1,by omega,rfl,(j+1),(_),(_),(_),(by omega),?_,e0,rfl⟩;rw[I8a a0 h1 y0];exact b0
  refine lC0 rfl ⟨⟩ ?_;refine wL (fun μi D ε w=>D=[]∧∃i:Nat,∃G3:Option Nat,∃x0:List Value,∃v3:Value,(i+μi=(b.length))∧(B1a (fun _ _=>M1a) 3 [] w0 G3 x0 v3 (Z1a p m c k++k2a p m c k th.steps.length++Y2a m c k i))∧St [] w0 w [(some g5,38,[.slice Xm xm ym,.slice Xa xa ya,.slice Xb xb yb]),(some g3,27,[.slice Ac nc cc,.slice Am nm cm,.slice Al nl cl,.slice At nt ct]),(G3,44,x0)]∧Sl ε [(1,.int .i64 m),(3,.pointer (some ⟨g3,0,none⟩)),(5,.pointer (some ⟨g5,0,none⟩)),(7,v3),(8,.int .i64 k),(10,.int .i64 i)]) (μ:=(b.length)) ⟨rfl,0,G2,cs2,v2,by omega,(by rw[show j=th.steps.length by omega] at b0;simpa[Y2a] using b0),S,rfl⟩ ?_;rintro μi D ε w ⟨rfl,i,G3,x0,v3,_,d0,S,eZ⟩;refine wK eZ ?_;obtain⟨_,y1,O1,_,b1,D0,_,_,L0,U0⟩:=RdS.get (h0) (k) (by omega);obtain rfl:=Option.some.inj (g0.symm.trans b1);obtain⟨_,_,_,rfl,_,_,_⟩:=F3a.open_ U0;refine wB (S.k.a L0) [.o 0,.x y1 O1,.f 0 0] rfl ⟨rfl,⟨D0,by omega⟩,rfl,⟨⟩⟩ (fun H1=>?_) fun H1=>?_
  ·obtain⟨_,z1,P1,_,d1,E0,_,_,N0,V0⟩:=RdS.get (h0) (k) (by omega);obtain rfl:=Option.some.inj (g0.symm.trans d1);obtain⟨_,_,_,rfl,p0,_,_⟩:=F3a.open_ V0;refine lO (S.k.a N0) [.o 0,.x z1 P1,.f 0 0] rfl ⟨rfl,⟨E0,by omega⟩,rfl,⟨⟩⟩ ?_;obtain⟨en,f0⟩:∃en,b[i]?=some en:=⟨b[i]'(by omega),List.getElem?_eq_getElem _⟩;have q4:=q3.2.1 en (c0a f0);have q5:0<en.cells.length:=List.length_pos_iff.2 q4.some_;refine C0a S L9c rfl rfl (v8b m b i en f0 M _ _ (RdS.keepW p0 (S.keep0 M) (I0a.keep (S.keep0 M)))) (fun z0 U1 o0 t1=>?_) (fun z0 U1 o0 t1=>?_)
   ·refine lOn 4 o0.k [] rfl ⟨⟩ (Z0a (by conv=>lhs;whnf) rfl ?_);obtain⟨_,A1,Q1,_,f1,F0,_,_,O0,W0⟩:=RdS.get (h0) (k) (by omega);obtain rfl:=Option.some.inj (g0.symm.trans f1);obtain⟨_,_,_,rfl,q0,_,_⟩:=F3a.open_ W0;obtain⟨_,B1,R1,_,g1,G0,_,_,P0,X0⟩:=RdS.get (q0) (i) (by omega);obtain rfl:=Option.some.inj (f0.symm.trans g1);obtain⟨_,_,_,_,_,_,rfl,r0,_,_,_,_,_⟩:=I0a.open_ X0;obtain⟨n,C1,T1,_,p1,H0,_,_,Q0,Y0⟩:=RdS.get (r0) (0) (by omega);obtain⟨rfl,_⟩:=id Y0;have J1:=getD_some (d:=0) p1;refine lO (((o0.k.a Q0).a P0).a O0) [.o 0,.x A1 Q1,.f 0 0,.x B1 R1,.f 1 0,.x C1 T1,.f 2 0] rfl ⟨rfl,⟨H0,by omega⟩,rfl,⟨G0,by omega⟩,rfl,⟨F0,by omega⟩,rfl,⟨⟩⟩ (f1a f4b (vs:=[(0,.int .i64 _),(1,.int .i64 _),(2,.int .i64 _)]) (cs:=[_,_,_]) rfl rfl rfl rfl ?_);refine u0a o0 W2a (vs:=[.agg _]) (cs:=[_,_,_]) (by rfl) rfl rfl rfl rfl rfl rfl ?_;intro m2 u2 m1 h2 a2;have l1:=X1a hp hf m k (by omega);have l2:=O3a p m c k th.steps.length;have l3:=w7a m c k i;have q6:=q4.i64s n (c0a p1);have n1:=hp.ncells;refine Y0a K1a (k:=3) (M2:=[]) (e1:=⟨k,-1,n⟩) m1 W2a (by decide) rfl d0 rfl rfl (m1.cells 0 rfl) (M1a.of (by unfold i64;omega) (by unfold i64;omega) (by unfold i64;omega)) (by rw[List.length_append,List.length_append];omega) rfl ?_;intro q2 b2 E1 w2 s1 n0 i2 W1;refine P0a (by conv=>lhs;whnf) rfl ?_;refine lP0 rfl ⟨by omega,⟨⟩⟩ ⟨μi-1,by omega,rfl,(i+1),(_),(_),(_),(by omega),?_,s1.tail,rfl⟩;rw[G0b (by rw[getD_some g0];exact z0),getD_some g0,getD_some f0,J1,←List.append_assoc];exact n0
   refine lP0 rfl ⟨by omega,⟨⟩⟩ ⟨μi-1,by omega,rfl,(i+1),(_),(_),(_),(by omega),?_,o0,rfl⟩;rw[f1b (by rw[getD_some g0];exact z0)];exact d0
  refine lP0 rfl ⟨by omega,⟨⟩⟩ ⟨μk-1,by omega,rfl,(k+1),(_),(_),(_),(by omega),?_,S,rfl⟩;rw[U3a,J5a,j2a a0,getD_some g0,←List.append_assoc,show b.length=i by omega];exact d0
 refine lOn 7 S.k [] rfl ⟨⟩ (Z0a (by conv=>lhs;whnf) rfl ?_);refine P0a (by conv=>lhs;whnf) rfl ?_;refine lR0 rfl ⟨⟩ (o0a rfl (by conv=>lhs;whnf) ?_);obtain rfl:k=p.threads.length:=by omega
 have l1:=X1a hp hf m _ (Nat.le_refl _);rw[C5a] at l1 i0;exact⟨B1a.rd (M:=Mx) (w:=w) K1a i0 S (k:=2) rfl (fun g hg hh=>by subst hg;have z:=S.new 2 rfl;have z2:=I1 g hh;simp at z;omega) (by omega),S.fin⟩
theorem r1b(M:List Nat)(w0:World)(v:Value)(l:List Int)(hR:RdI M w0 v l)(hl:l.length≤1000000):
 M0a Tryz.prog 80 #[v] w0 fun v w'=>x6a 3 w0 w' v l∧Below w0.heap.size w0 w':=h6a l M w0 v hR hl
theorem D1b(Mx M:List Nat)(w0:World)(v:Value)(l:List Int)(hR:RdI M w0 v l)(hl:l.length≤1000000)(hM:∀g∈Mx,g<w0.heap.size):
 M0a Tryz.prog 80 #[v] w0 fun v w'=>RdI Mx w' v l∧Below w0.heap.size w0 w' :=
 (h6a l M w0 v hR hl).mono fun _ _ h=>⟨h.1.rd hM hR.i64s h.2 (by omega),h.2⟩
theorem C4b(p:f0a)(hp:d1a p)(c:q0a)(M:List Nat)(w0:World)(hM:∀g∈M,g<w0.heap.size)(xs:List Value)(hX:t0a M w0 c xs)(hf:c3a p c):
 M0a Tryz.prog 43 #[.agg xs.toArray] w0 fun v w'=>j1c M w0 w' c v∧Below w0.heap.size w0 w':=by
 obtain⟨Xm,xm,ym,Xa,xa,ya,Xb,xb,yb,rfl,x1,u2,O0,_,_,U1,_,_,_⟩:=hX.open_;have S:=St.refl w0;have f1:=hf.mem.len;have f2:=hf.nat;have n1:=hp.ncells;have n2:=hp.nthreads;have f3:=hf.nbuf;refine a0a Tryz.func43 rfl Tryz.ntmps43 rfl ?_;refine wO0 rfl ⟨⟩ (h0a S (by conv=>lhs;whnf) rfl ?_);intro g1 w1 S1 X1 G1;refine m0a S1 Q3a rfl rfl ?_;intro g2 w2 S2 X2 G2;refine lC0 rfl ⟨⟩ (H8b b0a (by kernel_rfl) (fun f ε w=>ε 1=.pointer (some ⟨g1,0,none⟩)∧ε 2=.pointer (some ⟨g2,0,none⟩)∧∃f0 E9 E5 E2:Ent,St [] w0 w [f0,E9,E5,E2,(some g2,38,[.slice none 0 0,.slice none 0 0,.slice none 0 0]),(some g1,38,[.slice Xm xm ym,.slice Xa xa ya,.slice Xb xb yb])]∧(f 0=true→ε 7=.pointer (some ⟨g1,0,none⟩))∧(f 1=true→ε 8=.slice Xm xm ym)∧(f 2=true→∃G cs A n c',ε 9=.slice A n c'∧E2=(G,3,cs)∧d3a G 1 c.mem.length cs (.slice A n c') (c.mem.map (Value.int .i64)))∧(f 3=true→ε 10=.pointer (some ⟨g1,1,none⟩))∧(f 4=true→ε 11=.slice Xa xa ya)∧(f 5=true→∃G cs A n c',ε 12=.slice A n c'∧E5=(G,3,cs)∧d3a G 1 c.at_.length cs (.slice A n c') (c.at_.map (Value.int .i64)))∧(f 6=true→ε 13=.pointer (some ⟨g1,2,none⟩))∧(f 7=true→ε 14=.slice Xb xb yb)∧(f 8=true→ε 15=.int .i64 xb)∧(f 9=true→∃g,ε 16=.slice (some ⟨g,0,none⟩) xb xb∧E9=(some g,86,List.replicate xb (.slice none 0 0)))∧(f 10=true→(f 2=true∧f 5=true∧f 9=true)∧ε 17=.agg #[ε 9,ε 12,ε 16])∧(f 11=true→f 12=false→∃g,ε 3=.pointer (some ⟨g,0,none⟩)∧f0=(some g,38,[.slice none 0 0,.slice none 0 0,.slice none 0 0]))∧(f 12=true→(∀k,k<12→f k=true)∧∃g,ε 3=.pointer (some ⟨g,0,none⟩)∧f0=(some g,38,[ε 9,ε 12,ε 16]))) ?_ ?_ ?_)
 ·exact⟨rfl,rfl,(none,0,[]),(none,0,[]),(none,0,[]),(none,0,[]),((((S2.drew.nilEnt 0).nilEnt 0).nilEnt 0).nilEnt 0),by simp,by simp,by simp,by simp,by simp,by simp,by simp,by simp,by simp,by simp,by simp,by simp,by simp⟩
 ·rintro f ε w i o ⟨e1,e2,f0,E9,E5,E2,S,h0,h1,h2,h3,h4,h5,h6,h7,h8,h9,b0,p0,i0⟩ ho g0 q0;have hi:i<13:=(List.getElem?_eq_some_iff.1 ho).1;refine b1a 1 e1 (b1a 2 e2 ?_);rcases(show i=0∨i=1∨i=2∨i=3∨i=4∨i=5∨i=6∨i=7∨i=8∨i=9∨i=10∨i=11∨i=12 by omega) with rfl|rfl|rfl|rfl|rfl|rfl|rfl|rfl|rfl|rfl|rfl|rfl|rfl
  ·cases ho;refine P3a M2b rfl rfl ?_;refine L0a ⟨rfl,rfl,rfl,f0,E9,E5,E2,S,fun _=>rfl,fun hh=>h1 (by simpa using hh),fun hh=>h2 (by simpa using hh),fun hh=>h3 (by simpa using hh),fun hh=>h4 (by simpa using hh),fun hh=>h5 (by simpa using hh),fun hh=>h6 (by simpa using hh),fun hh=>h7 (by simpa using hh),fun hh=>h8 (by simpa using hh),fun hh=>h9 (by simpa using hh),fun hh=>⟨⟨by simp[(b0 (by simpa using hh)).1.1],by simp[(b0 (by simpa using hh)).1.2.1],by simp[(b0 (by simpa using hh)).1.2.2]⟩,(b0 (by simpa using hh)).2⟩,fun hh e0=>p0 (by simpa using hh) (by simpa using e0),fun hh=>absurd ((i0 (by simpa using hh)).1 0 (by omega)) (by simp[g0])⟩
  ·cases ho;refine b1a 7 (h0 (q0 0 (by decide))) ?_;refine s0a O2a rfl (S.cell 5 rfl rfl) rfl ?_;refine L0a ⟨rfl,rfl,rfl,f0,E9,E5,E2,S,fun _=>rfl,fun _=>rfl,fun hh=>h2 (by simpa using hh),fun hh=>h3 (by simpa using hh),fun hh=>h4 (by simpa using hh),fun hh=>h5 (by simpa using hh),fun hh=>h6 (by simpa using hh),fun hh=>h7 (by simpa using hh),fun hh=>h8 (by simpa using hh),fun hh=>h9 (by simpa using hh),fun hh=>⟨⟨by simp[(b0 (by simpa using hh)).1.1],by simp[(b0 (by simpa using hh)).1.2.1],by simp[(b0 (by simpa using hh)).1.2.2]⟩,(b0 (by simpa using hh)).2⟩,fun hh e0=>p0 (by simpa using hh) (by simpa using e0),fun hh=>absurd ((i0 (by simpa using hh)).1 1 (by omega)) (by simp[g0])⟩
  ·cases ho;refine b1a 8 (h1 (q0 1 (by decide))) ?_;refine c2a I0b rfl rfl (r1b M _ _ c.mem (x1.keep (S.keep0 M)) (by omega)) ?_;rintro v w1 ⟨hN,hB⟩;obtain⟨G,C0,R1,S1⟩:=hN.open_ (S.later hB) S;obtain⟨A,n,c',rfl⟩:=R1.form;refine L0a ⟨rfl,rfl,rfl,f0,E9,E5,(G,3,C0),S1.place 3,fun hh=>h0 (by simpa using hh),fun _=>rfl,fun _=>⟨G,C0,A,n,c',rfl,rfl,R1⟩,fun hh=>h3 (by simpa using hh),fun hh=>h4 (by simpa using hh),fun hh=>h5 (by simpa using hh),fun hh=>h6 (by simpa using hh),fun hh=>h7 (by simpa using hh),fun hh=>h8 (by simpa using hh),fun hh=>h9 (by simpa using hh),fun hh=>absurd (b0 (by simpa using hh)).1.1 (by simp[g0]),fun hh e0=>p0 (by simpa using hh) (by simpa using e0),fun hh=>absurd ((i0 (by simpa using hh)).1 2 (by omega)) (by simp[g0])⟩
  ·cases ho;refine P3a j3b rfl rfl ?_;refine L0a ⟨rfl,rfl,rfl,f0,E9,E5,E2,S,fun hh=>h0 (by simpa using hh),fun hh=>h1 (by simpa using hh),fun hh=>h2 (by simpa using hh),fun _=>rfl,fun hh=>h4 (by simpa using hh),fun hh=>h5 (by simpa using hh),fun hh=>h6 (by simpa using hh),fun hh=>h7 (by simpa using hh),fun hh=>h8 (by simpa using hh),fun hh=>h9 (by simpa using hh),fun hh=>⟨⟨by simp[(b0 (by simpa using hh)).1.1],by simp[(b0 (by simpa using hh)).1.2.1],by simp[(b0 (by simpa using hh)).1.2.2]⟩,(b0 (by simpa using hh)).2⟩,fun hh e0=>p0 (by simpa using hh) (by simpa using e0),fun hh=>absurd ((i0 (by simpa using hh)).1 3 (by omega)) (by simp[g0])⟩
  ·cases ho;refine b1a 10 (h3 (q0 3 (by decide))) ?_;refine s0a O2a rfl (S.cell 5 rfl rfl) rfl ?_;refine L0a ⟨rfl,rfl,rfl,f0,E9,E5,E2,S,fun hh=>h0 (by simpa using hh),fun hh=>h1 (by simpa using hh),fun hh=>h2 (by simpa using hh),fun _=>rfl,fun _=>rfl,fun hh=>h5 (by simpa using hh),fun hh=>h6 (by simpa using hh),fun hh=>h7 (by simpa using hh),fun hh=>h8 (by simpa using hh),fun hh=>h9 (by simpa using hh),fun hh=>⟨⟨by simp[(b0 (by simpa using hh)).1.1],by simp[(b0 (by simpa using hh)).1.2.1],by simp[(b0 (by simpa using hh)).1.2.2]⟩,(b0 (by simpa using hh)).2⟩,fun hh e0=>p0 (by simpa using hh) (by simpa using e0),fun hh=>absurd ((i0 (by simpa using hh)).1 4 (by omega)) (by simp[g0])⟩
  ·cases ho;refine b1a 11 (h4 (q0 4 (by decide))) ?_;refine c2a I0b rfl rfl (r1b M _ _ c.at_ (u2.keep (S.keep0 M)) (by omega)) ?_;rintro v w1 ⟨hN,hB⟩;obtain⟨G,C0,R1,S1⟩:=hN.open_ (S.later hB) S;obtain⟨A,n,c',rfl⟩:=R1.form;refine L0a ⟨rfl,rfl,rfl,f0,E9,(G,3,C0),E2,S1.place 2,fun hh=>h0 (by simpa using hh),fun hh=>h1 (by simpa using hh),fun hh=>h2 (by simpa using hh),fun hh=>h3 (by simpa using hh),fun _=>rfl,fun _=>⟨G,C0,A,n,c',rfl,rfl,R1⟩,fun hh=>h6 (by simpa using hh),fun hh=>h7 (by simpa using hh),fun hh=>h8 (by simpa using hh),fun hh=>h9 (by simpa using hh),fun hh=>absurd (b0 (by simpa using hh)).1.2.1 (by simp[g0]),fun hh e0=>p0 (by simpa using hh) (by simpa using e0),fun hh=>absurd ((i0 (by simpa using hh)).1 5 (by omega)) (by simp[g0])⟩
  ·cases ho;refine P3a y3a rfl rfl ?_;refine L0a ⟨rfl,rfl,rfl,f0,E9,E5,E2,S,fun hh=>h0 (by simpa using hh),fun hh=>h1 (by simpa using hh),fun hh=>h2 (by simpa using hh),fun hh=>h3 (by simpa using hh),fun hh=>h4 (by simpa using hh),fun hh=>h5 (by simpa using hh),fun _=>rfl,fun hh=>h7 (by simpa using hh),fun hh=>h8 (by simpa using hh),fun hh=>h9 (by simpa using hh),fun hh=>⟨⟨by simp[(b0 (by simpa using hh)).1.1],by simp[(b0 (by simpa using hh)).1.2.1],by simp[(b0 (by simpa using hh)).1.2.2]⟩,(b0 (by simpa using hh)).2⟩,fun hh e0=>p0 (by simpa using hh) (by simpa using e0),fun hh=>absurd ((i0 (by simpa using hh)).1 6 (by omega)) (by simp[g0])⟩
  ·cases ho;refine b1a 13 (h6 (q0 6 (by decide))) ?_;refine s0a K3a rfl (S.cell 5 rfl rfl) rfl ?_;refine L0a ⟨rfl,rfl,rfl,f0,E9,E5,E2,S,fun hh=>h0 (by simpa using hh),fun hh=>h1 (by simpa using hh),fun hh=>h2 (by simpa using hh),fun hh=>h3 (by simpa using hh),fun hh=>h4 (by simpa using hh),fun hh=>h5 (by simpa using hh),fun _=>rfl,fun _=>rfl,fun hh=>h8 (by simpa using hh),fun hh=>h9 (by simpa using hh),fun hh=>⟨⟨by simp[(b0 (by simpa using hh)).1.1],by simp[(b0 (by simpa using hh)).1.2.1],by simp[(b0 (by simpa using hh)).1.2.2]⟩,(b0 (by simpa using hh)).2⟩,fun hh e0=>p0 (by simpa using hh) (by simpa using e0),fun hh=>absurd ((i0 (by simpa using hh)).1 7 (by omega)) (by simp[g0])⟩
  ·cases ho;refine b1a 14 (h7 (q0 7 (by decide))) ?_;refine N7c V2a.slT rfl rfl ?_;refine L0a ⟨rfl,rfl,rfl,f0,E9,E5,E2,S,fun hh=>h0 (by simpa using hh),fun hh=>h1 (by simpa using hh),fun hh=>h2 (by simpa using hh),fun hh=>h3 (by simpa using hh),fun hh=>h4 (by simpa using hh),fun hh=>h5 (by simpa using hh),fun hh=>h6 (by simpa using hh),fun _=>rfl,fun _=>rfl,fun hh=>h9 (by simpa using hh),fun hh=>⟨⟨by simp[(b0 (by simpa using hh)).1.1],by simp[(b0 (by simpa using hh)).1.2.1],by simp[(b0 (by simpa using hh)).1.2.2]⟩,(b0 (by simpa using hh)).2⟩,fun hh e0=>p0 (by simpa using hh) (by simpa using e0),fun hh=>absurd ((i0 (by simpa using hh)).1 8 (by omega)) (by simp[g0])⟩
  ·cases ho;refine b1a 15 (h8 (q0 8 (by decide))) ?_;refine z1b (n:=xb) (c:=xb) S V2a rfl rfl (by omega) (by omega) (by omega) rfl rfl ?_;intro g w1 S1 X1 G1;refine L0a ⟨rfl,rfl,rfl,f0,(some g,86,List.replicate xb (.slice none 0 0)),E5,E2,S1.place 1,fun hh=>h0 (by simpa using hh),fun hh=>h1 (by simpa using hh),fun hh=>h2 (by simpa using hh),fun hh=>h3 (by simpa using hh),fun hh=>h4 (by simpa using hh),fun hh=>h5 (by simpa using hh),fun hh=>h6 (by simpa using hh),fun hh=>h7 (by simpa using hh),fun _=>rfl,fun _=>⟨g,rfl,rfl⟩,fun hh=>absurd (b0 (by simpa using hh)).1.2.2 (by simp[g0]),fun hh e0=>p0 (by simpa using hh) (by simpa using e0),fun hh=>absurd ((i0 (by simpa using hh)).1 9 (by omega)) (by simp[g0])⟩
  ·cases ho;obtain⟨G2,cs2,A2,n2,c2,q2,r2⟩:=h2 (q0 2 (by decide));obtain⟨G5,o1,A5,n5,c5,q5,r5⟩:=h5 (q0 5 (by decide));obtain⟨g9,q9,r9⟩:=h9 (q0 9 (by decide));refine b1a 9 q2 (b1a 12 q5 (b1a 16 q9 ?_));refine f1a u4a (vs:=[(0,.slice _ _ _),(1,.slice _ _ _),(2,.slice _ _ _)]) (cs:=[_,_,_]) rfl rfl rfl rfl ?_;refine L0a ⟨rfl,rfl,rfl,f0,E9,E5,E2,S,fun hh=>h0 (by simpa using hh),fun hh=>h1 (by simpa using hh),fun _=>⟨G2,cs2,A2,n2,c2,rfl,r2⟩,fun hh=>h3 (by simpa using hh),fun hh=>h4 (by simpa using hh),fun _=>⟨G5,o1,A5,n5,c5,rfl,r5⟩,fun hh=>h6 (by simpa using hh),fun hh=>h7 (by simpa using hh),fun hh=>h8 (by simpa using hh),fun _=>⟨g9,rfl,r9⟩,fun _=>⟨⟨by simp[q0 2 (by decide)],by simp[q0 5 (by decide)],by simp[q0 9 (by decide)]⟩,rfl⟩,fun hh e0=>p0 (by simpa using hh) (by simpa using e0),fun hh=>absurd ((i0 (by simpa using hh)).1 10 (by omega)) (by simp[g0])⟩
  ·cases ho;refine m0a S Q3a rfl rfl ?_;intro g w1 S1 X1 G1;refine L0a ⟨rfl,rfl,rfl,(some g,38,[.slice none 0 0,.slice none 0 0,.slice none 0 0]),E9,E5,E2,S1.place 0,fun hh=>h0 (by simpa using hh),fun hh=>h1 (by simpa using hh),fun hh=>h2 (by simpa using hh),fun hh=>h3 (by simpa using hh),fun hh=>h4 (by simpa using hh),fun hh=>h5 (by simpa using hh),fun hh=>h6 (by simpa using hh),fun hh=>h7 (by simpa using hh),fun hh=>h8 (by simpa using hh),fun hh=>h9 (by simpa using hh),fun hh=>⟨⟨by simp[(b0 (by simpa using hh)).1.1],by simp[(b0 (by simpa using hh)).1.2.1],by simp[(b0 (by simpa using hh)).1.2.2]⟩,(b0 (by simpa using hh)).2⟩,fun _ _=>⟨g,rfl,rfl⟩,fun hh=>absurd ((i0 (by simpa using hh)).1 11 (by omega)) (by simp[g0])⟩
  ·cases ho;have d0:∀k,k<12→f k=true:=fun k hk=>q0 k (by revert k;decide);obtain⟨g,q3,rfl⟩:=p0 (d0 11 (by omega)) g0;have V0:=(b0 (d0 10 (by omega))).2;obtain⟨G2,cs2,A2,n2,c2,q2,r2⟩:=h2 (d0 2 (by omega));obtain⟨G5,o1,A5,n5,c5,q5,r5⟩:=h5 (d0 5 (by omega));obtain⟨g9,q9,r9⟩:=h9 (d0 9 (by omega));rw[q2,q5,q9] at V0;refine b1a 9 q2 (b1a 12 q5 (b1a 16 q9 (b1a 3 q3 (b1a 17 V0 ?_))));refine e0a (kk:=0) (vs:=[_,_,_]) S e2a rfl rfl rfl rfl rfl rfl rfl ?_;intro w1 S1 X1;dsimp only[k0a,List.set] at S1;refine L0a ⟨rfl,rfl,rfl,(some g,38,[.slice A2 n2 c2,.slice A5 n5 c5,.slice (some ⟨g9,0,none⟩) xb xb]),E9,E5,E2,S1,fun hh=>h0 (by simpa using hh),fun hh=>h1 (by simpa using hh),fun _=>⟨G2,cs2,A2,n2,c2,rfl,r2⟩,fun hh=>h3 (by simpa using hh),fun hh=>h4 (by simpa using hh),fun _=>⟨G5,o1,A5,n5,c5,rfl,r5⟩,fun hh=>h6 (by simpa using hh),fun hh=>h7 (by simpa using hh),fun hh=>h8 (by simpa using hh),fun _=>⟨g9,rfl,r9⟩,fun _=>⟨⟨by simp[d0 2 (by omega)],by simp[d0 5 (by omega)],by simp[d0 9 (by omega)]⟩,rfl⟩,fun _ hh=>by simp at hh,fun _=>⟨fun k hk=>by simp[d0 k hk],g,rfl,rfl⟩⟩
 rintro f ε w ⟨e1,e2,f0,E9,E5,E2,S,h0,h1,h2,h3,h4,h5,h6,h7,h8,h9,b0,p0,i0⟩ d0;obtain⟨-,g3,q3,rfl⟩:=i0 (d0 12 (by decide));obtain⟨Gm,q1,Am,nm,cm,V0,rfl,Rm⟩:=h2 (d0 2 (by decide));obtain⟨Ga,p1,Aa,na,ca,W1,rfl,Ra⟩:=h5 (d0 5 (by decide));obtain⟨gb,Y1,rfl⟩:=h9 (d0 9 (by decide));rw[V0,W1,Y1] at S;clear d0 h0 h1 h2 h3 h4 h5 h6 h7 h8 h9 b0 p0 i0 V0 W1 Y1;refine fN 1 e1 (fN 2 e2 (fN 3 q3 ?_));replace S:=S.nils (R:=List.replicate xb (none,88,[])) (fun b hb=>by rw[List.eq_of_mem_replicate hb]);refine fC0 rfl ⟨⟩ ?_;refine wL (fun μk D ε w=>D=[]∧∃k:Nat,∃s0:List Ent,∃vs:List Value,(k+μk=(c.buf.length))∧(J2a 88 (Gm.toList++(Ga.toList++([gb,g3,g2]++M))) w s0 vs (C2a c.buf [] k))∧St [] w0 w ([(some g3,38,[.slice Am nm cm,.slice Aa na ca,.slice (some ⟨gb,0,none⟩) xb xb]),(some gb,86,vs),(Ga,3,p1),(Gm,3,q1),(some g2,38,[.slice none 0 0,.slice none 0 0,.slice none 0 0]),(some g1,38,[.slice Xm xm ym,.slice Xa xa ya,.slice Xb xb yb])]++s0)∧Sl ε [(1,.pointer (some ⟨g1,0,none⟩)),(2,.pointer (some ⟨g2,0,none⟩)),(3,.pointer (some ⟨g3,0,none⟩)),(4,.int .i64 k)]) (μ:=(c.buf.length)) ⟨rfl,0,List.replicate xb (none,88,[]),List.replicate xb (.slice none 0 0),by omega,by rw[I4a,←U1];exact J2a.nil xb,S,rfl⟩ ?_;rintro μk D ε w ⟨rfl,k,s0,vs,hk,hR,S,eZ⟩;refine wK eZ (wO0 rfl ⟨⟩ ?_);refine s0a K3a rfl (by exact S.cell 5 rfl rfl) rfl ?_;refine lB0 rfl ⟨⟩ (fun s2=>?_) fun s2=>?_
 ·obtain⟨b,U0⟩:∃b,c.buf[k]?=some b:=⟨c.buf[k]'(by omega),List.getElem?_eq_getElem _⟩;have q3:=(hf.bufs k b U0);have v2:J2a 88 (Gm.toList++(Ga.toList++([gb,g3,g2]++M))) w s0 vs ((C2a c.buf [] k).set k (b.take 0)):=by rw[List.take_zero,Y2b (A1b (u1a U0))];exact hR
  refine lC0 rfl ⟨⟩ (wL (fun μj D ε w=>D=[]∧∃j:Nat,∃a0:List Ent,∃z0:List Value,(j+μj=(b.length))∧(J2a 88 (Gm.toList++(Ga.toList++([gb,g3,g2]++M))) w a0 z0 ((C2a c.buf [] k).set k (b.take j)))∧St [] w0 w ([(some g3,38,[.slice Am nm cm,.slice Aa na ca,.slice (some ⟨gb,0,none⟩) xb xb]),(some gb,86,z0),(Ga,3,p1),(Gm,3,q1),(some g2,38,[.slice none 0 0,.slice none 0 0,.slice none 0 0]),(some g1,38,[.slice Xm xm ym,.slice Xa xa ya,.slice Xb xb yb])]++a0)∧Sl ε [(1,.pointer (some ⟨g1,0,none⟩)),(2,.pointer (some ⟨g2,0,none⟩)),(3,.pointer (some ⟨g3,0,none⟩)),(4,.int .i64 k),(5,.int .i64 j)]) (μ:=(b.length)) ⟨rfl,0,s0,vs,by omega,v2,S,rfl⟩ ?_);rintro μj D ε w ⟨rfl,j,a0,z0,_,Q0,S,eZ⟩;refine wK eZ ?_;have K:=y0a.refl [] w;have P1:∀g∈(Gm.toList++(Ga.toList++([gb,g3,g2]++M)))++V5a a0,g<w.heap.size:=by
   intro g hg;simp only[List.mem_append,List.mem_cons,List.not_mem_nil,or_false] at hg;rcases hg with(hg|hg|(rfl|rfl|rfl)|hg)|hg
   ·exact a7a S (k:=3) rfl g hg
   ·exact a7a S (k:=2) rfl g hg
   ·exact S.lt 1 rfl
   ·exact S.lt 0 rfl
   ·exact S.lt 4 rfl
   ·have:=hM g hg;have:=S.size;omega
   ·obtain⟨x,hx,hg⟩:=r2a.1 hg;exact(S.own x (List.mem_append_right _ hx) g hg).2.lt
  refine wO0 rfl ⟨⟩ (s0a K3a rfl (by exact S.cell 5 rfl rfl) rfl ?_);obtain⟨_,m2,x2,_,J1,r1,_,_,y1,C1⟩:=RdS.get (O0) (k) (by omega);obtain rfl:=Option.some.inj (U0.symm.trans J1);obtain⟨_,_,_,rfl,_,_,_⟩:=F3a.open_ C1;refine lB (S.k.a y1) [.x m2 x2,.f 0 0] rfl ⟨rfl,⟨r1,by omega⟩,⟨⟩⟩ (fun t2=>?_) fun t2=>?_
  ·refine lO0 rfl ⟨⟩ (s0a K3a rfl (by exact S.cell 5 rfl rfl) rfl ?_);obtain⟨_,o2,y2,_,K1,s1,_,_,z1,D1⟩:=RdS.get (O0) (k) (by omega);obtain rfl:=Option.some.inj (U0.symm.trans K1);obtain⟨_,_,_,rfl,N0,_,_⟩:=F3a.open_ D1;obtain⟨en,p2,z2,_,F0,t1,_,B1,A1,E1⟩:=RdS.get (N0) (j) (by omega);obtain⟨_,_,_,_,_,_,rfl,P0,R0,_,_,_,_⟩:=I0a.open_ E1;have q4:=(q3.2.1 en (c0a F0)).len;have q5:=(q3.2.1 en (c0a F0)).even;unfold E0a.even at q5;refine lO ((S.k.a A1).a z1) [.x o2 y2,.f 0 0,.x p2 z2,.v 1] rfl ⟨⟨rfl,B1⟩,⟨t1,by omega⟩,rfl,⟨s1,by omega⟩,⟨⟩⟩ (m0a S W7a rfl rfl ?_);intro g6 w6 S6 X6 G6;have i2:=Nat.le_trans K.size G6;replace K:=K.trans X6;refine e0a (kk:=0) (vs:=[_,_]) S6 y9a rfl rfl rfl rfl rfl rfl rfl ?_;intro G0 B0 i1;dsimp only[k0a,List.set] at B0;replace K:=K.fresh i1 (by first|exact i2);obtain⟨G,C0,v,X0,V1,F1⟩:=Q0.2.2 k (b.take j) (by rw[List.getElem?_set_self (by simp;omega)]);obtain⟨_,_,rfl⟩:=F1.form;have I2:z0.length=c.buf.length:=by have:=Q0.2.1;simpa using this
   have T1:(b.take j).length=j:=by rw[List.length_take];omega
   have O1:∀g∈G.toList,g∈(Gm.toList++(Ga.toList++([gb,g3,g2]++M)))++V5a a0:=fun g hg=>List.mem_append_right _ (r2a.2 ⟨_,List.mem_of_getElem? X0,by cases G<;>simp at hg ⊢;exact hg.symm⟩);refine lC0 rfl ⟨⟩ (g9a b0a (fun i=>[0,1,2,3,4,5,6,7,8,9,11,12,14,17].contains i) [0,1,2,3,4,5,6,7,8,9,10,11,12,13,14,15,16,17] 18 (by kernel_rfl) (by kernel_rfl) (clF (A:=[_,_,_,_,_,_,_]) (R:=a0) B0 G.toList) _ rfl ?_);have n0:=B0.drew;have j1:y0a [] G0 G0.drew:=s2a _ _;generalize G0.drew=D2 at n0 j1 ⊢;have t0:y0a (G.toList) _ _:=j1.of_nil;replace K:=K.trans j1;refine z1a ⟨(St.front (A:=[_,_,_,_,_,_,_]) n0),t0⟩ rfl rfl rfl ?_;refine z0a y3a rfl rfl ?_;refine d0a ?_;refine z1a ⟨(St.front (A:=[_,_,_,_,_,_,_]) n0),t0⟩ rfl rfl rfl ?_;refine j0a K3a rfl (fun w1 hw=>by exact hw.1.cell 1 rfl rfl) rfl ?_;refine d0a ?_;refine z1a ⟨(St.front (A:=[_,_,_,_,_,_,_]) n0),t0⟩ rfl rfl rfl ?_;refine h1a (v:=.int .i64 _) rfl rfl ?_;refine d0a ?_;refine z1a ⟨(St.front (A:=[_,_,_,_,_,_,_]) n0),t0⟩ rfl rfl rfl ?_;refine z0a y3a rfl rfl ?_;refine d0a ?_;refine z1a ⟨(St.front (A:=[_,_,_,_,_,_,_]) n0),t0⟩ rfl rfl rfl ?_;refine j0a K3a rfl (fun w1 hw=>by exact hw.1.cell 1 rfl rfl) rfl ?_;refine d0a ?_;refine z1a ⟨(St.front (A:=[_,_,_,_,_,_,_]) n0),t0⟩ rfl rfl rfl ?_;refine h1a (v:=.int .i64 _) rfl rfl ?_;refine d0a ?_;refine z1a ⟨(St.front (A:=[_,_,_,_,_,_,_]) n0),t0⟩ rfl rfl rfl ?_;refine n0a V2a.slT rfl (by rfl) rfl (by omega) (by omega) rfl ?_;refine d0a ?_;refine z1a ⟨(St.front (A:=[_,_,_,_,_,_,_]) n0),t0⟩ rfl rfl rfl ?_;refine j0a e9a rfl (fun w1 hw=>by exact hw.1.cell 2 rfl ((congrArg (z0[·]?) (show 0+(k:Int).toNat*1=k by simp)).trans V1)) rfl ?_;refine d0a ?_;refine z1a ⟨(St.front (A:=[_,_,_,_,_,_,_]) n0),t0⟩ rfl rfl rfl ?_;refine z0a n3b rfl rfl ?_;refine d0a ?_;refine z1a ⟨(St.front (A:=[_,_,_,_,_,_,_]) n0),t0⟩ rfl rfl rfl ?_;refine j0a O2a rfl (fun w1 hw=>by exact hw.1.cell 0 rfl rfl) rfl ?_;refine d0a ?_;refine q8a ⟨(St.front (A:=[_,_,_,_,_,_,_]) n0),t0⟩ rfl rfl rfl rfl ?_;have u1:∀g∈(Gm.toList++(Ga.toList++([gb,g3,g2]++M)))++V5a a0,g<D2.heap.size:=fun g hg=>Nat.lt_of_lt_of_le (P1 g hg) K.size;refine x0a n0 I0b rfl rfl (D1b _ M _ _ en.cells (P0.keep (n0.keep0 M)) (by omega) u1) ?_;rintro J2 C2 r0 H0 N1;have o0:=t0.trans (N1.mono (by simp));replace K:=K.trans N1;obtain⟨_,_,_,rfl⟩:=r0.form;refine L0a ⟨rfl,?_⟩;refine z1a ⟨(St.front (A:=[_,_,_,_,_,_,_]) H0),o0⟩ rfl rfl rfl ?_;refine z0a e6b rfl rfl ?_;refine d0a ?_;refine z1a ⟨(St.front (A:=[_,_,_,_,_,_,_]) H0),o0⟩ rfl rfl rfl ?_;refine j0a O2a rfl (fun w1 hw=>by exact hw.1.cell 0 rfl rfl) rfl ?_;refine d0a ?_;refine q8a ⟨(St.front (A:=[_,_,_,_,_,_,_]) H0),o0⟩ rfl rfl rfl rfl ?_;have v1:∀g∈(Gm.toList++(Ga.toList++([gb,g3,g2]++M)))++V5a a0,g<C2.heap.size:=fun g hg=>Nat.lt_of_lt_of_le (P1 g hg) K.size;refine x0a H0 I0b rfl rfl (D1b _ M _ _ en.values (R0.keep (H0.keep0 M)) (by omega) v1) ?_;rintro K2 L2 x0 a1 d1;have u0:=o0.trans (d1.mono (by simp));replace K:=K.trans d1;replace r0:=r0.keep (d1.of_nil);obtain⟨_,_,_,rfl⟩:=x0.form;refine L0a ⟨rfl,?_⟩;refine z1a ⟨(St.front (A:=[_,_,_,_,_,_,_]) a1),u0⟩ rfl rfl rfl ?_;refine t2a V4c (vs:=[(0,.slice _ _ _),(1,.slice _ _ _)]) (cs:=[_,_]) rfl rfl rfl rfl ?_;refine d0a ?_;refine q8a ⟨(St.front (A:=[_,_,_,_,_,_,_]) a1),u0⟩ rfl rfl rfl rfl ?_;refine u0a a1 h3a (vs:=[.agg _]) (cs:=[_,_]) (by rfl) rfl rfl rfl rfl rfl rfl ?_;intro H2 N2 b1 W0 F2;have y0:=u0.trans (W0.mono (by simp));replace K:=K.trans W0;replace r0:=r0.keep (W0.of_nil);replace x0:=x0.keep (W0.of_nil);refine L0a ⟨rfl,?_⟩;refine q8a ⟨(St.front (A:=[_,_,_,_,_,_,_,_]) b1).tail,y0⟩ rfl rfl rfl rfl ?_;have Q1:=Q0.keep (K.of_nil);obtain⟨G',m1,_,S0,I1,T0⟩:=Q1.2.2 k (b.take j) (by rw[List.getElem?_set_self (by simp;omega)]);obtain⟨rfl,rfl⟩:G=G'∧C0=m1:=by rw[X0] at S0;cases S0;exact⟨rfl,rfl⟩
   obtain rfl:=Option.some.inj (V1.symm.trans I1);refine Y0a D1a (k:=8+k) (e1:=en) b1 h3a (by decide) ((d5c [_,_,_,_,_,_,_,_] a0 k 8 rfl).trans X0) T0 rfl rfl (b1.cells 0 rfl) ⟨_,_,rfl,r0.more (by omega) (fun g hg=>.inl (by rcases List.mem_append.1 hg with h|h;exact O1 g h;exact h)),x0.more (by omega) (fun g hg=>.inl (by rcases List.mem_append.1 hg with h|h;exact O1 g h;exact h))⟩ (by omega) rfl ?_;intro B2 Y0 D0 a2 Z0 v0 M1 d2;have j2:St [] w0 a2 ([_,_,_,_,_,_,_,_]++a0.set k (Y0,88,D0)):=(O8c [_,_,_,_,_,_,_,_] a0 k 8 rfl _)▸Z0;have A0:=j2.tail;have L0:=y0.trans M1;have E0:J2a 88 (Gm.toList++(Ga.toList++([gb,g3,g2]++M))) a2 (a0.set k (Y0,88,D0)) (z0.set k B2) ((C2a c.buf [] k).set k (b.take (j+1))):=by
    have:=Q1.put (k:=k) (by simp;omega) v0 M1 d2 X0;rw[List.set_set] at this;rw[H0a F0];exact this
   obtain⟨_,_,H1⟩:=v0.form;subst H1;refine L0a ⟨rfl,?_⟩;refine z1a ⟨(St.front (A:=[_,_,_,_,_,_,_]) A0),L0⟩ rfl rfl rfl ?_;refine n0a V2a.slT rfl (by rfl) rfl (by omega) (by omega) rfl ?_;refine d0a ?_;refine j5a ⟨(St.front (A:=[_,_,_,_,_,_,_]) A0),L0⟩ ?_
   first|refine B0a (kk:=2) A0 R7b rfl (by conv=>lhs;whnf) rfl rfl (by(simp;omega)) ?_
   intro b2 I0 K0;replace E0:=E0.keep (K0.mono (by simp));refine L0a ⟨rfl,?_⟩;refine fP0 rfl ⟨by omega,⟨⟩⟩ ⟨μj-1,by omega,rfl,(j+1),(a0.set k (Y0,88,D0)),(z0.set k _),(by omega),(E0),(I0.tail.setEnt 1 rfl (by simp)),rfl⟩
  refine lP0 rfl ⟨by omega,⟨⟩⟩ ?_;refine⟨μk-1,by omega,rfl,(k+1),(a0),(z0),(by omega),(by rw[←m5a U0 rfl];rw[List.take_of_length_le (by omega)] at Q0;exact Q0),S,rfl⟩
 refine lO0 rfl ⟨⟩ (w1a a1a rfl (S.cells 0 rfl) rfl rfl ?_)
 first|refine e0a (kk:=4) (vs:=[_,_,_]) S e2a rfl rfl rfl rfl rfl rfl rfl ?_
 intro Z1 j0 J0;dsimp only[k0a,List.set] at j0;replace hR:=hR.keep (J0.mono (by simp));refine lR0 rfl ⟨⟩ ?_;rw[o5a _ _ (by omega)] at hR;refine n1a (n:=3) rfl a1a rfl (j0.cells 4 rfl) rfl ⟨⟨Gm,Ga,q1,p1,_,_,gb,s0,vs,by rw[←U1],Rm,Ra,j0.sublist ?_,hR.less ?_⟩,j0.fin⟩
 ·exact .cons _ (.cons_cons _ (.cons_cons _ (.cons_cons _ (.cons _ (.cons _ (List.Sublist.refl _))))))
 ·intro g hg;simp only[List.mem_append,List.mem_cons] at hg ⊢;rcases hg with h|h|h|h<;>simp[h]
end Go.Fw
