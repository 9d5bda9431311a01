/-
  Part 4 of 9 of the proof of ExploreClosure: what it leans on. No conditions.
-/
import Derived.Test.YtfkfflniambckaaGreatDoorZExploreClosure3
import Derived.Laws.OwnMore
import Derived.Laws.BytesString
import Derived.StringKeys
set_option maxRecDepth 100000
set_option maxHeartbeats 4000000
namespace Go.Proofs.YtfkfflniambckaaGreatDoor
end Go.Proofs.YtfkfflniambckaaGreatDoor
namespace Go.Fw
open Go.Proofs.YtfkfflniambckaaGreatDoor Go.Proofs Go.RowKit
theorem H6a{o e:E0a}:W8a o e=true↔∃c∈e.cells,c∈o.cells:=by
 unfold W8a;rw[List.any_eq_true];constructor
 ·rintro⟨x,h1,h2⟩;exact⟨x,by simpa using h2,h1⟩
 ·rintro⟨x,h1,h2⟩;exact⟨x,h2,by simpa using h1⟩
theorem N0c{o e:E0a}(h:∀c∈e.cells,c∉o.cells):W8a o e=false:=by
 cases hm:W8a o e with
 | false=>rfl
 | true=>obtain⟨c,h1,h2⟩:=H6a.1 hm;exact absurd h2 (h c h1)
section
variable {p:f0a} {m:Int} {c:q0a} {t:Nat} {s:y1a} {a:Int} {b:List E0a} {nb:Nat}
theorem e0c(hx:c.at_[t]?=some a)(h1:¬a=s.frm):S0a p m c t s=false:=by unfold S0a;rw[getD_some hx];simp[h1]
theorem z7b(h2:¬s.guard.evl (c1a c t) (c1a c t)=1):S0a p m c t s=false:=by unfold S0a;simp[h2]
theorem v0d(hm:¬m=0)(hx:c.at_[t]?=some a)(h1:a=s.frm)(h2:s.guard.evl (c1a c t) (c1a c t)=1)(hb:c.buf[t]?=some b)(hn:nb=b.length)(hk:s.kind=3)(hr:s.release=false):S0a p m c t s=decide ((nb:Int)<3):=by
 unfold S0a;rw[getD_some hx,getD_some hb];subst hn;simp[h1,h2,hk,hr,hm];omega
theorem I9b(hm:¬m=0)(hx:c.at_[t]?=some a)(h1:a=s.frm)(h2:s.guard.evl (c1a c t) (c1a c t)=1)(hb:c.buf[t]?=some b)(hn:nb=b.length)(hk:s.kind=3)(hr:s.release=true):S0a p m c t s=decide ((nb:Int)=0):=by
 unfold S0a;rw[getD_some hx,getD_some hb];subst hn;cases b<;>simp[h1,h2,hk,hr,hm];omega
theorem T7b(hx:c.at_[t]?=some a)(h1:a=s.frm)(h2:s.guard.evl (c1a c t) (c1a c t)=1)(hb:c.buf[t]?=some b)(hn:nb=b.length)(hk:s.kind=4∨s.kind=5):S0a p m c t s=decide ((nb:Int)=0):=by
 unfold S0a;rw[getD_some hx,getD_some hb];subst hn;rw[if_neg (by omega),if_neg (by omega),if_neg (by omega),if_neg (by omega)];cases b<;>simp[h1,h2];omega
theorem r0d(hx:c.at_[t]?=some a)(h1:a=s.frm)(h2:s.guard.evl (c1a c t) (c1a c t)=1)(hb:c.buf[t]?=some b)(hn:nb=b.length)(hk:s.kind=6){a2:Int}(a0:c.at_[s.target.toNat]?=some a2):S0a p m c t s=(decide ((nb:Int)=0)&&decide (a2=-1)):=by
 unfold S0a;rw[getD_some hx,getD_some hb,getD_some a0];subst hn;cases b<;>simp[h1,h2,hk];omega
theorem X3c(hb:c.buf[t]?=some b)(hn:nb=b.length)(hk:s.kind=6∨s.kind=7)(h0:¬(nb:Int)=0):S0a p m c t s=false:=by
 unfold S0a;rw[getD_some hb];subst hn;cases b with
 | nil=>simp at h0
 | cons e b=>rcases hk with hk|hk<;>simp[hk]
theorem D0d(hx:c.at_[t]?=some a)(h1:a=s.frm)(h2:s.guard.evl (c1a c t) (c1a c t)=1)(hb:c.buf[t]?=some b)(hn:nb=b.length)(hk:s.kind=7){a2:Int}(e0:c.at_[s.target.toNat]?=some a2){u:X0a}(hu:p.threads[s.target.toNat]?=some u){b2:List E0a}{a0:Nat}(b0:c.buf[s.target.toNat]?=some b2)(d0:a0=b2.length):S0a p m c t s=(decide ((nb:Int)=0)&&(decide (a2=u.points-1)&&decide ((a0:Int)=0))):=by
 unfold S0a;rw[getD_some hx,getD_some hb,getD_some e0,getD_some hu,getD_some b0];subst hn;subst d0;cases b with
 | nil=>cases b2 with
   | nil=>simp[h1,h2,hk]
   | cons e b2=>simp[h1,h2,hk];omega
 | cons e b=>simp[h1,h2,hk];omega
theorem S9c(hk:s.kind=7){a2:Int}(a0:c.at_[s.target.toNat]?=some a2){u:X0a}(hu:p.threads[s.target.toNat]?=some u)(h0:¬a2=u.points-1):S0a p m c t s=false:=by
 unfold S0a;rw[getD_some a0,getD_some hu];simp[hk,h0]
theorem y5c(hx:c.at_[t]?=some a)(h1:a=s.frm)(h2:s.guard.evl (c1a c t) (c1a c t)=1)(hk:s.kind=1∨s.kind=2):S0a p m c t s=true:=by
 unfold S0a;rw[getD_some hx];rw[if_neg (by omega),if_neg (by omega),if_neg (by omega),if_pos hk];simp[h1,h2]
end
theorem J0b.i64s{p:f0a}{e:E0a}(h:J0b p e):∀x∈e.cells,0≤x∧x<p.cells.length:=fun x hx=>by
 obtain⟨i,hi,rfl⟩:=List.getElem_of_mem hx;exact(h.cells i _ (List.getElem?_eq_getElem hi)).1
theorem E0c(p:f0a)(hp:d1a p)(c:q0a)(t:Nat)(b:List E0a)(M:List Nat)(w0:World)(hM:∀g∈M,g<w0.heap.size)(xs:List Value)(hX:t0a M w0 c xs)(hf:c3a p c)(g0:c.buf[t]?=some b):
 M0a Tryz.prog 142 #[.agg xs.toArray,.int .i64 t] w0 fun v w'=>RdI M w' v (c1a c t)∧Below w0.heap.size w0 w':=by
 obtain⟨Xm,xm,ym,Xa,xa,ya,Xb,xb,yb,rfl,t0,_,s0,_,_,_,_,_,_⟩:=hX.open_;have S:=St.refl w0;have f1:=hf.mem.len;have n1:=hp.ncells;have n2:=hp.nthreads;have f3:=hf.nbuf;have ht:=u1a g0;have C0:=(hf.bufs t b g0).2.1;refine a0a Tryz.func142 rfl Tryz.ntmps142 rfl ?_;refine wO0 rfl ⟨⟩ (h0a S (by conv=>lhs;whnf) rfl ?_);intro g2 w2 S2 X2 G2;refine lO S2.k [.o 0] rfl ⟨rfl,⟨⟩⟩ (x0a S2 c0b rfl rfl (M7a M _ _ c.mem (t0.keep (S2.keep0 M)) (by omega)) ?_);rintro E0 V0 hN I0 T0;obtain⟨G0,p0,H0,d0⟩:=hN.open_ I0 S2;refine P0a (by conv=>lhs;whnf) rfl ?_;obtain⟨_,L0,Q0,_,B0,q0,_,_,v0,A0⟩:=RdS.get (s0) (t) (by omega);obtain rfl:=Option.some.inj (g0.symm.trans B0);obtain⟨j0,i0,n0,rfl,e0,_,_⟩:=F3a.open_ A0;refine lC (d0.k.a v0) [.o 1,.x L0 Q0,.f 0 0] rfl ⟨rfl,⟨q0,by omega⟩,rfl,⟨⟩⟩ (wL (fun μk D ε w=>D=[]∧∃k:Nat,∃G:Option Nat,∃o0:List Value,(k+μk=(b.length))∧(d3a G 1 c.mem.length o0 E0 ((z4a c b k).map (Value.int .i64)))∧St [] w0 w [(G,3,o0),(some g2,38,[.slice Xm xm ym,.slice Xa xa ya,.slice Xb xb yb])]∧Sl ε [(5,E0),(15,.slice j0 i0 n0),(16,.int .i64 i0),(17,.int .i64 k)]) (μ:=(b.length)) ⟨rfl,0,G0,p0,by omega,by simpa[z4a] using H0,d0,rfl⟩ ?_);rintro μk D ε w ⟨rfl,k,G,o0,_,b0,S,eZ⟩;refine wK eZ (wB0 rfl ⟨⟩ (fun O0=>?_) fun O0=>?_)
 ·obtain⟨en,N0,R0,_,h0,r0,_,y0,x0,f0⟩:=RdS.get (e0) (k) (by omega);obtain⟨_,_,_,_,_,_,rfl,_,_,_,_,_,_⟩:=I0a.open_ f0;have q1:=C0 en (c0a h0);have q2:=q1.i64s;have q3:0<c.mem.length:=by
   have:=q1.some_;cases D0:en.cells with
   | nil=>exact absurd D0 this
   | cons x l=>have:=q2 x (by rw[D0];simp);omega
  refine lO (S.k.a x0) [.x N0 R0,.v 0] rfl ⟨⟨rfl,y0⟩,⟨r0,by omega⟩,⟨⟩⟩ (m0a S W7a rfl rfl ?_);intro g7 w7 S7 X7 G7;refine e0a (kk:=0) (vs:=[_,_]) S7 y9a rfl rfl rfl rfl rfl rfl rfl ?_;intro S0 a0 K0;dsimp only[k0a,List.set] at a0;refine lOn 3 a0.k [] rfl ⟨⟩ (Z0a (by conv=>lhs;whnf) rfl ?_);refine lO a0.k [.w 0] rfl ⟨⟨rfl,by rfl⟩,⟨⟩⟩ ?_;obtain⟨g,pad,rfl,hv,rfl,P0⟩:=b0.pad (by simpa using q3);subst hv;refine c2a R8b rfl rfl (S6b en (z4a c b k) g _ pad (g::M) _ _ (I0a.keep (a0.keep0 _) _ _ (I0a.more (t2b a0 (k:=1) rfl) _ _ f0)) (by simp) (a0.blk 1 rfl) q1.even (fun x hx=>by have:=q2 x hx;simp;omega)) ?_;rintro U0 W0 ⟨u0,F0⟩;have J0:=a0.changed1 1 rfl F0 u0;refine lP0 rfl ⟨by omega,⟨⟩⟩ ?_;refine⟨μk-1,by omega,rfl,(k+1),(some g),(_),(by omega),(by rw[s7a h0];have:=d3a.ofPad (g:=g) (l:=f2a (z4a c b k) en) (pad:=pad) (by simpa using P0);simpa using this),J0.tail,rfl⟩
 refine lOn 8 S.k [] rfl ⟨⟩ (Z0a (by conv=>lhs;whnf) rfl ?_);refine P0a (by conv=>lhs;whnf) rfl ?_;refine lR0 rfl ⟨⟩ (o0a rfl (by conv=>lhs;whnf) ?_);obtain rfl:k=b.length:=by omega
 rw[Z8a g0 (Nat.le_refl _)] at b0;have z0:=u3b hf C0 b.length;rw[Z8a g0 (Nat.le_refl _)] at z0;exact⟨b0.rdI S (k:=0) rfl hM (X2a hp z0) (by have:=z0.len;omega),S.fin⟩
theorem r8b(old:List E0a)(en:E0a)(M:List Nat)(w0:World)(v:Value)(es:List Value)(hO:j7c M w0 v old)(hE:I0a M w0 es en):
 M0a Tryz.prog 185 #[v,.agg es.toArray] w0 fun v w'=>v=.bool (old.any fun o=>W8a o en)∧Below w0.heap.size w0 w':=by
 obtain⟨A,n,cc,rfl⟩:=hO.form;obtain⟨_,_,_⟩:=hO.len;obtain⟨Ec,ec,fc,Ev,v0,fv,rfl,G0,_,_,_,_,_⟩:=hE.open_;have S:=St.refl w0;refine a0a Tryz.func185 rfl Tryz.ntmps185 rfl ?_;refine wO0 rfl ⟨⟩ (h0a S (by conv=>lhs;whnf) rfl ?_);intro g3 w3 S3 X3 G3;refine lC0 rfl ⟨⟩ (wL (fun μk D ε w=>D=[]∧∃k:Nat,(k+μk=(old.length))∧(o1a (old) k (fun o=>W8a o en=false))∧St [] w0 w [(some g3,88,[.slice Ec ec fc,.slice Ev v0 fv])]∧Sl ε [(3,.pointer (some ⟨g3,0,none⟩)),(9,.slice A n cc),(10,.int .i64 n),(11,.int .i64 k)]) (μ:=(old.length)) ⟨rfl,0,by omega,o1a.zero,S3,rfl⟩ ?_);rintro μk D ε w ⟨rfl,k,_,ha,S,eZ⟩;refine wK eZ (wB0 rfl ⟨⟩ (fun E0=>?_) fun E0=>?_)
 ·obtain⟨o,C0,H0,_,y0,j0,_,q0,o0,r0⟩:=RdS.get (hO) (k) (by omega);obtain⟨d0,t0,g0,e0,u0,h0,rfl,b0,_,_,_,_,_⟩:=I0a.open_ r0;refine lO (S.k.a o0) [.x C0 H0,.v 0] rfl ⟨⟨rfl,q0⟩,⟨j0,by omega⟩,⟨⟩⟩ (m0a S W7a rfl rfl ?_);intro g6 w6 S6 X6 G6;refine e0a (kk:=0) (vs:=[_,_]) S6 y9a rfl rfl rfl rfl rfl rfl rfl ?_;intro K0 a0 B0;dsimp only[k0a,List.set] at a0;refine lC a0.k [.o 1] rfl ⟨rfl,⟨⟩⟩ (wL (fun μj D ε w=>D=[]∧∃j:Nat,(j+μj=(en.cells.length))∧(o1a (en.cells) j (fun x=>x∉o.cells))∧St [] w0 w [(some g6,88,[.slice d0 t0 g0,.slice e0 u0 h0]),(some g3,88,[.slice Ec ec fc,.slice Ev v0 fv])]∧Sl ε [(3,.pointer (some ⟨g3,0,none⟩)),(6,.pointer (some ⟨g6,0,none⟩)),(9,.slice A n cc),(10,.int .i64 n),(11,.int .i64 k),(16,.slice Ec ec fc),(17,.int .i64 ec),(18,.int .i64 j)]) (μ:=(en.cells.length)) ⟨rfl,0,by omega,o1a.zero,a0,rfl⟩ ?_);rintro μj D ε w ⟨rfl,j,_,x0,S,eZ⟩;refine wK eZ (wB0 rfl ⟨⟩ (fun F0=>?_) fun F0=>?_)
  ·obtain⟨x,D0,I0,_,z0,n0,_,_,p0,s0⟩:=RdS.get (G0) (j) (by omega);obtain⟨rfl,_⟩:=id s0;refine lO (S.k.a p0) [.x D0 I0,.f 0 0,.o 0] rfl ⟨rfl,rfl,⟨n0,by omega⟩,⟨⟩⟩ (C0a S h9b rfl rfl (s9a M _ _ o.cells x (b0.keep (S.keep0 M))) (fun i0 J0 f0 A0=>?_) (fun i0 J0 f0 A0=>?_))
   ·exact lT rfl ⟨⟩ rfl ⟨congrArg Value.bool (Eq.symm (List.any_eq_true.2 ⟨o,c0a y0,H6a.2 ⟨x,c0a z0,of_decide_eq_true i0⟩⟩)),f0.fin⟩
   refine lP0 rfl ⟨by omega,⟨⟩⟩ ⟨μj-1,by omega,rfl,(j+1),(by omega),(x0.succ z0 (of_decide_eq_false i0)),f0,rfl⟩
  refine lP0 rfl ⟨by omega,⟨⟩⟩ ⟨μk-1,by omega,rfl,(k+1),(by omega),(ha.succ y0 (N0c (x0.all (by omega)))),S.tail,rfl⟩
 refine lT rfl ⟨⟩ rfl ?_;refine⟨congrArg Value.bool ?_,S.fin⟩;symm;rw[List.any_eq_false];intro o ho;rw[ha.all (by omega) o ho];simp
theorem e3c(c:q0a)(M:List Nat)(w0:World)(xs:List Value)(hX:t0a M w0 c xs):
 M0a Tryz.prog 97 #[.agg xs.toArray] w0 fun v w'=>v=.bool (dec (t3a c))∧Below w0.heap.size w0 w':=by
 obtain⟨Xm,xm,ym,Xa,xa,ya,Xb,xb,yb,rfl,_,_,d0,_,_,g0,_,_,_⟩:=hX.open_;have S:=St.refl w0;refine a0a Tryz.func97 rfl Tryz.ntmps97 rfl ?_;refine wO0 rfl ⟨⟩ (h0a S (by conv=>lhs;whnf) rfl ?_);intro g1 w1 S1 X1 G1;refine lC S1.k [.o 0] rfl ⟨rfl,⟨⟩⟩ (wL (fun μk D ε w=>D=[]∧∃k:Nat,(k+μk=(c.buf.length))∧(o1a (c.buf) k (fun b=>b=[]))∧St [] w0 w [(some g1,38,[.slice Xm xm ym,.slice Xa xa ya,.slice Xb xb yb])]∧Sl ε [(6,.slice Xb xb yb),(7,.int .i64 xb),(8,.int .i64 k)]) (μ:=(c.buf.length)) ⟨rfl,0,by omega,o1a.zero,S1,rfl⟩ ?_);rintro μk D ε w ⟨rfl,k,_,ha,S,eZ⟩;refine wK eZ (wB0 rfl ⟨⟩ (fun h9=>?_) fun h9=>?_)
 ·obtain⟨b,h0,j0,_,g0,b0,_,_,e0,f0⟩:=RdS.get (d0) (k) (by omega);obtain⟨_,_,_,rfl,_,a0,_⟩:=F3a.open_ f0;refine lB (S.k.a e0) [.x h0 j0,.f 0 0] rfl ⟨rfl,⟨b0,by omega⟩,⟨⟩⟩ (fun i0=>?_) fun i0=>?_
  ·refine lT rfl ⟨⟩ rfl ?_;exact⟨p1a fun hh=>(by have:=hh b (c0a g0);subst this;simp at a0;omega),S.fin⟩
  refine lP0 rfl ⟨by omega,⟨⟩⟩ ⟨μk-1,by omega,rfl,(k+1),(by omega),(ha.succ g0 (List.length_eq_zero_iff.1 (by omega))),S,rfl⟩
 exact lT rfl ⟨⟩ rfl ⟨Z3a (ha.all (by omega)),S.fin⟩
theorem P7a(p:f0a)(c:q0a)(m:Int)(hm:m=1∨m=2)(t i:Nat)(th:X0a)(s:y1a)(M:List Nat)(w0:World)(cs xs:List Value)(vs:Value)(hI:InP p M w0 cs)(hX:t0a M w0 c xs)(hV:RdI M w0 vs (c1a c t))(hf:c3a p c)(q0:p.threads[t]?=some th)(r1:th.steps[i]?=some s):
 M0a Tryz.prog 143 #[.agg (xs++(cs++[Value.int .i64 m])).toArray,.int .i64 t,.int .i64 i,vs] w0 fun v w'=>v=.bool (S0a p m c t s)∧Below w0.heap.size w0 w':=by
 obtain⟨_,_,_,_,_,_,_,_,_,_,_,_,rfl,_,_,_,v1,_,_,_,_,_,_,_,_⟩:=hI.rd.open_;obtain⟨_,_,_,_,_,_,_,_,_,rfl,_,T0,u0,_,f0,_,_,b2,_⟩:=hX.open_;obtain⟨_,_,_,rfl⟩:=hV.form;have S:=St.refl w0;have f2:=hf.nat;have f3:=hf.nbuf;have hp:=hI.ok;have ht:=u1a q0;have hi:=u1a r1;have I1:=hp.thread q0;have o1:=I1.steps s (c0a r1);have R1:=o1.kind;have x1:6≤s.kind→0≤s.target∧s.target<p.threads.length:=fun h=>(o1.row.k6 h).1;have H1:=o1.rel;have E0:¬m=0:=by omega
 refine a0a Tryz.func143 rfl Tryz.ntmps143 rfl ?_;refine wO0 rfl ⟨⟩ (h0a S (by conv=>lhs;whnf) rfl ?_);intro g4 w4 S4 X4 G4;obtain⟨_,A1,J1,_,p1,L0,_,_,V0,f1⟩:=RdS.get (v1) (t) (by omega);obtain rfl:=Option.some.inj (q0.symm.trans p1);obtain⟨_,_,_,_,_,_,_,_,_,_,_,_,rfl,_,_,_,v0,_,_,_,_,_,_,_,_,_⟩:=N0a.open_ f1;obtain⟨_,B1,K1,_,q1,N0,_,d1,W0,g1⟩:=RdS.get (v0) (i) (by omega);obtain rfl:=Option.some.inj (r1.symm.trans q1);obtain⟨_,_,_,_,_,_,rfl,⟨_,_,_,_,_⟩,U0,_,_,_⟩:=q2a.open_ g1;refine lO ((S4.k.a W0).a V0) [.o 0,.x A1 J1,.f 0 4,.x B1 K1,.v 1] rfl ⟨⟨rfl,d1⟩,⟨N0,by omega⟩,rfl,⟨L0,by omega⟩,rfl,⟨⟩⟩ (m0a S4 S5b rfl rfl ?_);intro g9 w9 S9 X9 G9;refine e0a (kk:=0) (vs:=[_,_,_,_,_,_,_,_,_,_,_]) S9 x6b rfl rfl rfl rfl rfl rfl rfl ?_;intro y1 h0 t1;dsimp only[k0a,List.set] at h0;refine lC0 rfl ⟨⟩ (v0a b0a [0,1,2,3,4,5,6,7,8,9,10,11,12,13,14,15,16] [] [] (by kernel_rfl) rfl (Cl _ _ _ _) (Cl.start h0) ?_);obtain⟨a,C1,M1,_,f0,O0,_,_,X0,h1⟩:=RdS.get (T0) (t) (by omega);obtain⟨rfl,_⟩:=id h1;refine qB (h0.q.a X0) [.o 1,.x C1 M1,.f 0 0,.o 0] rfl ⟨rfl,rfl,⟨O0,by omega⟩,rfl,⟨⟩⟩ (fun d0=>?_) fun d0=>?_
 ·refine qD rfl ⟨⟩ ?_;rintro z1 ⟨b0,u1⟩;refine lT rfl ⟨⟩ rfl ⟨congrArg Value.bool ?_,b0.fin⟩;rw[e0c f0 d0];done
 refine qO h0.q [.o 0] rfl ⟨rfl,⟨⟩⟩ (r1a k1b rfl rfl (fun w1 S1 X1=>O8a s.guard M _ _ _ _ (c1a c t) (c1a c t) (RdE.keep (S1.keep0 M) _ _ U0) (hI.keep (S1.keep0 M)).msk (hV.keep (S1.keep0 M)) (hV.keep (S1.keep0 M))) ?_);refine qB0 rfl ⟨⟩ (fun e0=>?_) fun e0=>?_
 ·refine qD rfl ⟨⟩ ?_;rintro z1 ⟨b0,u1⟩;refine lT rfl ⟨⟩ rfl ⟨congrArg Value.bool ?_,b0.fin⟩;rw[z7b e0];done
 refine qD rfl ⟨⟩ ?_;rintro z1 ⟨b0,u1⟩;obtain⟨b,D1,N1,_,g0,P0,_,_,Y0,i1⟩:=RdS.get (u0) (t) (by omega);obtain⟨_,_,_,rfl,_,a0,_⟩:=F3a.open_ i1;have q3:=(hf.bufs t b g0).1;refine lB (b0.k.a Y0) [.o 1,.x D1 N1,.f 0 0,.o 0] rfl ⟨rfl,rfl,⟨P0,by omega⟩,rfl,⟨⟩⟩ (fun r0=>?_) fun r0=>?_
 ·refine lO0 rfl ⟨⟩ ?_;cases i0:s.release
  ·refine s0a m2a rfl (by exact(b0.cell 0 rfl rfl).trans (congrArg (fun b=>some (Value.bool b)) i0)) rfl ?_;refine lB0 rfl ⟨⟩ (fun J0=>?_) fun J0=>?_
   ·refine lT rfl ⟨⟩ rfl ⟨congrArg Value.bool ?_,b0.fin⟩;rw[v0d E0 f0 d0 e0 g0 a0 r0 i0];exact(decide_eq_true J0).symm
   refine lT rfl ⟨⟩ rfl ⟨congrArg Value.bool ?_,b0.fin⟩;rw[v0d E0 f0 d0 e0 g0 a0 r0 i0];exact(decide_eq_false (Int.not_lt.2 J0)).symm
  refine s0a m2a rfl (by exact(b0.cell 0 rfl rfl).trans (congrArg (fun b=>some (Value.bool b)) i0)) rfl ?_;refine lB0 rfl ⟨⟩ (fun n0=>?_) fun n0=>?_
  ·refine lT rfl ⟨⟩ rfl ⟨congrArg Value.bool ?_,b0.fin⟩;rw[I9b E0 f0 d0 e0 g0 a0 r0 i0];exact(decide_eq_true n0).symm
  refine lT rfl ⟨⟩ rfl ⟨congrArg Value.bool ?_,b0.fin⟩;rw[I9b E0 f0 d0 e0 g0 a0 r0 i0];exact(decide_eq_false n0).symm
 refine lB0 rfl ⟨⟩ (fun H0=>?_) fun H0=>?_
 ·refine lB0 rfl ⟨⟩ (fun n0=>?_) fun n0=>?_
  ·refine lT rfl ⟨⟩ rfl ⟨congrArg Value.bool ?_,b0.fin⟩;rw[T7b f0 d0 e0 g0 a0 (.inl H0)];exact(decide_eq_true n0).symm
  refine lT rfl ⟨⟩ rfl ⟨congrArg Value.bool ?_,b0.fin⟩;rw[T7b f0 d0 e0 g0 a0 (.inl H0)];exact(decide_eq_false n0).symm
 refine lB0 rfl ⟨⟩ (fun I0=>?_) fun I0=>?_
 ·refine lB0 rfl ⟨⟩ (fun n0=>?_) fun n0=>?_
  ·refine lT rfl ⟨⟩ rfl ⟨congrArg Value.bool ?_,b0.fin⟩;rw[T7b f0 d0 e0 g0 a0 (.inr I0)];exact(decide_eq_true n0).symm
  refine lT rfl ⟨⟩ rfl ⟨congrArg Value.bool ?_,b0.fin⟩;rw[T7b f0 d0 e0 g0 a0 (.inr I0)];exact(decide_eq_false n0).symm
 refine lB0 rfl ⟨⟩ (fun A0=>?_) fun A0=>?_
 ·refine lB0 rfl ⟨⟩ (fun B0=>?_) fun B0=>?_
  ·have q6:=x1 (by omega);obtain⟨a2,E1,O1,_,j0,Q0,_,_,Z0,j1⟩:=RdS.get (T0) (s.target.toNat) (by omega);obtain⟨rfl,_⟩:=id j1;refine lB (b0.k.a Z0) [.o 1,.o 0,.x E1 O1,.f 0 0] rfl ⟨rfl,⟨Q0,by omega⟩,rfl,rfl,⟨⟩⟩ (fun K0=>?_) fun K0=>?_
   ·refine lT rfl ⟨⟩ rfl ⟨congrArg Value.bool ?_,b0.fin⟩;rw[r0d f0 d0 e0 g0 a0 A0 j0];rw[decide_eq_true B0];(rw[decide_eq_true K0];rfl)
   refine lT rfl ⟨⟩ rfl ⟨congrArg Value.bool ?_,b0.fin⟩;rw[r0d f0 d0 e0 g0 a0 A0 j0];rw[decide_eq_true B0];(rw[decide_eq_false K0];rfl)
  refine lT rfl ⟨⟩ rfl ⟨congrArg Value.bool ?_,b0.fin⟩;rw[X3c g0 a0 (.inl A0) B0];done
 refine lB0 rfl ⟨⟩ (fun s0=>?_) fun s0=>?_
 ·have q6:=x1 (by omega);obtain⟨_,F1,P1,_,F0,R0,_,_,a1,m1⟩:=RdS.get (v1) (s.target.toNat) (by omega);obtain⟨_,_,_,_,_,_,_,_,_,_,_,_,rfl,_,_,_,_,_,_,_,_,_,_,_,_,_⟩:=N0a.open_ m1;have q7:=(hp.thread F0).points;refine lB (b0.k.a a1) [.o 1,.o 0,.x F1 P1,.f 0 1] rfl ⟨by omega,rfl,⟨R0,by omega⟩,rfl,rfl,⟨⟩⟩ (fun C0=>?_) fun C0=>?_
  ·obtain⟨a2,G1,Q1,_,j0,S0,_,_,b1,n1⟩:=RdS.get (T0) (s.target.toNat) (by omega);obtain⟨rfl,_⟩:=id n1;refine lB (b0.k.a b1) [.o 1,.o 0,.x G1 Q1,.f 0 0] rfl ⟨rfl,⟨S0,by omega⟩,rfl,rfl,⟨⟩⟩ (fun D0=>?_) fun D0=>?_
   ·obtain⟨b2,G0,s1,_,z0,t0,_,_,x0,y0⟩:=RdS.get (u0) (s.target.toNat) (by omega);obtain⟨_,_,_,rfl,_,o0,_⟩:=F3a.open_ y0;refine lB (b0.k.a x0) [.o 1,.o 0,.x G0 s1,.f 0 0] rfl ⟨rfl,⟨t0,by omega⟩,rfl,rfl,⟨⟩⟩ (fun p0=>?_) fun p0=>?_
    ·refine lT rfl ⟨⟩ rfl ⟨congrArg Value.bool ?_,b0.fin⟩;rw[D0d f0 d0 e0 g0 a0 s0 j0 F0 z0 o0];rw[decide_eq_true C0,decide_eq_true D0];(rw[decide_eq_true p0];rfl)
    refine lT rfl ⟨⟩ rfl ⟨congrArg Value.bool ?_,b0.fin⟩;rw[D0d f0 d0 e0 g0 a0 s0 j0 F0 z0 o0];rw[decide_eq_true C0,decide_eq_true D0];(rw[decide_eq_false p0];rfl)
   refine lT rfl ⟨⟩ rfl ⟨congrArg Value.bool ?_,b0.fin⟩;rw[S9c s0 j0 F0 D0];done
  refine lT rfl ⟨⟩ rfl ⟨congrArg Value.bool ?_,b0.fin⟩;rw[X3c g0 a0 (.inr s0) C0];done
 refine lT rfl ⟨⟩ rfl ⟨congrArg Value.bool ?_,b0.fin⟩;rw[y5c f0 d0 e0 (by omega)];done
section
variable {M:List Nat} {w0 w w':World} {L:List Ent}
theorem St.join{L2:List Ent}(S:St M w0 w L)(S2:St [] w w' L2):St M w0 w' (L2++L):=by
 have a0:∀b∈L2,∀g,b.1=some g→w.heap.size≤g∧p0a w' (g,b.2):=fun b hb g hg=>by
  obtain⟨h1,h2⟩:=S2.own b hb g hg;rcases h1 with h1|h1
  ·exact⟨h1,h2⟩
  ·cases h1
 have S':=S.later S2.fin;refine⟨S'.below,fun b hb g hg=>?_,List.pairwise_append.2 ⟨S2.apart,S.apart,fun a ha b hb g hg b0=>?_⟩⟩
 ·rcases List.mem_append.1 hb with h|h
  ·obtain⟨h1,h2⟩:=a0 b h g hg;exact⟨.inl (Nat.le_trans S.size h1),h2⟩
  ·exact S'.own b h g hg
 ·have h1:=(a0 a ha g hg).1;have h2:=(S.own b hb g b0).2.lt;simp at h2;omega
theorem St.fill(S:St M w0 w L)(j:Nat){t':TypeId}{b0:List Value}{g:Nat}(hb:Below w.heap.size w w')(hg:p0a w' (g,t',b0))(e0:w.heap.size≤g):St M w0 w' (L.set j (some g,t',b0)):=by
 have S':=S.later hb;have a0:∀b∈L,b.1≠some g:=fun b hm hh=>by
  have:=(S.own b hm g hh).2.lt;simp at this;omega
 refine⟨S'.below,fun b hm x hx=>?_,?_⟩
 ·rcases List.mem_or_eq_of_mem_set hm with h|rfl
  ·exact S'.own b h x hx
  ·cases hx;exact⟨.inl (Nat.le_trans S.size e0),hg⟩
 ·rw[List.pairwise_iff_getElem];intro i k hi hk d0 x hx;rw[List.length_set] at hi hk;rw[List.getElem_set] at hx ⊢
  split at hx
  ·cases hx
   split
   ·omega
   ·exact a0 _ (List.getElem_mem hk)
  ·split
   ·intro hh;cases hh;exact a0 _ (List.getElem_mem hi) hx
   ·exact(List.pairwise_iff_getElem.1 S.apart) i k hi hk d0 x hx
theorem St.nils(S:St M w0 w L){R:List Ent}(hR:∀b∈R,b.1=none):St M w0 w (L++R):=by
 refine⟨S.below,fun b hb g hg=>?_,List.pairwise_append.2 ⟨S.apart,?_,fun a _ b hb g _ a0=>?_⟩⟩
 ·rcases List.mem_append.1 hb with h|h
  ·exact S.own b h g hg
  ·rw[hR b h] at hg;cases hg
 ·exact List.Pairwise.imp_of_mem (fun ha _ _ g hg=>(by rw[hR _ ha] at hg;cases hg)) (List.pairwise_of_forall (R:=fun _ _=>True) (fun _ _=>trivial))
 ·rw[hR b hb] at a0;cases a0
theorem St.place{x:Ent}(S:St M w0 w (x::L))(j:Nat):St M w0 w (L.set j x):=by
 obtain⟨h1,h2⟩:=List.pairwise_cons.1 S.apart;refine⟨S.below,fun b hm g hg=>?_,?_⟩
 ·rcases List.mem_or_eq_of_mem_set hm with h|rfl
  ·exact S.own b (List.mem_cons_of_mem _ h) g hg
  ·exact S.own _ (by simp) g hg
 ·rw[List.pairwise_iff_getElem];intro i k hi hk a0 g hg;rw[List.length_set] at hi hk;rw[List.getElem_set] at hg ⊢
  split at hg
  ·split
   ·omega
   ·exact h1 _ (List.getElem_mem hk) g hg
  ·split
   ·intro hh;exact h1 _ (List.getElem_mem hi) g hh hg
   ·exact(List.pairwise_iff_getElem.1 h2) i k hi hk a0 g hg
theorem St.front{A R:List Ent}(S:St M w0 w (A++R)):St M w0 w A :=
 ⟨S.below,fun b hm=>S.own b (List.mem_append_left _ hm),(List.pairwise_append.1 S.apart).1⟩
abbrev clF{A R:List Ent}(_:St M w0 w (A++R))(K:List Nat):World→Prop:=fun w1=>St M w0 w1 A∧y0a K w w1
end
theorem d3a.form{G:Option Nat}{size n:Nat}{cs xs:List Value}{v:Value}(h:d3a G size n cs v xs):∃A n c,v=.slice A n c:=by
 rcases h with⟨_,⟨_,rfl,_⟩|⟨g,a0,_,rfl,_⟩⟩
 ·exact⟨_,_,_,rfl⟩
 ·exact⟨_,_,_,rfl⟩
theorem d5c(A a0:List Ent)(k n:Nat)(hn:A.length=n):(A++a0)[n+k]?=a0[k]?:=by
 subst hn;rw[List.getElem?_append_right (by omega)];congr 1;omega
theorem O8c(A a0:List Ent)(k n:Nat)(hn:A.length=n)(x:Ent):(A++a0).set (n+k) x=A++a0.set k x:=by
 subst hn;rw[List.set_append_right _ _ (by omega)];congr 2;omega
theorem B1a.more{α:Type}{R:List Nat→World→List Value→α→Prop}{size:Nat}(hL:R5a R size){M M':List Nat}{w:World}{G:Option Nat}{cs:List Value}{v:Value}{l:List α}(h:B1a R size M w G cs v l)(hm:∀g∈M',(g∈G.toList∨g∈M)∨w.heap.size≤g):B1a R size M' w G cs v l:=by
 obtain⟨css,h1,h2,h3,h4⟩:=h;refine⟨css,h1,h2,h3,fun i x hi=>?_⟩;obtain⟨c,h5,h6⟩:=h4 i x hi;refine⟨c,h5,hL.more (fun g hg=>?_) h6⟩;rcases List.mem_append.1 hg with hg|hg
 ·exact .inl (List.mem_append_left _ hg)
 ·rcases hm g hg with h|h
  ·exact .inl (List.mem_append.2 h)
  ·exact .inr h
def V5a(rows:List Ent):List Nat:=rows.filterMap (·.1)
theorem r2a{a0:List Ent}{g:Nat}:g∈V5a a0↔∃b∈a0,b.1=some g:=by unfold V5a;rw[List.mem_filterMap]
def J2a(tE:TypeId)(M:List Nat)(w:World)(rows:List Ent)(vs:List Value)(bs:List (List E0a)):Prop :=
 rows.length=bs.length∧vs.length=bs.length∧∀(i:Nat) (b:List E0a),bs[i]?=some b→∃G cs v,rows[i]?=some (G,tE,cs)∧vs[i]?=some v∧B1a I0a 2 (M++V5a rows) w G cs v b
theorem J2a.keep{tE:TypeId}{M:List Nat}{w w':World}{a0:List Ent}{vs:List Value}{bs:List (List E0a)}(h:J2a tE M w a0 vs bs)(hk:y0a (M++V5a a0) w w'):J2a tE M w' a0 vs bs:=by
 obtain⟨h1,h2,h3⟩:=h;refine⟨h1,h2,fun i b hi=>?_⟩;obtain⟨G,cs,v,h4,h5,h6⟩:=h3 i b hi;exact⟨G,cs,v,h4,h5,h6.keep D1a (hk.mono fun g hg=>List.mem_append_right _ hg)⟩
theorem J2a.nil{tE:TypeId}{M:List Nat}{w:World}(n:Nat):J2a tE M w (List.replicate n (none,tE,[])) (List.replicate n (.slice none 0 0)) (List.replicate n []):=by
 refine⟨by simp,by simp,fun i b hi=>?_⟩;obtain⟨a0,rfl⟩:=List.getElem?_eq_some_iff.1 hi;simp only[List.length_replicate] at a0;refine⟨none,[],.slice none 0 0,by simp[a0],by simp[a0],?_⟩;simp only[List.getElem_replicate];exact B1a.nil
theorem L6c{a0:List Ent}{k:Nat}{G':Option Nat}{tE:TypeId}{b0:List Value}{g:Nat}(h:g∈V5a (a0.set k (G',tE,b0))):g∈V5a a0∨g∈G'.toList:=by
 obtain⟨b,hb,hg⟩:=r2a.1 h;rcases List.mem_or_eq_of_mem_set hb with h|rfl
 ·exact .inl (r2a.2 ⟨b,h,hg⟩)
 ·right;cases hg;simp
theorem J2a.put{tE:TypeId}{M:List Nat}{w w1:World}{a0:List Ent}{vs:List Value}{bs:List (List E0a)}(h:J2a tE M w a0 vs bs){k:Nat}{G G':Option Nat}{cs b0:List Value}{v':Value}{b':List E0a}(hk:k<bs.length)
 (f0:B1a I0a 2 (M++V5a a0) w1 G' b0 v' b') (X:y0a G.toList w w1) (F:∀g∈G'.toList,g∈G.toList∨w.heap.size≤g) (i0:a0[k]?=some (G,tE,cs)):J2a tE M w1 (a0.set k (G',tE,b0)) (vs.set k v') (bs.set k b'):=by
 obtain⟨h1,h2,h3⟩:=h;have h0:∀g∈G.toList,g∈V5a a0:=fun g hg=>r2a.2 ⟨_,List.mem_of_getElem? i0,by cases G<;>simp at hg ⊢;exact hg.symm⟩;have d0:∀g∈M++V5a (a0.set k (G',tE,b0)),(g∈M++V5a a0∨g∈G'.toList):=fun g hg=>by
  rcases List.mem_append.1 hg with h|h
  ·exact .inl (List.mem_append_left _ h)
  ·rcases L6c h with h|h
   ·exact .inl (List.mem_append_right _ h)
   ·exact .inr h
 refine⟨by simp[h1],by simp[h2],fun i b hi=>?_⟩;rw[List.getElem?_set] at hi;by_cases e0:k=i
 ·subst e0;rw[if_pos rfl,if_pos hk] at hi;cases hi;exact⟨G',b0,v',by rw[List.getElem?_set_self (by omega)],by rw[List.getElem?_set_self (by omega)],f0.more D1a fun g hg=>by
   rcases d0 g hg with h|h
   ·exact .inl (.inr h)
   ·exact .inl (.inl h)⟩
 ·rw[if_neg e0] at hi;obtain⟨Gi,g0,vi,h4,h5,h6⟩:=h3 i b hi;refine⟨Gi,g0,vi,by rw[List.getElem?_set_ne e0];exact h4,by rw[List.getElem?_set_ne e0];exact h5,?_⟩;have e1:B1a I0a 2 (G.toList++(M++V5a (a0.set k (G',tE,b0)))) w Gi g0 vi b:=h6.more D1a fun g hg=>by
   rcases List.mem_append.1 hg with h|h
   ·exact .inl (.inr (List.mem_append_right _ (h0 g h)))
   ·rcases d0 g h with h|h
    ·exact .inl (.inr h)
    ·rcases F g h with h|h
     ·exact .inl (.inr (List.mem_append_right _ (h0 g h)))
     ·exact .inr h
  exact(e1.keep D1a (X.mono fun g hg=>List.mem_append_right _ (List.mem_append_left _ hg))).more D1a fun g hg=>.inl (.inr (List.mem_append_right _ hg))
theorem J2a.rd{tE:TypeId}{M M' Mx:List Nat}{w0 w:World}{A a0:List Ent}{vs:List Value}{bs:List (List E0a)}(h:J2a tE M w a0 vs bs)(S:St M' w0 w (A++a0))(hx:∀g∈Mx,g∈M)(hM:∀g∈Mx,g∉V5a a0)(hl:∀b∈bs,b.length≤1000):
 ∀(i:Nat) (b:List E0a),bs[i]?=some b→∃v,vs[i]?=some v∧j7c Mx w v b:=fun i b hi=>by
 obtain⟨_,_,h3⟩:=h;obtain⟨G,cs,v,h4,h5,h6⟩:=h3 i b hi;refine⟨v,h5,?_⟩;have h7:B1a I0a 2 Mx w G cs v b:=h6.more D1a fun g hg=>.inl (.inr (List.mem_append_left _ (hx g hg)));refine h7.rd D1a S (k:=A.length+i) (el:=tE) (by rw[d5c A a0 i _ rfl];exact h4) (fun g hg hm=>hM g hm (r2a.2 ⟨_,List.mem_of_getElem? h4,hg⟩)) (by have:=hl b (List.mem_of_getElem? hi);omega)
theorem St.rdBs{M M':List Nat}{w0 w:World}{L:List Ent}(S:St M' w0 w L)(j:Nat){g t:Nat}{vs:List Value}{bs:List (List E0a)}(hj:L[j]?=some (some g,t,vs))(hg:g∉M)(a0:bs.length≤140737488355328)(h:∀(i:Nat) (b:List E0a),bs[i]?=some b→∃v,vs[i]?=some v∧j7c M w v b):u0d M w (.slice (some ⟨g,0,none⟩) bs.length bs.length) bs :=
 S.rd1 hj hg rfl a0 fun i x hi=>by
  obtain⟨v,h1,h2⟩:=h i x hi;exact⟨v,h1,v,rfl,h2⟩
theorem J2a.less{tE:TypeId}{M M':List Nat}{w:World}{a0:List Ent}{vs:List Value}{bs:List (List E0a)}(h:J2a tE M w a0 vs bs)(hm:∀g∈M',g∈M):J2a tE M' w a0 vs bs:=by
 obtain⟨h1,h2,h3⟩:=h;refine⟨h1,h2,fun i b hi=>?_⟩;obtain⟨G,cs,v,h4,h5,h6⟩:=h3 i b hi;exact⟨G,cs,v,h4,h5,h6.more D1a fun g hg=>.inl (.inr (by
  rcases List.mem_append.1 hg with h|h
  ·exact List.mem_append_left _ (hm g h)
  ·exact List.mem_append_right _ h))⟩
theorem Y2b{α:Type}{l:List α}{k:Nat}{x:α}(h:l[k]?=some x):l.set k x=l:=by
 obtain⟨a0,rfl⟩:=List.getElem?_eq_some_iff.1 h;exact List.set_getElem_self a0
theorem A1b{α:Type}{l:List α}{z:α}{k:Nat}(h:k<l.length):(C2a l z k)[k]?=some z:=by
 unfold C2a;rw[List.getElem?_append_right (by simp;omega),List.getElem?_replicate,if_pos (by simp;omega)]
theorem RdI.i64s{M:List Nat}{w:World}{v:Value}{l:List Int}(h:RdI M w v l):∀x∈l,i64 x:=fun x hx=>by
 obtain⟨_,_,_,rfl⟩:=h.form;obtain⟨i,hi,rfl⟩:=List.getElem_of_mem hx;obtain⟨_,_,_,_,h5⟩:=h.at;obtain⟨_,_,_,_,a0⟩:=h5 (by omega);obtain⟨_,_,_,h6⟩:=a0 i _ (List.getElem?_eq_getElem hi);exact h6.2
theorem x6a.rd{el:Nat}{w w1:World}{v:Value}{l:List Int}(h:x6a el w w1 v l){M:List Nat}(hM:∀g∈M,g<w.heap.size)(hl:∀x∈l,i64 x)(hb:Below w.heap.size w w1)(a0:l.length≤140737488355328):RdI M w1 v l:=by
 obtain⟨_,_,h1,S⟩:=h.open_ ((St.refl w).later hb) (St.refl w);exact h1.rdI S (k:=0) rfl hM hl a0
theorem St.sublist{M:List Nat}{w0 w:World}{L L':List Ent}(S:St M w0 w L)(h:L'.Sublist L):St M w0 w L':=⟨S.below,fun b hb=>S.own b (h.subset hb),S.apart.sublist h⟩
theorem St.perm{M:List Nat}{w0 w:World}{L L':List Ent}(S:St M w0 w L)(h:L.Perm L'):St M w0 w L' :=
 ⟨S.below,fun b hb=>S.own b (h.symm.subset hb),(h.pairwise_iff (fun b0 g hg a0=>b0 g a0 hg)).1 S.apart⟩
theorem St.joinR{M:List Nat}{w0 w w':World}{L A R:List Ent}(S:St M w0 w L)(S2:St [] w w' (A++R)):St M w0 w' ((A++L)++R):=by
 refine(S.join S2).perm ?_;rw[List.append_assoc,List.append_assoc];exact(List.perm_append_comm).append_left A
theorem B1a.erase{α:Type}{R:List Nat→World→List Value→α→Prop}{size:Nat}(hL:R5a R size){M:List Nat}{w w1:World}{G:Option Nat}{a0:List Value}{v:Value}{l:List α}{css:List (List Value)}(l1:css.length=l.length)(l2:∀x∈css,x.length=size)(l4:∀(i:Nat) (x:α),l[i]?=some x→∃c,css[i]?=some c∧R (G.toList++M) w c x)
 {i:Nat} (hi:i<l.length) (rv:d3a G size (l.length-1) a0 v (css.eraseIdx i).flatten) (hk:y0a (G.toList++M) w w1):B1a R size M w1 G a0 v (l.eraseIdx i):=by
 have b0:(l.eraseIdx i).length=l.length-1:=by rw[List.length_eraseIdx,if_pos hi]
 refine⟨css.eraseIdx i,by rw[b0,List.length_eraseIdx,if_pos (by omega),l1],fun x hx=>l2 x (List.mem_of_mem_eraseIdx hx),by rw[b0];exact rv,fun k x hx=>?_⟩;rw[List.getElem?_eraseIdx] at hx ⊢
 split
 ·rename_i h;rw[if_pos h] at hx;obtain⟨c,h5,h6⟩:=l4 k x hx;exact⟨c,h5,hL.keep hk h6⟩
 ·rename_i h;rw[if_neg h] at hx;obtain⟨c,h5,h6⟩:=l4 (k+1) x hx;exact⟨c,h5,hL.keep hk h6⟩
theorem R5c{M:List Nat}{w:World}{G:Option Nat}{l:List E0a}{css:List (List Value)}(l1:css.length=l.length)(l4:∀(i:Nat) (x:E0a),l[i]?=some x→∃c,css[i]?=some c∧I0a (G.toList++M) w c x):∀u∈css.flatten,u.oneCell'=true:=fun u hu=>by
 obtain⟨x,hx,hu⟩:=List.mem_flatten.1 hu;obtain⟨i,hi,rfl⟩:=List.getElem_of_mem hx;obtain⟨c,h5,h6⟩:=l4 i l[i] (List.getElem?_eq_getElem (by omega));rw[List.getElem?_eq_getElem hi] at h5;cases h5;exact D1a.one h6 u hu
theorem St.apartM{w0 w:World}{A a0:List Ent}(S:St [] w0 w (A++a0)){M:List Nat}(hM:∀g∈M,g<w0.heap.size):∀g∈M,g∉V5a a0:=fun g hg hb=>by
 obtain⟨x,hx,b0⟩:=r2a.1 hb;have h2:=hM g hg;rcases(S.own x (List.mem_append_right _ hx) g b0).1 with h|h
 ·omega
 ·cases h
theorem y0a.fresh2{a b c:World}{Q:List Nat}{g:Nat}(h:y0a Q a b)(k:y0a [g] b c)(hg:a.heap.size≤g∨g∈Q):y0a Q a c :=
 ⟨Nat.le_trans h.size k.size,fun i hi hm=>(k.same i (Nat.lt_of_lt_of_le hi h.size) (fun hh=>by rw[List.mem_singleton] at hh;subst hh;rcases hg with hg|hg;omega;exact hm hg)).trans (h.same i hi hm)⟩
theorem y0a.freshL{a b c:World}{Q Gs:List Nat}(h:y0a Q a b)(k:y0a Gs b c)(hg:∀g∈Gs,a.heap.size≤g∨g∈Q):y0a Q a c :=
 ⟨Nat.le_trans h.size k.size,fun i hi hm=>(k.same i (Nat.lt_of_lt_of_le hi h.size) (fun hh=>by rcases hg i hh with hg|hg;omega;exact hm hg)).trans (h.same i hi hm)⟩
def j1c(M:List Nat)(w0 w:World)(c:q0a)(v:Value):Prop :=
 ∃(Gm Ga:Option Nat) (csm csa:List Value) (vm va:Value) (gb:Nat) (rows:List Ent) (vs:List Value),v=.agg #[vm,va,.slice (some ⟨gb,0,none⟩) c.buf.length c.buf.length]∧d3a Gm 1 c.mem.length csm vm (c.mem.map (Value.int .i64))∧d3a Ga 1 c.at_.length csa va (c.at_.map (Value.int .i64)) ∧
  St [] w0 w ([(some gb,86,vs),(Ga,3,csa),(Gm,3,csm)]++rows)∧J2a 88 (Gm.toList++(Ga.toList++(gb::M))) w rows vs c.buf
theorem a7a{M:List Nat}{w0 w:World}{L:List Ent}(S:St M w0 w L){G:Option Nat}{t:TypeId}{cs:List Value}{k:Nat}(hk:L[k]?=some (G,t,cs)):∀g∈G.toList,g<w.heap.size:=fun g hg=>by
 have:G=some g:=by cases G<;>simp at hg ⊢;exact hg.symm
 subst this;exact S.lt k hk
theorem L3b(Mx M:List Nat)(w0:World)(v:Value)(l:List Int)(hR:RdI M w0 v l)(hl:l.length≤100000000)(hM:∀g∈Mx,g<w0.heap.size):
 M0a Tryz.prog 182 #[v] w0 fun v w'=>RdI Mx w' v l∧Below w0.heap.size w0 w' :=
 (M7a M w0 v l hR hl).mono fun _ _ h=>⟨h.1.rd hM hR.i64s h.2 (by omega),h.2⟩
theorem d7b(p:f0a)(hp:d1a p)(c:q0a)(M:List Nat)(w0:World)(hM:∀g∈M,g<w0.heap.size)(xs:List Value)(hX:t0a M w0 c xs)(hf:c3a p c):
 M0a Tryz.prog 187 #[.agg xs.toArray] w0 fun v w'=>j1c M w0 w' c v∧Below w0.heap.size w0 w':=by
 obtain⟨Xm,xm,ym,Xa,xa,ya,Xb,xb,yb,rfl,y1,p2,u1,_,_,Q1,_,_,_⟩:=hX.open_;have S:=St.refl w0;have f1:=hf.mem.len;have f2:=hf.nat;have n1:=hp.ncells;have n2:=hp.nthreads;have f3:=hf.nbuf;refine a0a Tryz.func187 rfl Tryz.ntmps187 rfl ?_;refine wO0 rfl ⟨⟩ (h0a S (by conv=>lhs;whnf) rfl ?_);intro g1 w1 S1 X1 G1;refine m0a S1 Q3a rfl rfl ?_;intro g2 w2 S2 X2 G2;refine lC0 rfl ⟨⟩ (H8b b0a (by kernel_rfl) (fun f ε w=>ε 1=.pointer (some ⟨g1,0,none⟩)∧ε 2=.pointer (some ⟨g2,0,none⟩)∧∃f0 E9 E5 E2:Ent,St [] w0 w [f0,E9,E5,E2,(some g2,38,[.slice none 0 0,.slice none 0 0,.slice none 0 0]),(some g1,38,[.slice Xm xm ym,.slice Xa xa ya,.slice Xb xb yb])]∧(f 0=true→ε 8=.pointer (some ⟨g1,0,none⟩))∧(f 1=true→ε 9=.slice Xm xm ym)∧(f 2=true→∃G cs A n c',ε 10=.slice A n c'∧E2=(G,3,cs)∧d3a G 1 c.mem.length cs (.slice A n c') (c.mem.map (Value.int .i64)))∧(f 3=true→ε 11=.pointer (some ⟨g1,1,none⟩))∧(f 4=true→ε 12=.slice Xa xa ya)∧(f 5=true→∃G cs A n c',ε 13=.slice A n c'∧E5=(G,3,cs)∧d3a G 1 c.at_.length cs (.slice A n c') (c.at_.map (Value.int .i64)))∧(f 6=true→ε 14=.pointer (some ⟨g1,2,none⟩))∧(f 7=true→ε 15=.slice Xb xb yb)∧(f 8=true→ε 16=.int .i64 xb)∧(f 9=true→∃g,ε 17=.slice (some ⟨g,0,none⟩) xb xb∧E9=(some g,86,List.replicate xb (.slice none 0 0)))∧(f 10=true→(f 2=true∧f 5=true∧f 9=true)∧ε 18=.agg #[ε 10,ε 13,ε 17])∧(f 11=true→f 12=false→∃g,ε 3=.pointer (some ⟨g,0,none⟩)∧f0=(some g,38,[.slice none 0 0,.slice none 0 0,.slice none 0 0]))∧(f 12=true→(∀k,k<12→f k=true)∧∃g,ε 3=.pointer (some ⟨g,0,none⟩)∧f0=(some g,38,[ε 10,ε 13,ε 17]))) ?_ ?_ ?_)
 ·exact⟨rfl,rfl,(none,0,[]),(none,0,[]),(none,0,[]),(none,0,[]),((((S2.drew.nilEnt 0).nilEnt 0).nilEnt 0).nilEnt 0),by simp,by simp,by simp,by simp,by simp,by simp,by simp,by simp,by simp,by simp,by simp,by simp,by simp⟩
 ·rintro f ε w i o ⟨e1,e2,f0,E9,E5,E2,S,h0,h1,h2,h3,h4,h5,h6,h7,h8,h9,b0,p0,i0⟩ ho g0 q0;have hi:i<13:=(List.getElem?_eq_some_iff.1 ho).1;refine b1a 1 e1 (b1a 2 e2 ?_);rcases(show i=0∨i=1∨i=2∨i=3∨i=4∨i=5∨i=6∨i=7∨i=8∨i=9∨i=10∨i=11∨i=12 by omega) with rfl|rfl|rfl|rfl|rfl|rfl|rfl|rfl|rfl|rfl|rfl|rfl|rfl
  ·cases ho;refine P3a M2b rfl rfl ?_;refine L0a ⟨rfl,rfl,rfl,f0,E9,E5,E2,S,fun _=>rfl,fun hh=>h1 (by simpa using hh),fun hh=>h2 (by simpa using hh),fun hh=>h3 (by simpa using hh),fun hh=>h4 (by simpa using hh),fun hh=>h5 (by simpa using hh),fun hh=>h6 (by simpa using hh),fun hh=>h7 (by simpa using hh),fun hh=>h8 (by simpa using hh),fun hh=>h9 (by simpa using hh),fun hh=>⟨⟨by simp[(b0 (by simpa using hh)).1.1],by simp[(b0 (by simpa using hh)).1.2.1],by simp[(b0 (by simpa using hh)).1.2.2]⟩,(b0 (by simpa using hh)).2⟩,fun hh e0=>p0 (by simpa using hh) (by simpa using e0),fun hh=>absurd ((i0 (by simpa using hh)).1 0 (by omega)) (by simp[g0])⟩
  ·cases ho;refine b1a 8 (h0 (q0 0 (by decide))) ?_;refine s0a O2a rfl (S.cell 5 rfl rfl) rfl ?_;refine L0a ⟨rfl,rfl,rfl,f0,E9,E5,E2,S,fun _=>rfl,fun _=>rfl,fun hh=>h2 (by simpa using hh),fun hh=>h3 (by simpa using hh),fun hh=>h4 (by simpa using hh),fun hh=>h5 (by simpa using hh),fun hh=>h6 (by simpa using hh),fun hh=>h7 (by simpa using hh),fun hh=>h8 (by simpa using hh),fun hh=>h9 (by simpa using hh),fun hh=>⟨⟨by simp[(b0 (by simpa using hh)).1.1],by simp[(b0 (by simpa using hh)).1.2.1],by simp[(b0 (by simpa using hh)).1.2.2]⟩,(b0 (by simpa using hh)).2⟩,fun hh e0=>p0 (by simpa using hh) (by simpa using e0),fun hh=>absurd ((i0 (by simpa using hh)).1 1 (by omega)) (by simp[g0])⟩
  ·cases ho;refine b1a 9 (h1 (q0 1 (by decide))) ?_;refine c2a c0b rfl rfl (M7a M _ _ c.mem (y1.keep (S.keep0 M)) (by omega)) ?_;rintro v w1 ⟨hN,hB⟩;obtain⟨G,C0,R1,S1⟩:=hN.open_ (S.later hB) S;obtain⟨A,n,c',rfl⟩:=R1.form;refine L0a ⟨rfl,rfl,rfl,f0,E9,E5,(G,3,C0),S1.place 3,fun hh=>h0 (by simpa using hh),fun _=>rfl,fun _=>⟨G,C0,A,n,c',rfl,rfl,R1⟩,fun hh=>h3 (by simpa using hh),fun hh=>h4 (by simpa using hh),fun hh=>h5 (by simpa using hh),fun hh=>h6 (by simpa using hh),fun hh=>h7 (by simpa using hh),fun hh=>h8 (by simpa using hh),fun hh=>h9 (by simpa using hh),fun hh=>absurd (b0 (by simpa using hh)).1.1 (by simp[g0]),fun hh e0=>p0 (by simpa using hh) (by simpa using e0),fun hh=>absurd ((i0 (by simpa using hh)).1 2 (by omega)) (by simp[g0])⟩
  ·cases ho;refine P3a j3b rfl rfl ?_;refine L0a ⟨rfl,rfl,rfl,f0,E9,E5,E2,S,fun hh=>h0 (by simpa using hh),fun hh=>h1 (by simpa using hh),fun hh=>h2 (by simpa using hh),fun _=>rfl,fun hh=>h4 (by simpa using hh),fun hh=>h5 (by simpa using hh),fun hh=>h6 (by simpa using hh),fun hh=>h7 (by simpa using hh),fun hh=>h8 (by simpa using hh),fun hh=>h9 (by simpa using hh),fun hh=>⟨⟨by simp[(b0 (by simpa using hh)).1.1],by simp[(b0 (by simpa using hh)).1.2.1],by simp[(b0 (by simpa using hh)).1.2.2]⟩,(b0 (by simpa using hh)).2⟩,fun hh e0=>p0 (by simpa using hh) (by simpa using e0),fun hh=>absurd ((i0 (by simpa using hh)).1 3 (by omega)) (by simp[g0])⟩
  ·cases ho;refine b1a 11 (h3 (q0 3 (by decide))) ?_;refine s0a O2a rfl (S.cell 5 rfl rfl) rfl ?_;refine L0a ⟨rfl,rfl,rfl,f0,E9,E5,E2,S,fun hh=>h0 (by simpa using hh),fun hh=>h1 (by simpa using hh),fun hh=>h2 (by simpa using hh),fun _=>rfl,fun _=>rfl,fun hh=>h5 (by simpa using hh),fun hh=>h6 (by simpa using hh),fun hh=>h7 (by simpa using hh),fun hh=>h8 (by simpa using hh),fun hh=>h9 (by simpa using hh),fun hh=>⟨⟨by simp[(b0 (by simpa using hh)).1.1],by simp[(b0 (by simpa using hh)).1.2.1],by simp[(b0 (by simpa using hh)).1.2.2]⟩,(b0 (by simpa using hh)).2⟩,fun hh e0=>p0 (by simpa using hh) (by simpa using e0),fun hh=>absurd ((i0 (by simpa using hh)).1 4 (by omega)) (by simp[g0])⟩
  ·cases ho;refine b1a 12 (h4 (q0 4 (by decide))) ?_;refine c2a c0b rfl rfl (M7a M _ _ c.at_ (p2.keep (S.keep0 M)) (by omega)) ?_;rintro v w1 ⟨hN,hB⟩;obtain⟨G,C0,R1,S1⟩:=hN.open_ (S.later hB) S;obtain⟨A,n,c',rfl⟩:=R1.form;refine L0a ⟨rfl,rfl,rfl,f0,E9,(G,3,C0),E2,S1.place 2,fun hh=>h0 (by simpa using hh),fun hh=>h1 (by simpa using hh),fun hh=>h2 (by simpa using hh),fun hh=>h3 (by simpa using hh),fun _=>rfl,fun _=>⟨G,C0,A,n,c',rfl,rfl,R1⟩,fun hh=>h6 (by simpa using hh),fun hh=>h7 (by simpa using hh),fun hh=>h8 (by simpa using hh),fun hh=>h9 (by simpa using hh),fun hh=>absurd (b0 (by simpa using hh)).1.2.1 (by simp[g0]),fun hh e0=>p0 (by simpa using hh) (by simpa using e0),fun hh=>absurd ((i0 (by simpa using hh)).1 5 (by omega)) (by simp[g0])⟩
  ·cases ho;refine P3a y3a rfl rfl ?_;refine L0a ⟨rfl,rfl,rfl,f0,E9,E5,E2,S,fun hh=>h0 (by simpa using hh),fun hh=>h1 (by simpa using hh),fun hh=>h2 (by simpa using hh),fun hh=>h3 (by simpa using hh),fun hh=>h4 (by simpa using hh),fun hh=>h5 (by simpa using hh),fun _=>rfl,fun hh=>h7 (by simpa using hh),fun hh=>h8 (by simpa using hh),fun hh=>h9 (by simpa using hh),fun hh=>⟨⟨by simp[(b0 (by simpa using hh)).1.1],by simp[(b0 (by simpa using hh)).1.2.1],by simp[(b0 (by simpa using hh)).1.2.2]⟩,(b0 (by simpa using hh)).2⟩,fun hh e0=>p0 (by simpa using hh) (by simpa using e0),fun hh=>absurd ((i0 (by simpa using hh)).1 6 (by omega)) (by simp[g0])⟩
  ·cases ho;refine b1a 14 (h6 (q0 6 (by decide))) ?_;refine s0a K3a rfl (S.cell 5 rfl rfl) rfl ?_;refine L0a ⟨rfl,rfl,rfl,f0,E9,E5,E2,S,fun hh=>h0 (by simpa using hh),fun hh=>h1 (by simpa using hh),fun hh=>h2 (by simpa using hh),fun hh=>h3 (by simpa using hh),fun hh=>h4 (by simpa using hh),fun hh=>h5 (by simpa using hh),fun _=>rfl,fun _=>rfl,fun hh=>h8 (by simpa using hh),fun hh=>h9 (by simpa using hh),fun hh=>⟨⟨by simp[(b0 (by simpa using hh)).1.1],by simp[(b0 (by simpa using hh)).1.2.1],by simp[(b0 (by simpa using hh)).1.2.2]⟩,(b0 (by simpa using hh)).2⟩,fun hh e0=>p0 (by simpa using hh) (by simpa using e0),fun hh=>absurd ((i0 (by simpa using hh)).1 7 (by omega)) (by simp[g0])⟩
  ·cases ho;refine b1a 15 (h7 (q0 7 (by decide))) ?_;refine N7c V2a.slT rfl rfl ?_;refine L0a ⟨rfl,rfl,rfl,f0,E9,E5,E2,S,fun hh=>h0 (by simpa using hh),fun hh=>h1 (by simpa using hh),fun hh=>h2 (by simpa using hh),fun hh=>h3 (by simpa using hh),fun hh=>h4 (by simpa using hh),fun hh=>h5 (by simpa using hh),fun hh=>h6 (by simpa using hh),fun _=>rfl,fun _=>rfl,fun hh=>h9 (by simpa using hh),fun hh=>⟨⟨by simp[(b0 (by simpa using hh)).1.1],by simp[(b0 (by simpa using hh)).1.2.1],by simp[(b0 (by simpa using hh)).1.2.2]⟩,(b0 (by simpa using hh)).2⟩,fun hh e0=>p0 (by simpa using hh) (by simpa using e0),fun hh=>absurd ((i0 (by simpa using hh)).1 8 (by omega)) (by simp[g0])⟩
  ·cases ho;refine b1a 16 (h8 (q0 8 (by decide))) ?_;refine z1b (n:=xb) (c:=xb) S V2a rfl rfl (by omega) (by omega) (by omega) rfl rfl ?_;intro g w1 S1 X1 G1;refine L0a ⟨rfl,rfl,rfl,f0,(some g,86,List.replicate xb (.slice none 0 0)),E5,E2,S1.place 1,fun hh=>h0 (by simpa using hh),fun hh=>h1 (by simpa using hh),fun hh=>h2 (by simpa using hh),fun hh=>h3 (by simpa using hh),fun hh=>h4 (by simpa using hh),fun hh=>h5 (by simpa using hh),fun hh=>h6 (by simpa using hh),fun hh=>h7 (by simpa using hh),fun _=>rfl,fun _=>⟨g,rfl,rfl⟩,fun hh=>absurd (b0 (by simpa using hh)).1.2.2 (by simp[g0]),fun hh e0=>p0 (by simpa using hh) (by simpa using e0),fun hh=>absurd ((i0 (by simpa using hh)).1 9 (by omega)) (by simp[g0])⟩
  ·cases ho;obtain⟨G2,cs2,A2,n2,c2,q2,r2⟩:=h2 (q0 2 (by decide));obtain⟨G5,p1,A5,n5,c5,q5,r5⟩:=h5 (q0 5 (by decide));obtain⟨g9,q9,r9⟩:=h9 (q0 9 (by decide));refine b1a 10 q2 (b1a 13 q5 (b1a 17 q9 ?_));refine f1a u4a (vs:=[(0,.slice _ _ _),(1,.slice _ _ _),(2,.slice _ _ _)]) (cs:=[_,_,_]) rfl rfl rfl rfl ?_;refine L0a ⟨rfl,rfl,rfl,f0,E9,E5,E2,S,fun hh=>h0 (by simpa using hh),fun hh=>h1 (by simpa using hh),fun _=>⟨G2,cs2,A2,n2,c2,rfl,r2⟩,fun hh=>h3 (by simpa using hh),fun hh=>h4 (by simpa using hh),fun _=>⟨G5,p1,A5,n5,c5,rfl,r5⟩,fun hh=>h6 (by simpa using hh),fun hh=>h7 (by simpa using hh),fun hh=>h8 (by simpa using hh),fun _=>⟨g9,rfl,r9⟩,fun _=>⟨⟨by simp[q0 2 (by decide)],by simp[q0 5 (by decide)],by simp[q0 9 (by decide)]⟩,rfl⟩,fun hh e0=>p0 (by simpa using hh) (by simpa using e0),fun hh=>absurd ((i0 (by simpa using hh)).1 10 (by omega)) (by simp[g0])⟩
  ·cases ho;refine m0a S Q3a rfl rfl ?_;intro g w1 S1 X1 G1;refine L0a ⟨rfl,rfl,rfl,(some g,38,[.slice none 0 0,.slice none 0 0,.slice none 0 0]),E9,E5,E2,S1.place 0,fun hh=>h0 (by simpa using hh),fun hh=>h1 (by simpa using hh),fun hh=>h2 (by simpa using hh),fun hh=>h3 (by simpa using hh),fun hh=>h4 (by simpa using hh),fun hh=>h5 (by simpa using hh),fun hh=>h6 (by simpa using hh),fun hh=>h7 (by simpa using hh),fun hh=>h8 (by simpa using hh),fun hh=>h9 (by simpa using hh),fun hh=>⟨⟨by simp[(b0 (by simpa using hh)).1.1],by simp[(b0 (by simpa using hh)).1.2.1],by simp[(b0 (by simpa using hh)).1.2.2]⟩,(b0 (by simpa using hh)).2⟩,fun _ _=>⟨g,rfl,rfl⟩,fun hh=>absurd ((i0 (by simpa using hh)).1 11 (by omega)) (by simp[g0])⟩
  ·cases ho;have d0:∀k,k<12→f k=true:=fun k hk=>q0 k (by revert k;decide);obtain⟨g,q3,rfl⟩:=p0 (d0 11 (by omega)) g0;have U0:=(b0 (d0 10 (by omega))).2;obtain⟨G2,cs2,A2,n2,c2,q2,r2⟩:=h2 (d0 2 (by omega));obtain⟨G5,p1,A5,n5,c5,q5,r5⟩:=h5 (d0 5 (by omega));obtain⟨g9,q9,r9⟩:=h9 (d0 9 (by omega));rw[q2,q5,q9] at U0;refine b1a 10 q2 (b1a 13 q5 (b1a 17 q9 (b1a 3 q3 (b1a 18 U0 ?_))));refine e0a (kk:=0) (vs:=[_,_,_]) S e2a rfl rfl rfl rfl rfl rfl rfl ?_;intro w1 S1 X1;dsimp only[k0a,List.set] at S1;refine L0a ⟨rfl,rfl,rfl,(some g,38,[.slice A2 n2 c2,.slice A5 n5 c5,.slice (some ⟨g9,0,none⟩) xb xb]),E9,E5,E2,S1,fun hh=>h0 (by simpa using hh),fun hh=>h1 (by simpa using hh),fun _=>⟨G2,cs2,A2,n2,c2,rfl,r2⟩,fun hh=>h3 (by simpa using hh),fun hh=>h4 (by simpa using hh),fun _=>⟨G5,p1,A5,n5,c5,rfl,r5⟩,fun hh=>h6 (by simpa using hh),fun hh=>h7 (by simpa using hh),fun hh=>h8 (by simpa using hh),fun _=>⟨g9,rfl,r9⟩,fun _=>⟨⟨by simp[d0 2 (by omega)],by simp[d0 5 (by omega)],by simp[d0 9 (by omega)]⟩,rfl⟩,fun _ hh=>by simp at hh,fun _=>⟨fun k hk=>by simp[d0 k hk],g,rfl,rfl⟩⟩
 rintro f ε w ⟨e1,e2,f0,E9,E5,E2,S,h0,h1,h2,h3,h4,h5,h6,h7,h8,h9,b0,p0,i0⟩ d0;obtain⟨-,g3,q3,rfl⟩:=i0 (d0 12 (by decide));obtain⟨Gm,r1,Am,nm,cm,U0,rfl,Rm⟩:=h2 (d0 2 (by decide));obtain⟨Ga,q1,Aa,na,ca,U1,rfl,Ra⟩:=h5 (d0 5 (by decide));obtain⟨gb,V1,rfl⟩:=h9 (d0 9 (by decide));rw[U0,U1,V1] at S;clear d0 h0 h1 h2 h3 h4 h5 h6 h7 h8 h9 b0 p0 i0 U0 U1 V1;refine fN 1 e1 (fN 2 e2 (fN 3 q3 ?_));replace S:=S.nils (R:=List.replicate xb (none,88,[])) (fun b hb=>by rw[List.eq_of_mem_replicate hb]);refine fC S.k [.o 5] rfl ⟨rfl,⟨⟩⟩ ?_;refine wL (fun μk D ε w=>D=[]∧∃k:Nat,∃s0:List Ent,∃vs:List Value,(k+μk=(c.buf.length))∧(J2a 88 (Gm.toList++(Ga.toList++([gb,g3,g2]++M))) w s0 vs (C2a c.buf [] k))∧St [] w0 w ([(some g3,38,[.slice Am nm cm,.slice Aa na ca,.slice (some ⟨gb,0,none⟩) xb xb]),(some gb,86,vs),(Ga,3,q1),(Gm,3,r1),(some g2,38,[.slice none 0 0,.slice none 0 0,.slice none 0 0]),(some g1,38,[.slice Xm xm ym,.slice Xa xa ya,.slice Xb xb yb])]++s0)∧Sl ε [(2,.pointer (some ⟨g2,0,none⟩)),(3,.pointer (some ⟨g3,0,none⟩)),(20,.slice Xb xb yb),(21,.int .i64 xb),(22,.int .i64 k)]) (μ:=(c.buf.length)) ⟨rfl,0,List.replicate xb (none,88,[]),List.replicate xb (.slice none 0 0),by omega,by rw[I4a,←Q1];exact J2a.nil xb,S,rfl⟩ ?_;rintro μk D ε w ⟨rfl,k,s0,vs,hk,hR,S,eZ⟩;refine wK eZ (wB0 rfl ⟨⟩ (fun m2=>?_) fun m2=>?_)
 ·obtain⟨b,i2,t2,_,I1,s1,_,_,z1,C1⟩:=RdS.get (u1) (k) (by omega);obtain⟨X0,T0,m1,rfl,N0,_,_⟩:=F3a.open_ C1;have q3:=(hf.bufs k b I1);have s2:J2a 88 (Gm.toList++(Ga.toList++([gb,g3,g2]++M))) w s0 vs ((C2a c.buf [] k).set k (b.take 0)):=by rw[List.take_zero,Y2b (A1b (u1a I1))];exact hR
  refine lC (S.k.a z1) [.x i2 t2,.f 0 0] rfl ⟨rfl,⟨s1,by omega⟩,⟨⟩⟩ (wL (fun μj D ε w=>D=[]∧∃j:Nat,∃a0:List Ent,∃z0:List Value,(j+μj=(b.length))∧(J2a 88 (Gm.toList++(Ga.toList++([gb,g3,g2]++M))) w a0 z0 ((C2a c.buf [] k).set k (b.take j)))∧St [] w0 w ([(some g3,38,[.slice Am nm cm,.slice Aa na ca,.slice (some ⟨gb,0,none⟩) xb xb]),(some gb,86,z0),(Ga,3,q1),(Gm,3,r1),(some g2,38,[.slice none 0 0,.slice none 0 0,.slice none 0 0]),(some g1,38,[.slice Xm xm ym,.slice Xa xa ya,.slice Xb xb yb])]++a0)∧Sl ε [(2,.pointer (some ⟨g2,0,none⟩)),(3,.pointer (some ⟨g3,0,none⟩)),(4,.int .i64 k),(20,.slice Xb xb yb),(21,.int .i64 xb),(22,.int .i64 k),(27,.slice X0 T0 m1),(28,.int .i64 T0),(29,.int .i64 j)]) (μ:=(b.length)) ⟨rfl,0,s0,vs,by omega,s2,S,rfl⟩ ?_);rintro μj D ε w ⟨rfl,j,a0,z0,_,P0,S,eZ⟩;refine wK eZ ?_;have K:=y0a.refl [] w;have N1:∀g∈(Gm.toList++(Ga.toList++([gb,g3,g2]++M)))++V5a a0,g<w.heap.size:=by
   intro g hg;simp only[List.mem_append,List.mem_cons,List.not_mem_nil,or_false] at hg;rcases hg with(hg|hg|(rfl|rfl|rfl)|hg)|hg
   ·exact a7a S (k:=3) rfl g hg
   ·exact a7a S (k:=2) rfl g hg
   ·exact S.lt 1 rfl
   ·exact S.lt 0 rfl
   ·exact S.lt 4 rfl
   ·have:=hM g hg;have:=S.size;omega
   ·obtain⟨x,hx,hg⟩:=r2a.1 hg;exact(S.own x (List.mem_append_right _ hx) g hg).2.lt
  refine wB0 rfl ⟨⟩ (fun o2=>?_) fun o2=>?_
  ·obtain⟨en,j2,u2,_,F0,t1,_,B1,A1,D1⟩:=RdS.get (N0) (j) (by omega);obtain⟨_,_,_,_,_,_,rfl,O0,Q0,_,_,_,_⟩:=I0a.open_ D1;have q4:=(q3.2.1 en (c0a F0)).len;have q5:=(q3.2.1 en (c0a F0)).even;unfold E0a.even at q5;refine lO (S.k.a A1) [.x j2 u2,.v 0] rfl ⟨⟨rfl,B1⟩,⟨t1,by omega⟩,⟨⟩⟩ (m0a S W7a rfl rfl ?_);intro g7 w7 S7 X7 G7;have b2:=Nat.le_trans K.size G7;replace K:=K.trans X7;refine e0a (kk:=0) (vs:=[_,_]) S7 y9a rfl rfl rfl rfl rfl rfl rfl ?_;intro G0 B0 i1;dsimp only[k0a,List.set] at B0;replace K:=K.fresh i1 (by first|exact b2);obtain⟨G,C0,v,W0,T1,E1⟩:=P0.2.2 k (b.take j) (by rw[List.getElem?_set_self (by simp;omega)]);obtain⟨_,_,rfl⟩:=E1.form;have C2:z0.length=c.buf.length:=by have:=P0.2.1;simpa using this
   have P1:(b.take j).length=j:=by rw[List.length_take];omega
   have M1:∀g∈G.toList,g∈(Gm.toList++(Ga.toList++([gb,g3,g2]++M)))++V5a a0:=fun g hg=>List.mem_append_right _ (r2a.2 ⟨_,List.mem_of_getElem? W0,by cases G<;>simp at hg ⊢;exact hg.symm⟩);refine lC0 rfl ⟨⟩ (g9a b0a (fun i=>[0,1,2,3,4,5,6,7,8,9,11,12,14,17].contains i) [0,1,2,3,4,5,6,7,8,9,10,11,12,13,14,15,16,17] 18 (by kernel_rfl) (by kernel_rfl) (clF (A:=[_,_,_,_,_,_,_]) (R:=a0) B0 G.toList) _ rfl ?_);have n0:=B0.drew;have j1:y0a [] G0 G0.drew:=s2a _ _;generalize G0.drew=y2 at n0 j1 ⊢;have t0:y0a (G.toList) _ _:=j1.of_nil;replace K:=K.trans j1;refine z1a ⟨(St.front (A:=[_,_,_,_,_,_,_]) n0),t0⟩ rfl rfl rfl ?_;refine z0a y3a rfl rfl ?_;refine d0a ?_;refine z1a ⟨(St.front (A:=[_,_,_,_,_,_,_]) n0),t0⟩ rfl rfl rfl ?_;refine j0a K3a rfl (fun w1 hw=>by exact hw.1.cell 1 rfl rfl) rfl ?_;refine d0a ?_;refine z1a ⟨(St.front (A:=[_,_,_,_,_,_,_]) n0),t0⟩ rfl rfl rfl ?_;refine h1a (v:=.int .i64 _) rfl rfl ?_;refine d0a ?_;refine z1a ⟨(St.front (A:=[_,_,_,_,_,_,_]) n0),t0⟩ rfl rfl rfl ?_;refine z0a y3a rfl rfl ?_;refine d0a ?_;refine z1a ⟨(St.front (A:=[_,_,_,_,_,_,_]) n0),t0⟩ rfl rfl rfl ?_;refine j0a K3a rfl (fun w1 hw=>by exact hw.1.cell 1 rfl rfl) rfl ?_;refine d0a ?_;refine z1a ⟨(St.front (A:=[_,_,_,_,_,_,_]) n0),t0⟩ rfl rfl rfl ?_;refine h1a (v:=.int .i64 _) rfl rfl ?_;refine d0a ?_;refine z1a ⟨(St.front (A:=[_,_,_,_,_,_,_]) n0),t0⟩ rfl rfl rfl ?_;refine n0a V2a.slT rfl (by rfl) rfl (by omega) (by omega) rfl ?_;refine d0a ?_;refine z1a ⟨(St.front (A:=[_,_,_,_,_,_,_]) n0),t0⟩ rfl rfl rfl ?_;refine j0a e9a rfl (fun w1 hw=>by exact hw.1.cell 2 rfl ((congrArg (z0[·]?) (show 0+(k:Int).toNat*1=k by simp)).trans T1)) rfl ?_;refine d0a ?_;refine z1a ⟨(St.front (A:=[_,_,_,_,_,_,_]) n0),t0⟩ rfl rfl rfl ?_;refine z0a n3b rfl rfl ?_;refine d0a ?_;refine z1a ⟨(St.front (A:=[_,_,_,_,_,_,_]) n0),t0⟩ rfl rfl rfl ?_;refine j0a O2a rfl (fun w1 hw=>by exact hw.1.cell 0 rfl rfl) rfl ?_;refine d0a ?_;refine q8a ⟨(St.front (A:=[_,_,_,_,_,_,_]) n0),t0⟩ rfl rfl rfl rfl ?_;have v1:∀g∈(Gm.toList++(Ga.toList++([gb,g3,g2]++M)))++V5a a0,g<y2.heap.size:=fun g hg=>Nat.lt_of_lt_of_le (N1 g hg) K.size;refine x0a n0 c0b rfl rfl (L3b _ M _ _ en.cells (O0.keep (n0.keep0 M)) (by omega) v1) ?_;rintro D2 x2 r0 H0 J1;have o0:=t0.trans (J1.mono (by simp));replace K:=K.trans J1;obtain⟨_,_,_,rfl⟩:=r0.form;refine L0a ⟨rfl,?_⟩;refine z1a ⟨(St.front (A:=[_,_,_,_,_,_,_]) H0),o0⟩ rfl rfl rfl ?_;refine z0a e6b rfl rfl ?_;refine d0a ?_;refine z1a ⟨(St.front (A:=[_,_,_,_,_,_,_]) H0),o0⟩ rfl rfl rfl ?_;refine j0a O2a rfl (fun w1 hw=>by exact hw.1.cell 0 rfl rfl) rfl ?_;refine d0a ?_;refine q8a ⟨(St.front (A:=[_,_,_,_,_,_,_]) H0),o0⟩ rfl rfl rfl rfl ?_;have x1:∀g∈(Gm.toList++(Ga.toList++([gb,g3,g2]++M)))++V5a a0,g<x2.heap.size:=fun g hg=>Nat.lt_of_lt_of_le (N1 g hg) K.size;refine x0a H0 c0b rfl rfl (L3b _ M _ _ en.values (Q0.keep (H0.keep0 M)) (by omega) x1) ?_;rintro F2 H2 x0 Z0 d1;have u0:=o0.trans (d1.mono (by simp));replace K:=K.trans d1;replace r0:=r0.keep (d1.of_nil);obtain⟨_,_,_,rfl⟩:=x0.form;refine L0a ⟨rfl,?_⟩;refine z1a ⟨(St.front (A:=[_,_,_,_,_,_,_]) Z0),u0⟩ rfl rfl rfl ?_;refine t2a V4c (vs:=[(0,.slice _ _ _),(1,.slice _ _ _)]) (cs:=[_,_]) rfl rfl rfl rfl ?_;refine d0a ?_;refine q8a ⟨(St.front (A:=[_,_,_,_,_,_,_]) Z0),u0⟩ rfl rfl rfl rfl ?_;refine u0a Z0 h3a (vs:=[.agg _]) (cs:=[_,_]) (by rfl) rfl rfl rfl rfl rfl rfl ?_;intro B2 I2 a1 V0 z2;have y0:=u0.trans (V0.mono (by simp));replace K:=K.trans V0;replace r0:=r0.keep (V0.of_nil);replace x0:=x0.keep (V0.of_nil);refine L0a ⟨rfl,?_⟩;refine q8a ⟨(St.front (A:=[_,_,_,_,_,_,_,_]) a1).tail,y0⟩ rfl rfl rfl rfl ?_;have O1:=P0.keep (K.of_nil);obtain⟨G',o1,_,R0,H1,S0⟩:=O1.2.2 k (b.take j) (by rw[List.getElem?_set_self (by simp;omega)]);obtain⟨rfl,rfl⟩:G=G'∧C0=o1:=by rw[W0] at R0;cases R0;exact⟨rfl,rfl⟩
   obtain rfl:=Option.some.inj (T1.symm.trans H1);refine Y0a D1a (k:=8+k) (e1:=en) a1 h3a (by decide) ((d5c [_,_,_,_,_,_,_,_] a0 k 8 rfl).trans W0) S0 rfl rfl (a1.cells 0 rfl) ⟨_,_,rfl,r0.more (by omega) (fun g hg=>.inl (by rcases List.mem_append.1 hg with h|h;exact M1 g h;exact h)),x0.more (by omega) (fun g hg=>.inl (by rcases List.mem_append.1 hg with h|h;exact M1 g h;exact h))⟩ (by omega) rfl ?_;intro v2 Y0 D0 Y1 b1 v0 K1 a2;have d2:St [] w0 Y1 ([_,_,_,_,_,_,_,_]++a0.set k (Y0,88,D0)):=(O8c [_,_,_,_,_,_,_,_] a0 k 8 rfl _)▸b1;have A0:=d2.tail;have L0:=y0.trans K1;have E0:J2a 88 (Gm.toList++(Ga.toList++([gb,g3,g2]++M))) Y1 (a0.set k (Y0,88,D0)) (z0.set k v2) ((C2a c.buf [] k).set k (b.take (j+1))):=by
    have:=O1.put (k:=k) (by simp;omega) v0 K1 a2 W0;rw[List.set_set] at this;rw[H0a F0];exact this
   obtain⟨_,_,F1⟩:=v0.form;subst F1;refine L0a ⟨rfl,?_⟩;refine z1a ⟨(St.front (A:=[_,_,_,_,_,_,_]) A0),L0⟩ rfl rfl rfl ?_;refine n0a V2a.slT rfl (by rfl) rfl (by omega) (by omega) rfl ?_;refine d0a ?_;refine j5a ⟨(St.front (A:=[_,_,_,_,_,_,_]) A0),L0⟩ ?_
   first|refine B0a (kk:=2) A0 R7b rfl (by conv=>lhs;whnf) rfl rfl (by(simp;omega)) ?_
   intro Z1 I0 K0;replace E0:=E0.keep (K0.mono (by simp));refine L0a ⟨rfl,?_⟩;refine fP0 rfl ⟨by omega,⟨⟩⟩ ⟨μj-1,by omega,rfl,(j+1),(a0.set k (Y0,88,D0)),(z0.set k _),(by omega),(E0),(I0.tail.setEnt 1 rfl (by simp)),rfl⟩
  refine lP0 rfl ⟨by omega,⟨⟩⟩ ?_;refine⟨μk-1,by omega,rfl,(k+1),(a0),(z0),(by omega),(by rw[←m5a I1 rfl];rw[List.take_of_length_le (by omega)] at P0;exact P0),S,rfl⟩
 refine lO0 rfl ⟨⟩ (w1a a1a rfl (S.cells 0 rfl) rfl rfl ?_)
 first|refine e0a (kk:=4) (vs:=[_,_,_]) S e2a rfl rfl rfl rfl rfl rfl rfl ?_
 intro W1 j0 J0;dsimp only[k0a,List.set] at j0;replace hR:=hR.keep (J0.mono (by simp));refine lR0 rfl ⟨⟩ ?_;rw[o5a _ _ (by omega)] at hR;refine n1a (n:=3) rfl a1a rfl (j0.cells 4 rfl) rfl ⟨⟨Gm,Ga,r1,q1,_,_,gb,s0,vs,by rw[←Q1],Rm,Ra,j0.sublist ?_,hR.less ?_⟩,j0.fin⟩
 ·exact .cons _ (.cons_cons _ (.cons_cons _ (.cons_cons _ (.cons _ (.cons _ (List.Sublist.refl _))))))
 ·intro g hg;simp only[List.mem_append,List.mem_cons] at hg ⊢;rcases hg with h|h|h|h<;>simp[h]
section
variable {P:Program} {r:Option Nat} {N:Nat} {D:List Deferred} {e:Env} {w w0:World} {ops:Array Oper} {rest:List Oper} {K:List Deferred→Env→World→Prop} {L:List Ent} {M:List Nat}
variable {d:Nat} {t:TypeId} {p:String} {af:Array Edge} {x y:Operand} {kd:IntKind}
theorem P6c{o:Oper}{v:Value}{w':World}(hg:o.guard=none)(b0:o.dst=none)(a0:∀c,o.op≠.defer c)
 (e0:(execOp (ev e) o).run P w=.ok (.value v) w') (h:WL P r N ops rest K D e w'):WL P r N ops (o::rest) K D e w:=by
 unfold WL at *;intro a Q hs f0 he hK;have d0:=h a Q hs f0 he hK;simp only[wpListIn,Region.wanted,hg,if_true];refine⟨D0a o w _,?_⟩;have:Oper.semAt (fc r).round a.eval o=execOp (ev e) o:=by rw[Oper.semAt_eq _ _ _ a0,v2a,he]
 rw[this,e0,Oper.uponIn_value,b0];exact d0
theorem D4b{ty el size e0 k n m c b o g d0:Nat}{z:Value}{cs xs news:List Value}(S:St M w0 w L)(hS:SlZ P ty el size z e0)(hk:L[k]?=some (some g,el,cs))(hR:d3a (some g) size n cs (.slice (some ⟨g,0,none⟩) n d0) xs)
 (hx:ev e x=.slice (some ⟨g,0,none⟩) n d0) (hy:ev e y=.slice (some ⟨b,o,none⟩) m c) (f0:t1a w b o news) (hl:news.length=m*size) (h1:∀u∈news,u.oneCell'=true) (h0:n+m≤d0) (hd:Nat.ble (d+1) N=true)
 (h:∀i0 w1,St M w0 w1 (L.set k (some g,el,i0))→d3a (some g) size (n+m) i0 (.slice (some ⟨g,0,none⟩) (n+m) d0) (xs++news)→y0a [g] w w1→WL P r N ops rest K D (upd e d (.slice (some ⟨g,0,none⟩) (n+m) d0)) w1) :
 WL P r N ops (⟨some d,.call { callee:=.builtin .append,args:=#[x,y],argTypes:=#[ty,ty] },t,p,af,none⟩::rest) K D e w:=by
 obtain⟨i,hi,_,t0,_⟩:=hS.parts;obtain⟨o0,_⟩:=hR.own S hk;obtain⟨w1,p0,g0,a0⟩:=run_append_fits (P:=P) w 0 ty t el i size hS.und hi t0 g n d0 xs o0 ⟨b,o,none⟩ m c news hl (fun j u hj=>by rw[Addr.add_lit];exact f0 j u hj) h1 h0;obtain⟨G',i0,r0,q0,n0⟩:=E8a g0;obtain rfl:G'=some g:=q0.symm;obtain⟨_,j0⟩:=n0 g rfl;have b0:∀q,q<w.heap.size→some g≠some q→w1.heap[q]?=w.heap[q]?:=fun q hq s0=>a0.block q hq s0.symm;have hB:F0a [g] w w1:=⟨a0.os,a0.tape,a0.output,a0.size,fun q hq hm=>b0 q hq (fun hh=>hm (by cases hh;simp))⟩;refine k1a (v:=.slice (some ⟨g,0,none⟩) (n+m) d0) (w':=w1) rfl rfl hd (by simp) ?_ (h i0 w1 (S.changed1 k hk hB j0) r0 ⟨a0.size,fun q hq hm=>b0 q hq (fun hh=>hm (by cases hh;simp))⟩);simp[execOp,resolve,invoke,builtin,hx,hy,p0]
theorem Y3c{ty el size a0 g o c tb kk:Nat}{z:Value}{cs:List Value}(S:St M w0 w L)(hS:SlZ P ty el size z a0)(hx:ev e x=.slice (some ⟨g,o,none⟩) 1 c)(hk:L[kk]?=some (some g,tb,cs))(ho:o+z.cells.toList.length≤cs.length)(h1:∀v∈z.cells.toList,h7c v=true)
 (h:∀w1,St M w0 w1 (L.set kk (some g,tb,k0a cs o z.cells.toList))→y0a [g] w w1→WL P r N ops rest K D e w1) :
 WL P r N ops (⟨none,.call { callee:=.builtin .clear,args:=#[x],argTypes:=#[ty] },t,p,af,none⟩::rest) K D e w:=by
 obtain⟨_,hi,hz,_,_⟩:=hS.parts;obtain⟨w1,h2,h3,h4⟩:=St.setN (P:=P) (o:=o) z.cells.toList 0 cs w L hk S (by simpa using ho) h1;have b0:(Builtin.zeroCells z.cells 1).toList=z.cells.toList:=by
  apply List.ext_getElem
  ·simp[Builtin.zeroCells]
  ·intro j q1 q2;simp[Builtin.zeroCells] at q1 q2 ⊢;simp[Nat.mod_eq_of_lt q2,q2]
 have d0:∀w,(zeroValue el).run P w=.ok z w:=fun w=>by simp[zeroValue,typeInfo,hi,hz]
 refine P6c (v:=.tuple #[]) rfl rfl (by simp) ?_ (h w1 h3 h4);simp[execOp,resolve,invoke,builtin,Builtin.clear_,hx,run_underlying hS.und,d0,b0,h2]
theorem j3c{ty size lo hi mx c n o b:Nat}{xl xh xm:Operand}(hT:SlT P ty size)(hx:ev e x=.slice (some ⟨b,o,none⟩) n c)(hl:ev e xl=.int kd (lo:Int))(hh:ev e xh=.int kd (hi:Int))(hm:ev e xm=.int kd (mx:Int))(h1:lo≤hi)(h2:hi≤mx)(h3:mx≤c)(hd:Nat.ble (d+1) N=true)
 (h:∀v,WL P r N ops rest K D (upd e d v) w) :
 WL P r N ops (⟨some d,.slice ty x (some xl) (some xh) (some xm),t,p,af,none⟩::rest) K D e w:=by
 obtain⟨_,hu,b0⟩:=O5a hT;have e0:(0:Int)≤(mx:Int)∧(mx:Int)≤(c:Int):=by omega
 have e1:(0:Int)≤(lo:Int)∧(lo:Int)≤(hi:Int):=by omega
 have e2:(0:Int)≤(hi:Int)∧(hi:Int)≤(mx:Int):=by omega
 refine k1a (v:=.slice (if mx=lo then some ⟨b,o,none⟩ else some ⟨b,o+lo*size,none⟩) (hi-lo) (mx-lo)) rfl rfl hd (by simp) ?_ (h _);have a0:(Instr.slice ty (.slice (some ⟨b,o,none⟩) n c) (some (.int kd (lo:Int))) (some (.int kd (hi:Int))) (some (.int kd (mx:Int)))).run P w=.ok (.slice (if mx=lo then some ⟨b,o,none⟩ else some ⟨b,o+lo*size,none⟩) (hi-lo) (mx-lo)) w:=by
  simp[Instr.slice,Instr.sliceBounds,Instr.sliceBound,asIntOf,run_underlying hu,b0,e0,e1,e2,h1,h2,h3,Addr.add_lit]
 simp only[execOp,Instr.sliceAt,Sem.run_bind,run_underlying hu,Result.andThen_ok,hx,Option.map_some,hl,hh,hm,a0,Sem.run_pure]
end
theorem k4b{size:Nat}:∀(css:List (List Value)) (i:Nat),(∀x∈css,x.length=size)→css.flatten.take (i*size)=(css.take i).flatten
 | [],i,_=>by simp
 | x::css,0,_=>by simp
 | x::css,i+1,h=>by
   have hx:=h x (by simp);rw[List.flatten_cons,List.take_succ_cons,List.flatten_cons,←k4b css i (fun y hy=>h y (by simp[hy])),Nat.add_mul,Nat.one_mul,List.take_append,hx,Nat.add_sub_cancel,List.take_of_length_le (by omega)]
theorem M4b{size:Nat}:∀(css:List (List Value)) (i:Nat),(∀x∈css,x.length=size)→css.flatten.drop (i*size)=(css.drop i).flatten
 | [],i,_=>by simp
 | x::css,0,_=>by simp
 | x::css,i+1,h=>by
   have hx:=h x (by simp);rw[List.flatten_cons,List.drop_succ_cons,←M4b css i (fun y hy=>h y (by simp[hy])),Nat.add_mul,Nat.one_mul,List.drop_append,hx,Nat.add_sub_cancel,List.drop_eq_nil_of_le (by omega),List.nil_append]
theorem o4a:∀(vs cs:List Value) (o:Nat),(k0a cs o vs).length=cs.length
 | [],_,_=>rfl
 | v::vs,cs,o=>by rw[k0a,o4a vs,List.length_set]
theorem K0b:∀(vs cs:List Value) (o n:Nat),n≤o→(k0a cs o vs).take n=cs.take n
 | [],_,_,_,_=>rfl
 | v::vs,cs,o,n,h=>by rw[k0a,K0b vs _ _ _ (by omega),List.take_set_of_le h]
theorem O1c(g a0 n i:Nat)(css:List (List Value))(cs:List Value)(w0:World)(hB:p0a w0 (g,88,cs))(hR:d3a (some g) 2 n cs (.slice (some ⟨g,0,none⟩) n a0) css.flatten)(hn:css.length=n)(h2:∀x∈css,x.length=2)(h1:∀u∈css.flatten,u.oneCell'=true)(hi:i<n)(y0:n≤1000000):
 M0a Tryz.prog 188 #[.slice (some ⟨g,0,none⟩) n a0,.int .i64 i,.int .i64 ((i:Int)+1)] w0 fun v w'=>v=.slice (some ⟨g,0,none⟩) (n-1) a0∧F0a [g] w0 w'∧∃q0,p0a w' (g,88,q0)∧d3a (some g) 2 (n-1) q0 (.slice (some ⟨g,0,none⟩) (n-1) a0) (css.eraseIdx i).flatten:=by
 have S:=St.borrow1 hB;obtain⟨_,r2⟩:=hR;obtain⟨d0,g0,z0,r0⟩:n≤a0∧a0≤maxLen∧cs.length=a0*2∧cs.take (n*2)=css.flatten:=by
  rcases r2 with⟨h,_⟩|⟨g',h0,h,h',a,b,c,d⟩
  ·cases h
  ·cases h;cases h';exact⟨a,b,c,d⟩
 have j0:d3a (some g) 2 i cs (.slice (some ⟨g,0,none⟩) i a0) (css.take i).flatten:=by
  refine⟨?_,.inr ⟨g,a0,rfl,rfl,by omega,g0,z0,?_⟩⟩
  ·rw[u3a _ (fun x hx=>h2 x (List.mem_of_mem_take hx)),List.length_take];congr 1;omega
  ·rw[←k4b css i h2,←r0,List.take_take];congr 1;omega
 have n0:∃o,(if a0=i+1 then(⟨g,0,none⟩:Addr) else⟨g,0+(i+1)*2,none⟩)=⟨g,o,none⟩∧t1a w0 g o (css.drop (i+1)).flatten:=by
  by_cases hc:a0=i+1
  ·refine⟨0,by rw[if_pos hc],?_⟩;rw[List.drop_eq_nil_of_le (by omega)];intro j v hj;simp at hj
  ·refine⟨0+(i+1)*2,by rw[if_neg hc],fun j v hj=>?_⟩;rw[←M4b css (i+1) h2,←r0,List.getElem?_drop,List.getElem?_take] at hj
   split at hj
   ·exact hB.cell (by rw[Nat.zero_add];exact hj)
   ·cases hj
 obtain⟨_,B0,e0⟩:=n0;have A0:(css.drop (i+1)).flatten.length=(n-(i+1))*2:=by rw[u3a _ (fun x hx=>h2 x (List.mem_of_mem_drop hx)),List.length_drop,hn]
 have i0:∀u∈(css.drop (i+1)).flatten,u.oneCell'=true:=fun u hu=>h1 u (by
  obtain⟨x,hx,hu⟩:=List.mem_flatten.1 hu;exact List.mem_flatten.2 ⟨x,List.mem_of_mem_drop hx,hu⟩)
 have b0:((i:Int)+1)=((i+1:Nat):Int):=by omega
 refine a0a Tryz.func188 rfl Tryz.ntmps188 rfl ?_;refine wO0 rfl ⟨⟩ ?_;refine j3c (lo:=i) (hi:=i+1) (mx:=n) h3a.slT rfl rfl (by rw[←b0];rfl) rfl (by omega) (by omega) d0 rfl ?_;intro E0;refine lB0 rfl ⟨⟩ (fun x0=>by exfalso;omega) fun x0=>?_;refine lC0 rfl ⟨⟩ (v0a b0a [0,1,2,3,4,5] [] [6,7] (by kernel_rfl) rfl (Cl _ _ _ _) (Cl.start S) ?_);refine qO0 rfl ⟨⟩ (q6b (lo:=0) (hi:=i) (kd:=.i64) h3a.slT rfl (.inl ⟨rfl,rfl⟩) (.inr rfl) (by omega) (by omega) d0 rfl ?_);simp only[Nat.zero_mul,Nat.add_zero,Nat.sub_zero,ite_self];refine qO0 rfl ⟨⟩ ?_;refine q6b (lo:=i+1) (hi:=n) (kd:=.i64) h3a.slT rfl (.inr (by rw[←b0];rfl)) (.inl ⟨rfl,rfl⟩) (by omega) (by omega) d0 rfl ?_;rw[B0];refine qD rfl ⟨⟩ ?_;rintro H0 ⟨t0,u0⟩;refine D4b (k:=0) t0 h3a rfl j0 rfl rfl (e0.keep (M:=[]) u0 (by simp)) A0 i0 (by omega) rfl ?_;intro f0 F0 s0 o0 C0;have v0:i+(n-(i+1))=n-1:=by omega
 rw[v0] at o0 ⊢;refine lO0 rfl ⟨⟩ (c3b (lo:=n-1) (hi:=n) (kd:=.i64) h3a.slT rfl (.inr rfl) (.inr rfl) (by omega) (by omega) (by omega) rfl ?_);rw[if_neg (show ¬a0=n-1 by omega),show n-(n-1)=1 by omega];obtain⟨rc,rt⟩:f0.length=a0*2∧f0.take ((n-1)*2)=(css.take i).flatten++(css.drop (i+1)).flatten:=by
  rcases o0.2 with⟨h,_⟩|⟨g',h0,h,h',a,b,c,d⟩
  ·cases h
  ·cases h;cases h';exact⟨c,d⟩
 refine Y3c (kk:=0) s0 h3a rfl rfl (by rw[rc];simp[Value.cells];omega) (by simp[Value.cells,h7c]) ?_;intro G0 p0 D0;refine lT rfl ⟨⟩ rfl ⟨rfl,p0.below,_,p0.blk 0 rfl,?_,.inr ⟨g,a0,rfl,rfl,by omega,g0,?_,?_⟩⟩
 ·rw[u3a _ (fun x hx=>h2 x (List.mem_of_mem_eraseIdx hx)),List.length_eraseIdx,if_pos (by omega),hn]
 ·rw[o4a];exact rc
 ·rw[K0b _ _ _ _ (by omega),rt,List.eraseIdx_eq_take_drop_succ,List.flatten_append]
theorem r1c(p:f0a)(hp:d1a p)(c:q0a)(t i:Nat)(b:List E0a)(M:List Nat)(w0:World)(hM:∀g∈M,g<w0.heap.size)(cs xs:List Value)(m:Int)(hI:InP p M w0 cs)(hX:t0a M w0 c xs)(hf:c3a p c)(r0:c.buf[t]?=some b)(hi:i<b.length):
 M0a Tryz.prog 146 #[.agg (xs++(cs++[Value.int .i64 m])).toArray,.int .i64 t,.int .i64 i] w0 fun v w'=>(∃ys,v=.agg ys.toArray∧t0a M w' (g4a c t i) ys)∧Below w0.heap.size w0 w':=by
 obtain⟨_,_,_,_,_,_,_,_,_,_,_,_,rfl,-⟩:=hI.rd.open_;obtain⟨_,_,_,_,_,_,_,_,_,rfl,_,_,_,_,_,_,_,_,_⟩:=hX.open_;have S:=St.refl w0;have f1:=hf.mem.len;have n1:=hp.ncells;have n2:=hp.nthreads;have f3:=hf.nbuf;have ht:=u1a r0;have g1:=hf.bufs t b r0;have F0:=u8a hf t i;obtain⟨en,g0⟩:∃en,b[i]?=some en:=⟨b[i],List.getElem?_eq_getElem hi⟩;have q1:=g1.2.1 en (c0a g0);have q2:=q1.i64s;have q3:0<c.mem.length:=by
  cases S0:en.cells with
  | nil=>exact absurd S0 q1.some_
  | cons x l=>have:=q2 x (by rw[S0];simp);omega
 have i1:g4a c t i=⟨f2a c.mem en,c.at_,c.buf.set t (b.eraseIdx i)⟩:=by unfold g4a;rw[getD_some r0,getD_some g0]
 rw[i1] at F0 ⊢;refine a0a Tryz.func146 rfl Tryz.ntmps146 rfl ?_;refine wO0 rfl ⟨⟩ (h0a S (by conv=>lhs;whnf) rfl ?_);intro g3 w3 S3 X3 G3;refine m0a S3 Q3a rfl rfl ?_;intro g6 w6 S6 X6 G6;refine lO S6.k [.o 1] rfl ⟨rfl,⟨⟩⟩ ?_;have d1:t0a (g6::g3::M) w6 c _:=(hX.more (fun g hg=>by rcases List.mem_cons.1 hg with rfl|hg;exact .inr (by simpa using S6.new 0 rfl);rcases List.mem_cons.1 hg with rfl|hg;exact .inr (by simpa using S6.new 1 rfl);exact .inl hg)).keep (S6.keep0 _);have a1:∀g∈g6::g3::M,g<w6.heap.size:=fun g hg=>by
  rcases List.mem_cons.1 hg with rfl|hg
  ·exact S6.lt 0 rfl
  ·rcases List.mem_cons.1 hg with rfl|hg
   ·exact S6.lt 1 rfl
   ·have:=hM g hg;have:=S6.size;omega
 refine c2a L0c rfl rfl (d7b p hp c (g6::g3::M) _ a1 _ d1 hf) ?_;rintro s1 m1 ⟨⟨_,_,_,_,_,_,_,d0,vs,rfl,Rm,Ra,t0,hR⟩,-⟩;have Y0:=S6.joinR t0;obtain⟨gm,pad,rfl,rfl,rfl,j1⟩:=Rm.pad q3;obtain⟨_,_,_,rfl⟩:=Ra.form;have K:=y0a.refl [] m1;refine m0a Y0 Q3a rfl rfl ?_;intro g7 w7 S7 X7 G7;have W0:=Nat.le_trans K.size G7;replace K:=K.trans X7;refine e0a (kk:=0) (vs:=[_,_,_]) S7 e2a rfl rfl rfl rfl rfl rfl rfl ?_;intro o1 e0 v0;dsimp only[k0a,List.set] at e0;replace K:=K.fresh v0 (by first|exact W0);have C0:=hR.keep (K.of_nil);obtain⟨G,Q0,v,o0,H0,G0⟩:=C0.2.2 t b r0;obtain⟨g,P0,_,rfl,rfl,_,h1,T0⟩:=G0.get e0 (k:=6+t) ((d5c [_,_,_,_,_,_] d0 t 6 rfl).trans o0) g0;obtain⟨_,_,_,_,_,_,rfl,-⟩:=T0.open_;have r1:vs.length=c.buf.length:=C0.2.1;refine lC0 rfl ⟨⟩ (v0a b0a [0,1,2,3,4,5,6,7,8,9] [] [10] (by kernel_rfl) rfl (Cl _ _ _ _) (Cl.start e0) ?_);refine qO e0.q [.o 0,.o 0] rfl ⟨rfl,rfl,⟨⟩⟩ (n0a V2a.slT rfl (by rfl) rfl (by omega) (by omega) rfl ?_);refine j0a e9a rfl (fun w1 hw=>by exact hw.1.cell 1 rfl ((congrArg (vs[·]?) (show 0+(t:Int).toNat*1=t by simp)).trans H0)) rfl ?_;refine qO0 rfl ⟨⟩ (n0a h3a.slT rfl (by rfl) rfl (by omega) (by omega) rfl ?_);refine J1a j2b rfl (fun w1 hw=>h1.keep (M:=[]) hw.2 (by simp)) (by rfl) rfl ?_;refine qD rfl ⟨⟩ ?_;rintro v1 ⟨N0,O0⟩;refine c2a R8b rfl rfl (S6b en c.mem gm _ pad (gm::[]) _ _ (I0a.keep O0.of_nil _ _ (I0a.more (fun x hx=>by simp at hx;subst hx;simp) _ _ T0)) (by simp) (N0.blk 3 rfl) q1.even (fun x hx=>by have:=q2 x hx;omega)) ?_;rintro t1 s0 ⟨D0,J0⟩;have L0:=N0.changed1 3 rfl J0 D0;have Z0:y0a [gm] _ s0:=y0a.of_belowB J0;have b1:=(C0.keep O0.of_nil).keep (Z0.mono (by simp));refine lC0 rfl ⟨⟩ (g9a b0a (fun i=>[0,1,2,3,4,5,6,7,8,9,10,12].contains i) [0,1,2,3,4,5,6,7,8,9,10,11,12] 13 (by kernel_rfl) (by kernel_rfl) (clF (A:=[_,_,_,_,_,_]) (R:=d0) L0 [g]) _ rfl ?_);have a0:=L0.drew;have z0:y0a [] s0 s0.drew:=s2a _ _;generalize s0.drew=x1 at a0 z0 ⊢;have b0:y0a ([g]) _ _:=z0.of_nil;refine z1a ⟨(St.front (A:=[_,_,_,_,_,_]) a0),b0⟩ rfl rfl rfl ?_;refine z0a y3a rfl rfl ?_;refine d0a ?_;refine z1a ⟨(St.front (A:=[_,_,_,_,_,_]) a0),b0⟩ rfl rfl rfl ?_;refine j0a K3a rfl (fun w1 hw=>by exact hw.1.cell 0 rfl rfl) rfl ?_;refine d0a ?_;refine z1a ⟨(St.front (A:=[_,_,_,_,_,_]) a0),b0⟩ rfl rfl rfl ?_;refine h1a (v:=.int .i64 _) rfl rfl ?_;refine d0a ?_;refine z1a ⟨(St.front (A:=[_,_,_,_,_,_]) a0),b0⟩ rfl rfl rfl ?_;refine z0a y3a rfl rfl ?_;refine d0a ?_;refine z1a ⟨(St.front (A:=[_,_,_,_,_,_]) a0),b0⟩ rfl rfl rfl ?_;refine j0a K3a rfl (fun w1 hw=>by exact hw.1.cell 0 rfl rfl) rfl ?_;refine d0a ?_;refine z1a ⟨(St.front (A:=[_,_,_,_,_,_]) a0),b0⟩ rfl rfl rfl ?_;refine h1a (v:=.int .i64 _) rfl rfl ?_;refine d0a ?_;refine z1a ⟨(St.front (A:=[_,_,_,_,_,_]) a0),b0⟩ rfl rfl rfl ?_;refine n0a V2a.slT rfl (by rfl) rfl (by omega) (by omega) rfl ?_;refine d0a ?_;refine z1a ⟨(St.front (A:=[_,_,_,_,_,_]) a0),b0⟩ rfl rfl rfl ?_;refine j0a e9a rfl (fun w1 hw=>by exact hw.1.cell 1 rfl ((congrArg (vs[·]?) (show 0+(t:Int).toNat*1=t by simp)).trans H0)) rfl ?_;refine d0a ?_;refine z1a ⟨(St.front (A:=[_,_,_,_,_,_]) a0),b0⟩ rfl rfl rfl ?_;refine h1a (v:=.int .i64 _) rfl rfl ?_;refine d0a ?_;refine z1a ⟨(St.front (A:=[_,_,_,_,_,_]) a0),b0⟩ rfl rfl rfl ?_;refine h1a (v:=.int .i64 _) rfl rfl ?_;refine d0a ?_;refine z1a ⟨(St.front (A:=[_,_,_,_,_,_]) a0),b0⟩ rfl rfl rfl ?_;refine g1d rfl rfl (by unfold i64;omega) rfl ?_;refine d0a ?_;refine q8a ⟨(St.front (A:=[_,_,_,_,_,_]) a0),b0⟩ rfl rfl rfl rfl ?_;have R0:=b1.keep z0.of_nil;obtain⟨G',A0,_,p0,I0,q0⟩:=R0.2.2 t b r0;obtain⟨rfl,rfl⟩:some g=G'∧Q0=A0:=by rw[o0] at p0;cases p0;exact⟨rfl,rfl⟩
 obtain rfl:=Option.some.inj (H0.symm.trans I0);obtain⟨css,l1,l2,rv,l4⟩:=q0;refine c2a V6c rfl rfl (O1c g P0 b.length i css Q0 _ (a0.blk (6+t) ((d5c [_,_,_,_,_,_] d0 t 6 rfl).trans o0)) rv l1 l2 (R5c l1 l4) hi (by omega)) ?_;rintro u1 U0 ⟨rfl,K0,B0,E0,X0⟩;have x0:y0a [g] _ U0:=y0a.of_belowB K0;have u0:St [] w0 U0 ([_,_,_,_,_,_]++d0.set t (some g,88,B0)):=(O8c [_,_,_,_,_,_] d0 t 6 rfl _)▸a0.changed1 (6+t) ((d5c [_,_,_,_,_,_] d0 t 6 rfl).trans o0) K0 E0;have j0:=b0.trans x0;have n0:=R0.put (k:=t) ht (B1a.erase D1a l1 l2 l4 hi X0 (x0.mono (by simp))) (G:=some g) (by simpa using x0) (fun g hg=>.inl hg) o0;refine L0a ⟨rfl,?_⟩;refine z1a ⟨(St.front (A:=[_,_,_,_,_,_]) u0),j0⟩ rfl rfl rfl ?_;refine n0a V2a.slT rfl (by rfl) rfl (by omega) (by omega) rfl ?_;refine d0a ?_;refine j5a ⟨(St.front (A:=[_,_,_,_,_,_]) u0),j0⟩ ?_
 first|refine B0a (kk:=1) u0 R7b rfl (by conv=>lhs;whnf) rfl rfl (by(simp;omega)) ?_
 intro V0 f0 i0;replace n0:=n0.keep (i0.mono (by simp));refine L0a ⟨rfl,?_⟩;refine fO f0.k [.w 0] rfl ⟨⟨rfl,by rfl⟩,⟨⟩⟩ ?_
 first|refine e0a (kk:=4) (vs:=[_,_,_]) f0 e2a rfl rfl rfl rfl rfl rfl rfl ?_
 intro p1 h0 y0;dsimp only[k0a,List.set] at h0;replace n0:=n0.keep (y0.mono (by simp));refine lR0 rfl ⟨⟩ ?_;have SF:=h0.setEnt 1 rfl (show _=vs.set t (.slice (some ⟨g,0,none⟩) (b.length-1) P0) by simp);refine n1a (n:=3) rfl a1a rfl (SF.cells 4 rfl) rfl ⟨⟨_,rfl,_,_,_,rfl,?_,Ra.rdI SF (k:=2) rfl hM (W5a hp hf) (by omega),?_⟩,SF.fin⟩
 ·have:=(d3a.ofPad (g:=gm) (l:=f2a c.mem en) (pad:=pad) (by simpa using j1)).rdI SF (k:=3) rfl hM (X2a hp F0.mem) (by simp;omega);simpa using this
 ·have hA:=SF.apartM (A:=[_,_,_,_,_,_]) hM;have:=SF.rdBs (M:=M) 1 rfl (Q0a hM (SF.new 1 rfl)) (bs:=c.buf.set t (b.eraseIdx i)) (by simp;omega) (n0.rd (A:=[_,_,_,_,_,_]) SF (Mx:=M) (fun g hg=>by simp[hg]) hA (fun x hx=>by
   obtain⟨k,hk,rfl⟩:=List.getElem_of_mem hx;have:=(F0.bufs k _ (List.getElem?_eq_getElem hk)).1;omega))
  rw[List.length_set] at this;exact this
def X0b(p:f0a)(s:y1a)(k:Nat):List L1a:=if s.kind=3 then(s.set.take k).filter (fun a=>I1a p.cells a.cell=-1) else[]
def h9a(p:f0a)(s:y1a)(k:Nat):List L1a:=if s.kind=3 then(s.set.take k).filter (fun a=>I1a p.cells a.cell≠-1) else s.set.take k
section
variable {p:f0a} {s:y1a} {k:Nat} {a:L1a}
theorem L7a:X0b p s 0=[]:=by unfold X0b;simp
theorem v4b:h9a p s 0=[]:=by unfold h9a;simp
theorem R6a(h3:s.kind=3)(hx:s.set[k]?=some a)(ht:I1a p.cells a.cell=-1):X0b p s (k+1)=X0b p s k++[a]∧h9a p s (k+1)=h9a p s k:=by
 unfold X0b h9a;rw[if_pos h3,if_pos h3,if_pos h3,if_pos h3,H0a hx,List.filter_append,List.filter_append];simp[ht]
theorem F5a(hx:s.set[k]?=some a)(ht:s.kind=3→¬I1a p.cells a.cell=-1):X0b p s (k+1)=X0b p s k∧h9a p s (k+1)=h9a p s k++[a]:=by
 unfold X0b h9a;by_cases h3:s.kind=3
 ·rw[if_pos h3,if_pos h3,if_pos h3,if_pos h3,H0a hx,List.filter_append,List.filter_append];simp[ht h3]
 ·rw[if_neg h3,if_neg h3,if_neg h3,if_neg h3,H0a hx];simp
theorem T4a:(X0b p s k).length≤s.set.length:=by
 unfold X0b
 split
 ·exact Nat.le_trans (List.length_filter_le _ _) (by rw[List.length_take];omega)
 ·simp
end
theorem v1c{p:f0a}{t n:Int}{s:y1a}(h:p8a p t n s):s.set.length≤p.cells.length:=by
 have:=U7a p.cells.length (s.set.map L1a.cell) (by unfold List.Nodup;rw[List.pairwise_map];exact h.once) (fun x hx=>by
  obtain⟨a,ha,rfl⟩:=List.mem_map.1 hx;exact(h.set a ha).1)
 simpa using this
theorem K6a{p:f0a}{m:Int}(hm:¬m=0){c:q0a}{t:Nat}{s:y1a}{b:List E0a}(h3:s.kind=3)(hb:c.buf[t]?=some b){k:Nat}(hk:s.set.length≤k):j6a p m c t s=⟨B7a (h9a p s k) (c1a c t) c.mem,atC c t s,c.buf.set t (b++[⟨(X0b p s k).map L1a.cell,(X0b p s k).map fun a=>a.to.evl (c1a c t) (c1a c t)⟩])⟩:=by
 unfold j6a X0b h9a M3b;rw[if_pos ⟨h3,hm⟩,if_pos h3,if_pos h3,List.take_of_length_le hk,getD_some hb]
theorem J1b{p:f0a}{m:Int}{c:q0a}{t:Nat}{s:y1a}(h3:¬s.kind=3){k:Nat}(hk:s.set.length≤k):j6a p m c t s=⟨B7a (h9a p s k) (c1a c t) c.mem,atC c t s,c.buf⟩:=by
 unfold j6a h9a;rw[if_neg (fun h=>h3 h.1),if_neg h3,List.take_of_length_le hk]
theorem U0c{c:q0a}{t:Nat}{s:y1a}{pad:List Value}(h:¬s.kind=6)(ht:t<c.at_.length){i:Nat}(hi:i=t):(c.at_.map (Value.int .i64)++pad).set i (.int .i64 s.to)=(atC c t s).map (Value.int .i64)++pad:=by
 subst hi;rw[H5a ht];unfold atC;rw[if_neg h]
theorem L5b{c:q0a}{t:Nat}{s:y1a}{pad:List Value}(h:s.kind=6)(ht:t<c.at_.length)(hg:s.target.toNat<c.at_.length){i j:Nat}(hi:i=t)(hj:j=s.target.toNat):((c.at_.map (Value.int .i64)++pad).set i (.int .i64 s.to)).set j (.int .i64 0)=(atC c t s).map (Value.int .i64)++pad:=by
 subst hi;subst hj;rw[H5a ht,H5a (by simpa using hg)];unfold atC;rw[if_pos h]
abbrev Y2c:List Nat→World→List Value→Int→Prop:=fun _ _=>P2c
theorem J7b(p:f0a)(c:q0a)(m:Int)(hm:m=1∨m=2)(t i:Nat)(th:X0a)(s:y1a)(M:List Nat)(w0:World)(cs xs:List Value)(L2:Value)(hI:InP p M w0 cs)(hX:t0a M w0 c xs)(hV:RdI M w0 L2 (c1a c t))(hf:c3a p c)(S0:p.threads[t]?=some th)(z2:th.steps[i]?=some s)(p0:c3a p (j6a p m c t s)):
 M0a Tryz.prog 147 #[.agg (xs++(cs++[Value.int .i64 m])).toArray,.agg #[.int .i64 t,.int .i64 i,.int .i64 0],L2] w0 fun v w'=>(∃ys,v=.agg ys.toArray∧t0a M w' (j6a p m c t s) ys)∧Below w0.heap.size w0 w':=by
 obtain⟨Ac,nc,cc,Am,nm,cm,Al,nl,cl,At,nt,ct,rfl,hC,_,_,v3,_,_,_,_,_,_,_,_⟩:=hI.rd.open_;obtain⟨Xm,xm,ym,Xa,xa,ya,Xb,xb,yb,rfl,_,_,_,_,_,_,_,_,_⟩:=hX.open_;obtain⟨Av,nv,cv,rfl⟩:=hV.form;have S:=St.refl w0;have hM:=hI.lt;have f1:=hf.mem.len;have f2:=hf.nat;have f3:=hf.nbuf;have hp:=hI.ok;have n1:=hp.ncells;have n2:=hp.nthreads;have ht:=u1a S0;have hi:=u1a z2;have v1:=(hp.thread S0).steps s (c0a z2);have a4:=v1c v1;have I2:6≤s.kind→0≤s.target∧s.target<p.threads.length:=fun h=>(v1.row.k6 h).1;have J2:¬m=0:=by omega
 obtain⟨b,x1⟩:∃b,c.buf[t]?=some b:=⟨c.buf[t]'(by omega),List.getElem?_eq_getElem _⟩;have Z3:=hf.bufs t b x1;refine a0a Tryz.func147 rfl Tryz.ntmps147 rfl ?_;refine wO0 rfl ⟨⟩ (h0a S (by conv=>lhs;whnf) rfl ?_);intro g3 w3 S3 X3 G3;refine h0a S3 (by conv=>lhs;whnf) rfl ?_;intro g4 w4 S4 X4 G4;refine m0a S4 Q3a rfl rfl ?_;intro g6 w6 S6 X6 G6;refine lO S6.k [.o 2] rfl ⟨rfl,⟨⟩⟩ ?_;have x3:t0a (g6::g4::g3::M) w6 c _:=(hX.more (fun g hg=>by rcases List.mem_cons.1 hg with rfl|hg;exact .inr (by simpa using S6.new 0 rfl);rcases List.mem_cons.1 hg with rfl|hg;exact .inr (by simpa using S6.new 1 rfl);rcases List.mem_cons.1 hg with rfl|hg;exact .inr (by simpa using S6.new 2 rfl);exact .inl hg)).keep (S6.keep0 _);have u3:∀g∈g6::g4::g3::M,g<w6.heap.size:=fun g hg=>by
  rcases List.mem_cons.1 hg with rfl|hg
  ·exact S6.lt 0 rfl
  ·rcases List.mem_cons.1 hg with rfl|hg
   ·exact S6.lt 1 rfl
   ·rcases List.mem_cons.1 hg with rfl|hg
    ·exact S6.lt 2 rfl
    ·have:=hM g hg;have:=S6.size;omega
 refine c2a L0c rfl rfl (d7b p hp c (g6::g4::g3::M) _ u3 _ x3 hf) ?_;rintro e4 E1 ⟨⟨Gm,_,r3,_,_,_,gb,i0,vs,rfl,Rm,Ra,I1,hR⟩,-⟩;have D0:=S6.joinR I1;obtain⟨ga,j0,rfl,rfl,rfl,F0⟩:=Ra.pad (by omega);obtain⟨Bm,G2,dm,rfl⟩:=Rm.form;have KM:=y0a.refl Gm.toList E1;have j1:∀g∈(Gm.toList++((some ga).toList++(gb::g6::g4::g3::M)))++V5a i0,g<E1.heap.size:=by
  intro g hg;simp only[List.mem_append,List.mem_cons] at hg;rcases hg with(hg|hg|rfl|rfl|rfl|rfl|hg)|hg
  ·exact a7a D0 (k:=2) rfl g hg
  ·exact a7a D0 (k:=1) rfl g hg
  ·exact D0.lt 0 rfl
  ·exact D0.lt 3 rfl
  ·exact D0.lt 4 rfl
  ·exact D0.lt 5 rfl
  ·have:=hM g hg;have:=D0.size;omega
  ·obtain⟨x,hx,hg⟩:=r2a.1 hg;exact(D0.own x (List.mem_append_right _ hx) g hg).2.lt
 refine m0a D0 Q3a rfl rfl ?_;intro g7 w7 S7 X7 G7;have G1:=Nat.le_trans KM.size G7;replace KM:=KM.trans (X7.of_nil);refine e0a (kk:=0) (vs:=[_,_,_]) S7 e2a rfl rfl rfl rfl rfl rfl rfl ?_;intro H3 E0 N1;dsimp only[k0a,List.set] at E0;replace KM:=KM.fresh2 N1 (by exact .inl G1);refine lC0 rfl ⟨⟩ (v0a b0a [0,1,2,3,4,5,6,7,8,9,10,11] [12] [13] (by kernel_rfl) rfl (Cl _ _ _ _) (Cl.start E0) ?_);obtain⟨_,i3,C3,_,x2,W1,_,_,b2,o2⟩:=RdS.get (v3) (t) (by omega);obtain rfl:=Option.some.inj (S0.symm.trans x2);obtain⟨_,_,_,_,_,_,_,_,_,_,_,_,rfl,_,_,_,m1,_,_,_,_,_,_,_,_,_⟩:=N0a.open_ o2;obtain⟨_,j3,D3,_,y2,X1,_,i2,d2,p2⟩:=RdS.get (m1) (i) (by omega);obtain rfl:=Option.some.inj (z2.symm.trans y2);obtain⟨F1,B2,Q1,U0,T0,d1,rfl,⟨_,_,_,_,_⟩,_,Q0,_,_⟩:=q2a.open_ p2;refine qN ((E0.q.a d2).a b2) [.o 6,.o 5,.x i3 C3,.f 0 4,.o 5,.x j3 D3,.v 1] rfl ⟨⟨rfl,i2⟩,⟨X1,by omega⟩,rfl,rfl,⟨W1,by omega⟩,rfl,rfl,⟨⟩⟩ (V3a ?_);refine b0b rfl rfl S5b rfl ?_;refine R1a ?_;rintro r4 ⟨M1,h3⟩;intro g8 y3 G8 B3;dsimp only[R3a];have H1:=Nat.le_trans KM.size G8;replace KM:=KM.trans (h3.of_nil);clear B3;replace M1:=M1.push_new E0 y3 G8;refine e0a (kk:=0) (vs:=[_,_,_,_,_,_,_,_,_,_,_]) M1 x6b rfl rfl rfl rfl rfl rfl rfl ?_;intro O2 G0 a1;dsimp only[k0a,List.set] at G0;replace KM:=KM.fresh2 a1 (by exact .inl H1);refine lO0 rfl ⟨⟩ (m0a G0 W7a rfl rfl ?_);intro g9 w9 S9 X9 G9;have W0:=Nat.le_trans KM.size G9;replace KM:=KM.trans (X9.of_nil);refine lC S9.k [.o 1] rfl ⟨rfl,⟨⟩⟩ ?_;refine wL (fun μk D ε w=>D=[]∧∃k:Nat,∃Gc:Option Nat,∃U1:List Value,∃vc:Value,∃Gv:Option Nat,∃V1:List Value,∃vv:Value,∃N0:List Value,(k+μk=(s.set.length))∧(B1a Y2c 1 [] w0 Gc U1 vc ((X0b p s k).map L1a.cell))∧(B1a Y2c 1 [] w0 Gv V1 vv ((X0b p s k).map fun a=>a.to.evl (c1a c t) (c1a c t)))∧(∀g∈Gc.toList++Gv.toList,E1.heap.size≤g)∧(d3a Gm 1 c.mem.length N0 (.slice Bm G2 dm) ((B7a (h9a p s k) (c1a c t) c.mem).map (Value.int .i64)))∧(y0a Gm.toList E1 w)∧St [] w0 w ([(Gc,3,U1),(Gv,3,V1),(some g9,88,[vc,vv]),(some g8,97,[.int .i64 s.kind,.int .i64 s.frm,.int .i64 s.to,.int .i64 s.guard.op,.int .i64 s.guard.w,.int .i64 s.guard.n,.slice F1 B2 Q1,.slice U0 T0 d1,.bool s.release,.int .i64 s.target,.int .i64 s.module_]),(some g7,38,[.slice Bm G2 dm,.slice (some ⟨ga,0,none⟩) c.at_.length (c.at_.length+j0.length),.slice (some ⟨gb,0,none⟩) c.buf.length c.buf.length]),(some gb,86,vs),(some ga,3,c.at_.map (Value.int .i64)++j0),(Gm,3,N0),(some g6,38,[.slice none 0 0,.slice none 0 0,.slice none 0 0]),(some g4,44,[.int .i64 t,.int .i64 i,.int .i64 0]),(some g3,206,[.slice Xm xm ym,.slice Xa xa ya,.slice Xb xb yb,.slice Ac nc cc,.slice Am nm cm,.slice Al nl cl,.slice At nt ct,.int .i64 m])]++i0)∧Sl ε [(2,.slice Av nv cv),(3,.pointer (some ⟨g3,0,none⟩)),(4,.pointer (some ⟨g4,0,none⟩)),(6,.pointer (some ⟨g6,0,none⟩)),(7,.pointer (some ⟨g7,0,none⟩)),(8,.pointer (some ⟨g8,0,none⟩)),(9,.pointer (some ⟨g9,0,none⟩)),(29,.slice U0 T0 d1),(30,.int .i64 T0),(31,.int .i64 k)]) (μ:=(s.set.length)) ⟨rfl,0,none,[],.slice none 0 0,none,[],.slice none 0 0,r3,by omega,by rw[L7a];exact B1a.nil,by rw[L7a];exact B1a.nil,by simp,by rw[v4b];exact Rm,KM,((S9.nilEnt 3).nilEnt 3),rfl⟩ ?_;rintro μk D ε w ⟨rfl,k,Gc,U1,vc,Gv,V1,vv,N0,_,o1,t1,J0,R0,KM,S,eZ⟩;refine wK eZ (wB0 rfl ⟨⟩ (fun t3=>?_) fun t3=>?_)
 ·obtain⟨a,m3,E3,_,A3,Y1,_,j2,g2,r2⟩:=RdS.get (Q0) (k) (by omega);obtain⟨_,_,_,rfl,A2,a2⟩:=U0a.open_ r2;have f0:=A3;have q1:=(v1.set a (c0a f0)).1;unfold D2a at q1;have q2:=q5a (v1.set a (c0a f0)).2.1 (c1a c t) (c1a c t);rw[(v1.set a (c0a f0)).2.2] at q2;have d4:=j9a hp a.cell;have q3:i64 (a.to.evl (c1a c t) (c1a c t)):=by unfold i64;omega
  refine lO (S.k.a g2) [.x m3 E3,.v 0] rfl ⟨⟨rfl,j2⟩,⟨Y1,by omega⟩,⟨⟩⟩ (m0a S c8a rfl rfl ?_);intro U3 j4 U2 Y2 S2;have V0:=Nat.le_trans KM.size S2;replace KM:=KM.trans (Y2.of_nil);refine e0a (kk:=0) (vs:=[_,_,_,_,_]) U2 d8a rfl rfl rfl rfl rfl rfl rfl ?_;intro I3 q0 O1;dsimp only[k0a,List.set] at q0;replace KM:=KM.fresh2 O1 (by exact .inl V0);refine lO q0.k [.o 0] rfl ⟨rfl,⟨⟩⟩ (g0a q0 k1b rfl rfl (O8a a.to M _ _ _ _ (c1a c t) (c1a c t) (RdE.keep (q0.keep0 M) _ _ a2) (hI.keep (q0.keep0 M)).msk (hV.keep (q0.keep0 M)) (hV.keep (q0.keep0 M))) ?_);intro k4 u0 Z2;replace KM:=KM.trans (Z2.of_nil);refine lO0 rfl ⟨⟩ (s0a K0a rfl (by exact u0.cell 4 rfl rfl) rfl ?_);refine lB0 rfl ⟨⟩ (fun O0=>?_) fun O0=>?_
  ·refine lO0 rfl ⟨⟩ (s0a t9a rfl (by exact u0.cell 11 rfl rfl) rfl ?_);obtain⟨_,n3,F3,_,y1,Z1,_,_,h2,s2⟩:=RdS.get (hC) (a.cell.toNat) (by omega);obtain⟨rfl,_,_,_,_⟩:=F2a.open_ s2;have t0:=i1a y1;refine lB (u0.k.a h2) [.o 0,.x n3 F3,.f 0 3] rfl ⟨rfl,⟨Z1,by omega⟩,rfl,⟨⟩⟩ (fun P0=>?_) fun P0=>?_
   ·refine lO0 rfl ⟨⟩ (s0a O2a rfl (by exact u0.cell 3 rfl rfl) rfl ?_);refine lO u0.k [.o 0] rfl ⟨rfl,⟨⟩⟩ (u0a u0 O0a (vs:=[.int .i64 _]) (cs:=[_]) (by rfl) rfl rfl rfl rfl rfl rfl ?_);intro V3 m4 D2 a3 M3;replace KM:=KM.trans (a3.of_nil);refine Y0a Z2a (k:=2) (M2:=[]) (e1:=a.cell) D2 O0a (by decide) rfl o1 rfl rfl (D2.cells 0 rfl) ⟨rfl,A2⟩ (by have:=T4a (p:=p) (s:=s) (k:=k);simp;omega) rfl ?_;intro f4 P3 p3 n4 V2 p1 b3 P2;have R3:=KM.size;obtain⟨_,_,rfl⟩:=p1.form;replace KM:=KM.freshL b3 (fun g hg=>.inl (J0 g (List.mem_append_left _ hg)));refine lO0 rfl ⟨⟩ ?_
    first|refine B0a (kk:=4) V2 W0b rfl (by conv=>lhs;whnf) rfl rfl (by exact Nat.le_of_ble_eq_true rfl) ?_
    intro K3 Y0 P1;replace KM:=KM.fresh2 P1 (by exact .inl W0);refine lO0 rfl ⟨⟩ (s0a O2a rfl (by exact Y0.cell 4 rfl rfl) rfl ?_);refine lO0 rfl ⟨⟩ (u0a Y0 O0a (vs:=[.int .i64 _]) (cs:=[_]) (by rfl) rfl rfl rfl rfl rfl rfl ?_);intro W3 o4 E2 d3 N3;replace KM:=KM.trans (d3.of_nil);refine Y0a Z2a (k:=4) (M2:=[]) (e1:=a.to.evl (c1a c t) (c1a c t)) E2 O0a (by decide) rfl t1 rfl rfl (E2.cells 0 rfl) ⟨rfl,q3⟩ (by have:=T4a (p:=p) (s:=s) (k:=k);simp;omega) rfl ?_;intro h4 Q3 s3 p4 W2 u1 e3 Q2;have T3:=KM.size;obtain⟨_,_,rfl⟩:=u1.form;replace KM:=KM.freshL e3 (fun g hg=>.inl (J0 g (List.mem_append_right _ hg)));refine lO0 rfl ⟨⟩ ?_
    first|refine B0a (kk:=5) W2 W0b rfl (by conv=>lhs;whnf) rfl rfl (by exact Nat.le_of_ble_eq_true rfl) ?_
    intro N2 X0 Z0;replace KM:=KM.fresh2 Z0 (by exact .inl W0);refine lP0 rfl ⟨by omega,⟨⟩⟩ ⟨μk-1,by omega,rfl,(k+1),(_),(_),(_),(_),(_),(_),(_),(by omega),?_,?_,?_,?_,(KM),X0.tail.tail.tail,rfl⟩
    ·rw[(R6a O0 f0 (t0.trans P0)).1,List.map_append];exact p1
    ·rw[(R6a O0 f0 (t0.trans P0)).1,List.map_append];exact u1
    ·intro g hg;rcases List.mem_append.1 hg with hg|hg
     ·rcases P2 g hg with h|h
      ·exact J0 g (List.mem_append_left _ h)
      ·omega
     ·rcases Q2 g hg with h|h
      ·exact J0 g (List.mem_append_right _ h)
      ·omega
    ·rw[(R6a O0 f0 (t0.trans P0)).2];exact R0
   obtain⟨gm,pad,rfl,w2,rfl,m2⟩:=R0.pad (by simp;omega);have z3:(B7a (h9a p s k) (c1a c t) c.mem).length=c.mem.length:=by simp
   cases w2;refine lO0 rfl ⟨⟩ (s0a O2a rfl (by exact u0.cell 5 rfl rfl) rfl ?_);refine lO u0.k [.o 0] rfl ⟨rfl,⟨⟩⟩ (w0a O0a.slT rfl (by rfl) rfl (by omega) (by omega) rfl ?_)
   first|refine B0a (kk:=8) u0 u9a rfl (by conv=>lhs;whnf) rfl rfl (by(simp;omega)) ?_
   intro z1 v0 x0;replace KM:=KM.fresh2 x0 (by exact .inr (by simp));refine lP0 rfl ⟨by omega,⟨⟩⟩ ⟨μk-1,by omega,rfl,(k+1),(_),(_),(_),(_),(_),(_),(_),(by omega),?_,?_,?_,?_,(KM),v0.tail,rfl⟩
   ·rw[(F5a f0 (fun _=>by rw[t0];exact P0)).1];exact o1
   ·rw[(F5a f0 (fun _=>by rw[t0];exact P0)).1];exact t1
   ·exact J0
   ·have e2:h9a p s (k+1)=h9a p s k++[a]:=by exact(F5a f0 (fun _=>by rw[t0];exact P0)).2
    rw[e2,f6a];have:=d3a.ofPad (g:=gm) (l:=(B7a (h9a p s k) (c1a c t) c.mem).set a.cell.toNat (a.to.evl (c1a c t) (c1a c t))) (pad:=pad) (by simpa using m2);rw[←H5a (by omega)] at this;simpa using this
  obtain⟨gm,pad,rfl,w2,rfl,m2⟩:=R0.pad (by simp;omega);have z3:(B7a (h9a p s k) (c1a c t) c.mem).length=c.mem.length:=by simp
  cases w2;refine lO0 rfl ⟨⟩ (s0a O2a rfl (by exact u0.cell 5 rfl rfl) rfl ?_);refine lO u0.k [.o 0] rfl ⟨rfl,⟨⟩⟩ (w0a O0a.slT rfl (by rfl) rfl (by omega) (by omega) rfl ?_)
  first|refine B0a (kk:=8) u0 u9a rfl (by conv=>lhs;whnf) rfl rfl (by(simp;omega)) ?_
  intro z1 v0 x0;replace KM:=KM.fresh2 x0 (by exact .inr (by simp));refine lP0 rfl ⟨by omega,⟨⟩⟩ ⟨μk-1,by omega,rfl,(k+1),(_),(_),(_),(_),(_),(_),(_),(by omega),?_,?_,?_,?_,(KM),v0.tail,rfl⟩
  ·rw[(F5a f0 (fun h=>absurd h O0)).1];exact o1
  ·rw[(F5a f0 (fun h=>absurd h O0)).1];exact t1
  ·exact J0
  ·have e2:h9a p s (k+1)=h9a p s k++[a]:=by exact(F5a f0 (fun h=>absurd h O0)).2
   rw[e2,f6a];have:=d3a.ofPad (g:=gm) (l:=(B7a (h9a p s k) (c1a c t) c.mem).set a.cell.toNat (a.to.evl (c1a c t) (c1a c t))) (pad:=pad) (by simpa using m2);rw[←H5a (by omega)] at this;simpa using this
 refine lO0 rfl ⟨⟩ (s0a K0a rfl (by exact S.cell 3 rfl rfl) rfl ?_);refine lB0 rfl ⟨⟩ (fun g1=>?_) fun g1=>?_
 ·have I0:=hR.keep (KM.mono (fun g hg=>List.mem_append_left _ (List.mem_append_left _ hg)));obtain⟨G,o3,v,D1,K2,t2⟩:=I0.2.2 t b x1;obtain⟨_,_,rfl⟩:=t2.form;obtain⟨_,_,rfl⟩:=o1.form;obtain⟨_,_,rfl⟩:=t1.form;have b4:vs.length=c.buf.length:=I0.2.1;have H2:∀g∈G.toList,g∈(Gm.toList++((some ga).toList++(gb::g6::g4::g3::M)))++V5a i0:=fun g hg=>List.mem_append_right _ (r2a.2 ⟨_,List.mem_of_getElem? D1,by cases G<;>simp at hg ⊢;exact hg.symm⟩);have h1:RdI ((Gm.toList++((some ga).toList++(gb::g6::g4::g3::M)))++V5a i0) w _ _:=B1a.rd (M:=(Gm.toList++((some ga).toList++(gb::g6::g4::g3::M)))++V5a i0) (w:=w) Z2a o1 S (k:=0) rfl (fun g hg hm=>by have:=J0 g (by rw[hg];simp);have:=j1 g hm;omega) (by have:=T4a (p:=p) (s:=s) (k:=k);simp;omega);have i1:RdI ((Gm.toList++((some ga).toList++(gb::g6::g4::g3::M)))++V5a i0) w _ _:=B1a.rd (M:=(Gm.toList++((some ga).toList++(gb::g6::g4::g3::M)))++V5a i0) (w:=w) Z2a t1 S (k:=1) rfl (fun g hg hm=>by have:=J0 g (by rw[hg];simp);have:=j1 g hm;omega) (by have:=T4a (p:=p) (s:=s) (k:=k);simp;omega);refine lC0 rfl ⟨⟩ (g9a b0a (fun i=>[0,1,2,3,4,5,6,7,8,9,10,13].contains i) [0,1,2,3,4,5,6,7,8,9,10,11,12,13] 14 (by kernel_rfl) (by kernel_rfl) (clF (A:=[_,_,_,_,_,_,_,_,_,_,_]) (R:=i0) S G.toList) _ rfl ?_);have d0:=S.drew;have A0:y0a [] w w.drew:=s2a _ _;generalize w.drew=L3 at d0 A0 ⊢;have e0:y0a (G.toList) _ _:=A0.of_nil;replace I0:=I0.keep A0.of_nil;replace h1:=h1.keep A0.of_nil;replace i1:=i1.keep A0.of_nil;refine z1a ⟨(St.front (A:=[_,_,_,_,_,_,_,_,_,_,_]) d0),e0⟩ rfl rfl rfl ?_;refine z0a y3a rfl rfl ?_;refine d0a ?_;refine z1a ⟨(St.front (A:=[_,_,_,_,_,_,_,_,_,_,_]) d0),e0⟩ rfl rfl rfl ?_;refine j0a K3a rfl (fun w1 hw=>by exact hw.1.cell 4 rfl rfl) rfl ?_;refine d0a ?_;refine z1a ⟨(St.front (A:=[_,_,_,_,_,_,_,_,_,_,_]) d0),e0⟩ rfl rfl rfl ?_;refine z0a U9a rfl rfl ?_;refine d0a ?_;refine z1a ⟨(St.front (A:=[_,_,_,_,_,_,_,_,_,_,_]) d0),e0⟩ rfl rfl rfl ?_;refine j0a K0a rfl (fun w1 hw=>by exact hw.1.cell 9 rfl rfl) rfl ?_;refine d0a ?_;refine z1a ⟨(St.front (A:=[_,_,_,_,_,_,_,_,_,_,_]) d0),e0⟩ rfl rfl rfl ?_;refine z0a y3a rfl rfl ?_;refine d0a ?_;refine z1a ⟨(St.front (A:=[_,_,_,_,_,_,_,_,_,_,_]) d0),e0⟩ rfl rfl rfl ?_;refine j0a K3a rfl (fun w1 hw=>by exact hw.1.cell 4 rfl rfl) rfl ?_;refine d0a ?_;refine z1a ⟨(St.front (A:=[_,_,_,_,_,_,_,_,_,_,_]) d0),e0⟩ rfl rfl rfl ?_;refine z0a U9a rfl rfl ?_;refine d0a ?_;refine z1a ⟨(St.front (A:=[_,_,_,_,_,_,_,_,_,_,_]) d0),e0⟩ rfl rfl rfl ?_;refine j0a K0a rfl (fun w1 hw=>by exact hw.1.cell 9 rfl rfl) rfl ?_;refine d0a ?_;refine z1a ⟨(St.front (A:=[_,_,_,_,_,_,_,_,_,_,_]) d0),e0⟩ rfl rfl rfl ?_;refine n0a V2a.slT rfl (by rfl) rfl (by omega) (by omega) rfl ?_;refine d0a ?_;refine z1a ⟨(St.front (A:=[_,_,_,_,_,_,_,_,_,_,_]) d0),e0⟩ rfl rfl rfl ?_;refine j0a e9a rfl (fun w1 hw=>by exact hw.1.cell 5 rfl ((congrArg (vs[·]?) (show 0+(t:Int).toNat*1=t by simp)).trans K2)) rfl ?_;refine d0a ?_;refine z1a ⟨(St.front (A:=[_,_,_,_,_,_,_,_,_,_,_]) d0),e0⟩ rfl rfl rfl ?_;refine J1a j2b rfl (fun w1 hw=>hw.1.cells 2 rfl) rfl rfl ?_;refine d0a ?_;refine q8a ⟨(St.front (A:=[_,_,_,_,_,_,_,_,_,_,_]) d0),e0⟩ rfl rfl rfl rfl ?_;refine u0a d0 h3a (vs:=[.agg _]) (cs:=[_,_]) (by rfl) rfl rfl rfl rfl rfl rfl ?_;intro Y3 q4 J1 C1 O3;have H0:=e0.trans (C1.mono (by simp));replace I0:=I0.keep (C1.of_nil);replace h1:=h1.keep (C1.of_nil);replace i1:=i1.keep (C1.of_nil);refine L0a ⟨rfl,?_⟩;refine q8a ⟨(St.front (A:=[_,_,_,_,_,_,_,_,_,_,_,_]) J1).tail,H0⟩ rfl rfl rfl rfl ?_;obtain⟨G',R1,_,r1,v2,s1⟩:=I0.2.2 t b x1;obtain⟨rfl,rfl⟩:G=G'∧o3=R1:=by rw[D1] at r1;cases r1;exact⟨rfl,rfl⟩
  obtain rfl:=Option.some.inj (K2.symm.trans v2);refine Y0a D1a (k:=12+t) (e1:=⟨(X0b p s k).map L1a.cell,(X0b p s k).map fun a=>a.to.evl (c1a c t) (c1a c t)⟩) J1 h3a (by decide) ((d5c [_,_,_,_,_,_,_,_,_,_,_,_] i0 t 12 rfl).trans D1) s1 rfl rfl (J1.cells 0 rfl) ⟨_,_,rfl,h1.more (by omega) (fun g hg=>.inl (by rcases List.mem_append.1 hg with h|h;exact H2 g h;exact h)),i1.more (by omega) (fun g hg=>.inl (by rcases List.mem_append.1 hg with h|h;exact H2 g h;exact h))⟩ (by omega) rfl ?_;intro i4 T2 T1 J3 K1 B0 F2 R2;have X2:St [] w0 J3 ([_,_,_,_,_,_,_,_,_,_,_,_]++i0.set t (T2,88,T1)):=(O8c [_,_,_,_,_,_,_,_,_,_,_,_] i0 t 12 rfl _)▸K1;have K0:=X2.tail;have b1:=H0.trans F2;have g0:=I0.put (k:=t) (by omega) B0 F2 R2 D1;obtain⟨_,_,u2⟩:=B0.form;subst u2;clear hR;refine L0a ⟨rfl,?_⟩;refine z1a ⟨(St.front (A:=[_,_,_,_,_,_,_,_,_,_,_]) K0),b1⟩ rfl rfl rfl ?_;refine n0a V2a.slT rfl (by rfl) rfl (by omega) (by omega) rfl ?_;refine d0a ?_;refine j5a ⟨(St.front (A:=[_,_,_,_,_,_,_,_,_,_,_]) K0),b1⟩ ?_
  first|refine B0a (kk:=5) K0 R7b rfl (by conv=>lhs;whnf) rfl rfl (by(simp;omega)) ?_
  intro C2 n0 L0;replace g0:=g0.keep (L0.mono (by simp));refine L0a ⟨rfl,?_⟩
  try have g0:=hR.keep (KM.mono (fun g hg=>List.mem_append_left _ (List.mem_append_left _ hg)))
  refine fO0 rfl ⟨⟩ (s0a O2a rfl (by exact n0.cell 4 rfl rfl) rfl ?_);refine lO0 rfl ⟨⟩ (s0a K0a rfl (by exact n0.cell 9 rfl rfl) rfl ?_);refine lO0 rfl ⟨⟩ (s0a K0a rfl (by exact n0.cell 3 rfl rfl) rfl ?_);refine w0a O0a.slT rfl (by rfl) rfl (by omega) (by omega) rfl ?_
  first|refine B0a (kk:=6) n0 u9a rfl (by conv=>lhs;whnf) rfl rfl (by(simp;omega)) ?_
  intro A1 a0 y0;replace g0:=g0.keep (y0.mono (by simp));refine lO0 rfl ⟨⟩ (s0a K0a rfl (by exact a0.cell 3 rfl rfl) rfl ?_);refine lB0 rfl ⟨⟩ (fun r0=>?_) fun r0=>?_
  ·refine lO0 rfl ⟨⟩ (s0a O2a rfl (by exact a0.cell 4 rfl rfl) rfl ?_);refine lO0 rfl ⟨⟩ (s0a K0a rfl (by exact a0.cell 3 rfl rfl) rfl ?_);have q6:=I2 (by omega);refine w0a O0a.slT rfl (by rfl) rfl (by omega) (by omega) rfl ?_
   first|refine B0a (kk:=6) a0 u9a rfl (by conv=>lhs;whnf) rfl rfl (by(simp;omega)) ?_
   intro B1 o0 z0;replace g0:=g0.keep (z0.mono (by simp));refine lO0 rfl ⟨⟩ (w1a a1a rfl (o0.cells 4 rfl) rfl rfl ?_)
   first|refine e0a (kk:=8) (vs:=[_,_,_]) o0 e2a rfl rfl rfl rfl rfl rfl rfl ?_
   intro C0 b0 h0;dsimp only[k0a,List.set] at b0;replace g0:=g0.keep (h0.mono (by simp));refine lR0 rfl ⟨⟩ ?_;have SF:=b0.setEnt 6 rfl (show _=(atC c t s).map (Value.int .i64)++j0 by exact L5b r0 (by omega) (by omega) (by simp) (by simp));have s0:=P5a c t s;rw[K6a J2 g1 x1 (k:=k) (by omega)] at p0 ⊢;have SG:=SF.setEnt 5 rfl (congrArg (fun i=>vs.set i _) (show 0+(t:Int).toNat*1=t by simp));refine n1a (n:=3) rfl a1a rfl (SG.cells 8 rfl) rfl ⟨⟨_,rfl,_,_,_,rfl,R0.rdI SG (k:=7) rfl hM (X2a hp p0.mem) (by simp;omega),?_,?_⟩,SG.fin⟩
   ·have:=(d3a.ofPad (g:=ga) (l:=atC c t s) (pad:=j0) (by rw[s0];exact F0)).rdI SG (k:=6) rfl hM (W5a hp p0) (by rw[s0];omega);rw[s0] at this;exact this
   ·have hA:=SG.apartM (A:=[_,_,_,_,_,_,_,_,_,_,_]) hM;have:=SG.rdBs (M:=M) 5 rfl (Q0a hM (SG.new 5 rfl)) (bs:=c.buf.set t _) (by simp;omega) (g0.rd (A:=[_,_,_,_,_,_,_,_,_,_,_]) SG (Mx:=M) (fun g hg=>by simp[hg]) hA (fun x hx=>by
     obtain⟨q,hq,rfl⟩:=List.getElem_of_mem hx;have:=(p0.bufs q _ (List.getElem?_eq_getElem hq)).1;omega))
    rw[List.length_set] at this;exact this
  refine lO0 rfl ⟨⟩ (w1a a1a rfl (a0.cells 4 rfl) rfl rfl ?_)
  first|refine e0a (kk:=8) (vs:=[_,_,_]) a0 e2a rfl rfl rfl rfl rfl rfl rfl ?_
  intro C0 b0 h0;dsimp only[k0a,List.set] at b0;replace g0:=g0.keep (h0.mono (by simp));refine lR0 rfl ⟨⟩ ?_;have SF:=b0.setEnt 6 rfl (show _=(atC c t s).map (Value.int .i64)++j0 by exact U0c r0 (by omega) (by simp));have s0:=P5a c t s;rw[K6a J2 g1 x1 (k:=k) (by omega)] at p0 ⊢;have SG:=SF.setEnt 5 rfl (congrArg (fun i=>vs.set i _) (show 0+(t:Int).toNat*1=t by simp));refine n1a (n:=3) rfl a1a rfl (SG.cells 8 rfl) rfl ⟨⟨_,rfl,_,_,_,rfl,R0.rdI SG (k:=7) rfl hM (X2a hp p0.mem) (by simp;omega),?_,?_⟩,SG.fin⟩
  ·have:=(d3a.ofPad (g:=ga) (l:=atC c t s) (pad:=j0) (by rw[s0];exact F0)).rdI SG (k:=6) rfl hM (W5a hp p0) (by rw[s0];omega);rw[s0] at this;exact this
  ·have hA:=SG.apartM (A:=[_,_,_,_,_,_,_,_,_,_,_]) hM;have:=SG.rdBs (M:=M) 5 rfl (Q0a hM (SG.new 5 rfl)) (bs:=c.buf.set t _) (by simp;omega) (g0.rd (A:=[_,_,_,_,_,_,_,_,_,_,_]) SG (Mx:=M) (fun g hg=>by simp[hg]) hA (fun x hx=>by
    obtain⟨q,hq,rfl⟩:=List.getElem_of_mem hx;have:=(p0.bufs q _ (List.getElem?_eq_getElem hq)).1;omega))
   rw[List.length_set] at this;exact this
 try have g0:=hR.keep (KM.mono (fun g hg=>List.mem_append_left _ (List.mem_append_left _ hg)))
 refine lO0 rfl ⟨⟩ (s0a O2a rfl (by exact S.cell 4 rfl rfl) rfl ?_);refine lO0 rfl ⟨⟩ (s0a K0a rfl (by exact S.cell 9 rfl rfl) rfl ?_);refine lO0 rfl ⟨⟩ (s0a K0a rfl (by exact S.cell 3 rfl rfl) rfl ?_);refine w0a O0a.slT rfl (by rfl) rfl (by omega) (by omega) rfl ?_
 first|refine B0a (kk:=6) S u9a rfl (by conv=>lhs;whnf) rfl rfl (by(simp;omega)) ?_
 intro A1 a0 y0;replace g0:=g0.keep (y0.mono (by simp));refine lO0 rfl ⟨⟩ (s0a K0a rfl (by exact a0.cell 3 rfl rfl) rfl ?_);refine lB0 rfl ⟨⟩ (fun r0=>?_) fun r0=>?_
 ·refine lO0 rfl ⟨⟩ (s0a O2a rfl (by exact a0.cell 4 rfl rfl) rfl ?_);refine lO0 rfl ⟨⟩ (s0a K0a rfl (by exact a0.cell 3 rfl rfl) rfl ?_);have q6:=I2 (by omega);refine w0a O0a.slT rfl (by rfl) rfl (by omega) (by omega) rfl ?_
  first|refine B0a (kk:=6) a0 u9a rfl (by conv=>lhs;whnf) rfl rfl (by(simp;omega)) ?_
  intro B1 o0 z0;replace g0:=g0.keep (z0.mono (by simp));refine lO0 rfl ⟨⟩ (w1a a1a rfl (o0.cells 4 rfl) rfl rfl ?_)
  first|refine e0a (kk:=8) (vs:=[_,_,_]) o0 e2a rfl rfl rfl rfl rfl rfl rfl ?_
  intro C0 b0 h0;dsimp only[k0a,List.set] at b0;replace g0:=g0.keep (h0.mono (by simp));refine lR0 rfl ⟨⟩ ?_;have SF:=b0.setEnt 6 rfl (show _=(atC c t s).map (Value.int .i64)++j0 by exact L5b r0 (by omega) (by omega) (by simp) (by simp));have s0:=P5a c t s;rw[J1b g1 (k:=k) (by omega)] at p0 ⊢;have SG:=SF;refine n1a (n:=3) rfl a1a rfl (SG.cells 8 rfl) rfl ⟨⟨_,rfl,_,_,_,rfl,R0.rdI SG (k:=7) rfl hM (X2a hp p0.mem) (by simp;omega),?_,?_⟩,SG.fin⟩
  ·have:=(d3a.ofPad (g:=ga) (l:=atC c t s) (pad:=j0) (by rw[s0];exact F0)).rdI SG (k:=6) rfl hM (W5a hp p0) (by rw[s0];omega);rw[s0] at this;exact this
  ·have hA:=SG.apartM (A:=[_,_,_,_,_,_,_,_,_,_,_]) hM;have:=SG.rdBs (M:=M) 5 rfl (Q0a hM (SG.new 5 rfl)) (bs:=c.buf) (by omega) (g0.rd (A:=[_,_,_,_,_,_,_,_,_,_,_]) SG (Mx:=M) (fun g hg=>by simp[hg]) hA (fun x hx=>by
    obtain⟨q,hq,rfl⟩:=List.getElem_of_mem hx;have:=(p0.bufs q _ (List.getElem?_eq_getElem hq)).1;omega))
   exact this
 refine lO0 rfl ⟨⟩ (w1a a1a rfl (a0.cells 4 rfl) rfl rfl ?_)
 first|refine e0a (kk:=8) (vs:=[_,_,_]) a0 e2a rfl rfl rfl rfl rfl rfl rfl ?_
 intro C0 b0 h0;dsimp only[k0a,List.set] at b0;replace g0:=g0.keep (h0.mono (by simp));refine lR0 rfl ⟨⟩ ?_;have SF:=b0.setEnt 6 rfl (show _=(atC c t s).map (Value.int .i64)++j0 by exact U0c r0 (by omega) (by simp));have s0:=P5a c t s;rw[J1b g1 (k:=k) (by omega)] at p0 ⊢;have SG:=SF;refine n1a (n:=3) rfl a1a rfl (SG.cells 8 rfl) rfl ⟨⟨_,rfl,_,_,_,rfl,R0.rdI SG (k:=7) rfl hM (X2a hp p0.mem) (by simp;omega),?_,?_⟩,SG.fin⟩
 ·have:=(d3a.ofPad (g:=ga) (l:=atC c t s) (pad:=j0) (by rw[s0];exact F0)).rdI SG (k:=6) rfl hM (W5a hp p0) (by rw[s0];omega);rw[s0] at this;exact this
 ·have hA:=SG.apartM (A:=[_,_,_,_,_,_,_,_,_,_,_]) hM;have:=SG.rdBs (M:=M) 5 rfl (Q0a hM (SG.new 5 rfl)) (bs:=c.buf) (by omega) (g0.rd (A:=[_,_,_,_,_,_,_,_,_,_,_]) SG (Mx:=M) (fun g hg=>by simp[hg]) hA (fun x hx=>by
   obtain⟨q,hq,rfl⟩:=List.getElem_of_mem hx;have:=(p0.bufs q _ (List.getElem?_eq_getElem hq)).1;omega))
  exact this
def NC(w:World)(rs:List (Nat×Obj)):Prop:=∀x∈rs,w.heap[x.1]?=some x.2∧∀a t f,x.2≠.cells a t f
theorem NC.nil{w:World}:NC w []:=fun x hx=>by cases hx
theorem NC.lt{w:World}{rs:List (Nat×Obj)}(h:NC w rs):∀x∈rs,x.1<w.heap.size:=fun x hx=>by
 have:=(h x hx).1;rcases Nat.lt_or_ge x.1 w.heap.size with h'|h'
 ·exact h'
 ·rw[Array.getElem?_eq_none h'] at this;cases this
theorem NC.keep{w w':World}{rs:List (Nat×Obj)}(h:NC w rs)(k:y0a [] w w'):NC w' rs:=fun x hx=>⟨(k.same x.1 (h.lt x hx) (by simp)).trans (h x hx).1,(h x hx).2⟩
theorem NC.ne{w:World}{rs:List (Nat×Obj)}(h:NC w rs){g t:Nat}{cs:List Value}(hg:p0a w (g,t,cs)):∀x∈rs,x.1≠g:=fun x hx he=>by
 have h1:=(h x hx).1;rw[he] at h1;unfold p0a at hg;rw[hg] at h1;exact(h x hx).2 _ _ _ (Option.some.inj h1).symm
theorem NC.keepS{w w':World}{rs:List (Nat×Obj)}(h:NC w rs){g t:Nat}{cs:List Value}(k:y0a [g] w w')(hg:p0a w (g,t,cs)):NC w' rs:=fun x hx =>
 ⟨(k.same x.1 (h.lt x hx) (by rw[List.mem_singleton];exact h.ne hg x hx)).trans (h x hx).1,(h x hx).2⟩
theorem NC.keepL{w w':World}{rs:List (Nat×Obj)}(h:NC w rs){Gs:List Nat}(k:y0a Gs w w')(hg:∀g∈Gs,∃t cs,p0a w (g,t,cs)):NC w' rs:=fun x hx =>
 ⟨(k.same x.1 (h.lt x hx) (fun hh=>by obtain⟨t,cs,hb⟩:=hg _ hh;exact h.ne hb x hx rfl)).trans (h x hx).1,(h x hx).2⟩
theorem NC.tail{w:World}{x:Nat×Obj}{rs:List (Nat×Obj)}(h:NC w (x::rs)):NC w rs:=fun y hy=>h y (List.mem_cons_of_mem _ hy)
theorem NC.cons{w:World}{x:Nat×Obj}{rs:List (Nat×Obj)}(h:NC w rs)(h1:w.heap[x.1]?=some x.2)(h2:∀a t f,x.2≠.cells a t f):NC w (x::rs):=fun y hy=>by
 rcases List.mem_cons.1 hy with rfl|hy
 ·exact⟨h1,h2⟩
 ·exact h y hy
theorem NC.put{w:World}{l:Nat}{o o':Obj}{rs:List (Nat×Obj)}(h:NC w ((l,o)::rs))(hl:∀x∈rs,x.1≠l)(ho:∀a t f,o'≠.cells a t f):NC (w.putObj l o') ((l,o')::rs):=by
 have a0:=h.lt (l,o) (by simp);refine NC.cons (fun x hx=>⟨?_,(h.tail x hx).2⟩) (World.putObj_heap_same a0) ho;rw[World.putObj_heap_other (hl x hx)];exact(h.tail x hx).1
theorem St.putObj{M:List Nat}{w0 w:World}{L:List Ent}(S:St M w0 w L){l:Nat}(o:Obj){rs:List (Nat×Obj)}{o1:Obj}(h:NC w rs)(hx:(l,o1)∈rs)(hl:w0.heap.size≤l∨l∈M):St M w0 (w.putObj l o) L:=by
 refine⟨S.below.putObj o hl,fun b hb g hg=>⟨(S.own b hb g hg).1,(S.own b hb g hg).2.putObj (fun he=>?_)⟩,S.apart⟩;exact h.ne (S.own b hb g hg).2 _ hx he.symm
def K7a(rs:List Nat):List (Nat×Obj):=rs.map fun r=>(r,.deferred (some []))
theorem p1c{rs:List Nat}{x:Nat×Obj}(h:x∈K7a rs):x.1∈rs:=by
 obtain⟨_,hr,rfl⟩:=List.mem_map.1 h;exact hr
def I6a(P:Program)(fn:Func)(R:Value→World→Prop)(D:List Deferred)(e:Env)(w:World):Prop :=
 ∃rs:List Nat,D=rs.map f8a∧rs.Nodup∧NC w (K7a rs)∧∀w',F0a rs w w'→w'.heap.size=w.heap.size→∀tmps:Array Value,W0a { tmps,defers:=[] }=e→∃v,(results fn tmps).run P w'=.ok v w'∧R v w'
theorem k9a{P:Program}{fn:Func}{tmps:Array Value}{R:Value→World→Prop}:∀(rs:List Nat) (w:World),rs.Nodup→NC w (K7a rs)→(∀w',F0a rs w w'→w'.heap.size=w.heap.size→∃v,(results fn tmps).run P w'=.ok v w'∧R v w') →
 LeavesInM Fence.wide 0 P fn tmps (fun en w'=>∃v,en=.returned v∧R v w') (rs.map f8a) .returning w
 | [],w,_,_,h=>by
   obtain⟨v,h1,h2⟩:=h w (F0a.refl _ _) rfl;exact⟨v,h1,v,rfl,h2⟩
 | r::rs,w,hn,hO,h=>by
   obtain⟨a0,b0⟩:=List.nodup_cons.1 hn;have hr:w.heap[r]?=some (.deferred (some [])):=(hO (r,.deferred (some [])) (by simp[K7a])).1;refine⟨by simp,.inl ⟨r,_,rfl,run_takeDeferred hr,k9a rs _ b0 (fun x hx=>⟨?_,(hO x (by simp[K7a] at hx ⊢;exact .inr hx)).2⟩) fun w' hb hs=>?_⟩⟩
   ·rw[World.putObj_heap_other (show x.1≠r from fun he=>a0 (by rw[←he];exact p1c hx))];exact(hO x (by simp[K7a] at hx ⊢;exact .inr hx)).1
   ·refine h w' ⟨hb.os,hb.tape,hb.output,by simpa using hb.size,fun k hk hm=>?_⟩ (by simpa using hs);simp only[List.mem_cons,not_or] at hm;rw[hb.block k (by simpa using hk) hm.2,World.putObj_heap_other hm.1]
theorem u7a{P:Program}{N:Nat}{w:World}{f:FuncId}{fn:Func}{c:Code}{args:Array Value}{R:Value→World→Prop}(hf:P.funcs[f]?=some fn)(hb:fn.body=some c)(hN:fn.ntmps=N)(a0:Nat.ble args.size N=true)
 (h:W P none N c ⟨I6a P fn R,fun _ _ _ _=>False,I6a P fn R⟩ [] (V9a args) w):M0a P f args w R:=by
 subst hN;unfold W at h;have b0:(args++Array.replicate (fn.ntmps-args.size) undef).size=fn.ntmps:=by
  have:=Nat.le_of_ble_eq_true a0;simp;omega
 have h1:=h { tmps:=args++Array.replicate (fn.ntmps-args.size) undef,defers:=[] } b0 rfl (g0b _ _);have key:∀(a:Act) (w:World),I6a P fn R a.defers (W0a a) w→LeavesInM Fence.wide 0 P fn a.tmps (fun en w'=>∃v,en=.returned v∧R v w') a.defers .returning w:=by
  intro a w hq;obtain⟨rs,hD,hn,hO,hq⟩:=hq;rw[hD];exact k9a rs w hn hO fun w' hb hs=>hq w' hb hs a.tmps rfl
 refine callsIn_wide (n:=0).1 (callsIn_of_wp_marks hf hb trivial (wpIn_mono h1 fun ex a w hq=>?_));cases ex with
 | normal=>exact key a w hq.2
 | ret=>exact key a w hq.2
 | exit id=>exact hq.2
 | goto l=>exact hq
 | panic c=>exact hq.elim
 | outgrown=>exact hq.elim
section
variable {P:Program} {fn:Func} {R:Value→World→Prop} {D:List Deferred} {e:Env} {w:World}
theorem x4c{t:Nat}(h:fn.results=#[.tmp t]){v:Value}(hv:e t=v)(rs:List Nat)(hD:D=rs.map f8a)(hn:rs.Nodup)(hO:NC w (K7a rs))(hR:∀w',F0a rs w w'→R v w'):I6a P fn R D e w :=
 ⟨rs,hD,hn,hO,fun w' hb _ tmps he=>by subst he;subst hv;exact⟨_,by simp[results,h];rfl,by simpa[W0a] using hR w' hb⟩⟩
theorem i2a{a1 t1 n a2 t2 g1 g2:Nat}{cs:List Value}{v2:Value}(h:fn.results=#[.cell a1 t1,.cell a2 t2])(hM:F7a P t1 n)(a0:One P t2)(e1:e a1=.pointer (some ⟨g1,0,none⟩))(e2:e a2=.pointer (some ⟨g2,0,none⟩))(g0:cs.length=n)
 (rs:List Nat) (hD:D=rs.map f8a) (hn:rs.Nodup) (hO:NC w (K7a rs)) (b0:t1a w g1 0 cs) (d0:w.cell? ⟨g2,0,none⟩=some v2) (e0:g1∉rs) (f0:g2∉rs) (hR:∀w',F0a rs w w'→R (.tuple #[.agg cs.toArray,v2]) w'):I6a P fn R D e w :=
 ⟨rs,hD,hn,hO,fun w' hb _ tmps he=>by
  have hk:y0a rs w w':=⟨hb.size,hb.block⟩;have c1:=b0.keep hk e0;have c2:=hk.cell (a:=⟨g2,0,none⟩) f0 d0;subst he;subst g0;simp only[W0a,Array.getD_eq_getD_getElem?] at e1 e2;have h1:=run_loadCells_list (P:=P) w' ⟨g1,0,none⟩ cs (fun j v hj=>by rw[Addr.add_lit];exact c1 j v hj);have h2:(loadVar t2 ⟨g2,0,none⟩).run P w'=.ok v2 w':=by rw[a0 w'];simp[load,Sem.run,c2]
  exact⟨_,by simp[results,h,asAddr,e1,e2,hM w',h1,h2],hR w' hb⟩⟩
end
theorem y0a.of_belowM{M:List Nat}{w w':World}(h:F0a M w w'):y0a M w w':=⟨h.size,h.block⟩
theorem p7a{w wi:World}{rs:List (Nat×Obj)}{rc:Loop}(hO:NC w rs)(a0:wi.heap[w.heap.size]?=some (.deferred (some [])))(hl:wi.heap[w.heap.size+1]?=some (.loop rc))(hB:Below w.heap.size w wi):NC wi ((w.heap.size+1,.loop rc)::(w.heap.size,.deferred (some []))::rs) :=
 ((hO.keep (y0a.of_below hB)).cons a0 (by simp)).cons hl (by simp)
theorem T3a{m:Int}{b:List E0a}{i:Nat}{en:E0a}(h:b[i]?=some en):s3a m b i=(decide (i=0)||(decide (m=2)&&!((b.take i).any fun o=>W8a o en))):=by
 unfold s3a
 congr 2
 rw[Bool.eq_iff_iff];rw[List.all_eq_true,Bool.not_eq_true',List.any_eq_false];have a0:=u1a h;constructor
 ·intro h1 o ho;obtain⟨j,hj,rfl⟩:=List.getElem_of_mem ho;rw[List.length_take] at hj;have:=h1 j (List.mem_range.2 (by omega));rw[h,List.getElem?_eq_getElem (by omega)] at this;rw[List.getElem_take];simpa using this
 ·intro h1 j hj;have hj:=List.mem_range.1 hj;rw[h,List.getElem?_eq_getElem (show j<b.length by omega)];have:=h1 b[j] (by rw[List.mem_take_iff_getElem];exact⟨j,by omega,rfl⟩);simpa using this
theorem z9b(cs:List Value)(h8:cs.length=8)(t:Int)(w0:World):
 M0a Tryz.prog 144 #[.agg cs.toArray,.int .i64 t] w0 fun v w'=>(∃gs gt,v=.func (.func 184) #[] #[.pointer (some ⟨gs,0,none⟩),.pointer (some ⟨gt,0,none⟩)]∧w0.heap.size≤gs∧w0.heap.size≤gt∧p0a w' (gs,206,cs)∧p0a w' (gt,3,[.int .i64 t]))∧Below w0.heap.size w0 w':=by
 have S:=St.refl w0
 match cs,h8 with
 | [c0,c1,c2,c3,c4,c5,c6,c7],_ =>
 refine a0a Tryz.func144 rfl Tryz.ntmps144 rfl ?_;refine wO0 rfl ⟨⟩ (h0a S (by conv=>lhs;whnf) rfl ?_);intro g2 w2 S2 X2 G2;refine Z6a S2 (v:=.int .i64 _) rfl rfl rfl ?_;intro g3 w3 S3 X3 G3;refine lO0 rfl ⟨⟩ (N1a rfl rfl ?_);refine lR0 rfl ⟨⟩ (o0a rfl (by conv=>lhs;whnf) ?_);exact⟨⟨g2,g3,rfl,by simpa using S3.new 1 rfl,by simpa using S3.new 0 rfl,S3.blk 1 rfl,S3.blk 0 rfl⟩,S3.fin⟩
theorem F6b(c:q0a)(m:Int)(t:Nat)(b:List E0a)(S0:c.buf[t]?=some b)(gs gt l:Nat)(Mf:List Nat)(w0:World)(xs ps:List Value)(d1:ps.length=4)(J:Nat→World→Prop)(Q:World→Prop)
 (hX:t0a Mf w0 c xs) (b1:gs∉Mf) (Q0:p0a w0 (gs,206,xs++(ps++[.int .i64 m]))) (a1:p0a w0 (gt,3,[.int .i64 t]))
 (Y0:J 0 w0) (Z0:∀i w,J i w→y0a Mf w0 w) (s0:∀i w w',J i w→Below w.heap.size w w'→J i w') (P0:∀i w,J i w→i<b.length→s3a m b i=false→J (i+1) w)
 (hY:∀(i:Nat) (en:E0a) (w:World) (es:List Value),b[i]?=some en→s3a m b i=true→J i w→(∀(M':List Nat) (w':World),(∀g∈M',g∈Mf∨w0.heap.size≤g)→y0a M' w0 w'→I0a M' w' es en)→Yld Tryz.prog l #[.int .i64 i,.agg es.toArray] w fun v w'=>(v=.bool true∧J (i+1) w')∨(v=.bool false∧Q w')) :
 M0a Tryz.prog 184 #[.func (.yield l) #[] #[],.pointer (some ⟨gs,0,none⟩),.pointer (some ⟨gt,0,none⟩)] w0 fun _ w'=>J b.length w'∨Q w':=by
 obtain⟨_,_,_,_,_,_,Xb,xb,yb,rfl,_,_,y0,_,_,_,_,_,_⟩:=hX.open_
 match ps,d1 with
 | [c3,c4,c5,c6],_ =>
 have S:=St.refl w0;have A0:w0.cell? ⟨gs,2,none⟩=some (.slice Xb xb yb):=Q0.cell rfl;have B0:w0.cell? ⟨gt,0,none⟩=some (.int .i64 t):=a1.cell rfl;have ht:=u1a S0;refine a0a Tryz.func184 rfl Tryz.ntmps184 rfl ?_;refine wO0 rfl ⟨⟩ (s0a K3a rfl (by exact S.old A0) rfl ?_);refine s0a K0a rfl (by exact S.old B0) rfl ?_;obtain⟨_,V0,f1,_,H0,v0,_,_,C0,F0⟩:=RdS.get (y0) (t) (by omega);obtain rfl:=Option.some.inj (S0.symm.trans H0);obtain⟨q0,d0,h0,rfl,f0,_,_⟩:=F3a.open_ F0;refine lC (S.k.a C0) [.x V0 f1,.f 0 0] rfl ⟨rfl,⟨v0,by omega⟩,⟨⟩⟩ (wL (fun μ D ε w=>D=[]∧∃k:Nat,(k+μ=b.length)∧(J k w)∧ε 0=.func (.yield l) #[] #[]∧ε 1=.pointer (some ⟨gs,0,none⟩)∧ε 4=.slice q0 d0 h0∧ε 13=.slice q0 d0 h0∧ε 14=.int .i64 d0∧ε 15=.int .i64 k) (μ:=b.length) ⟨rfl,0,by omega,Y0,rfl,rfl,rfl,rfl,rfl,rfl⟩ ?_);rintro μ D ε w ⟨rfl,k,hk,hJ,e0,e1,e4,K0,L0,N0⟩;refine r0a 0 e0 (r0a 1 e1 (r0a 4 e4 (r0a 13 K0 (r0a 14 L0 (r0a 15 N0 ?_)))));clear e0 e1 e4 K0 L0 N0;have r0:=Z0 _ _ hJ;have x0:=RdS.keepW f0 r0 (I0a.keep r0);have j0:=(RdS.mono f0 (R':=fun cs x=>∀(M':List Nat) (w':World),(∀g∈M',g∈Mf∨w0.heap.size≤g)→y0a M' w0 w'→I0a M' w' cs x) (fun cs x h M' w' hm hk=>I0a.keep hk _ _ (I0a.more hm _ _ h))).keep r0;have z0:w.cell? ⟨gs,7,none⟩=some (.int .i64 m):=r0.cell (a:=⟨gs,7,none⟩) b1 (Q0.cell rfl);replace S:=St.refl w;refine wB0 rfl ⟨⟩ (fun W0=>?_) fun W0=>?_
 ·obtain⟨en,J0,T0,_,a0,i0,_,E0,D0,p0⟩:=RdS.get (j0) (k) (by omega);have R0:=p0 Mf _ (fun g hg=>.inl hg) r0;obtain⟨_,_,_,_,_,_,rfl,-⟩:=I0a.open_ R0;refine lO (S.k.a D0) [.x J0 T0,.v 0] rfl ⟨⟨rfl,E0⟩,⟨i0,by omega⟩,⟨⟩⟩ (m0a S W7a rfl rfl ?_);intro g6 w6 S6 X6 G6;refine lO0 rfl ⟨⟩ ?_
  first|refine e0a (kk:=0) (vs:=[_,_]) S6 y9a rfl rfl rfl rfl rfl rfl rfl ?_
  intro i1 g0 U0;dsimp only[k0a,List.set] at g0;refine lC0 rfl ⟨⟩ (v0a b0a [0,1,2,3,4,5,6,7,8,9,10,11,12,13] [] [] (by kernel_rfl) rfl (Cl _ _ _ _) (Cl.start g0) ?_);refine qB0 rfl ⟨⟩ (fun X0=>?_) fun X0=>?_
  ·refine qO0 rfl ⟨⟩ (j0a K0a rfl (fun w1 hw=>by exact hw.1.old z0) rfl ?_);refine qB0 rfl ⟨⟩ (fun O0=>?_) fun O0=>?_
   ·refine qD rfl ⟨⟩ ?_;rintro I0 ⟨b0,t0⟩;refine lP0 rfl ⟨by omega,⟨⟩⟩ ?_;exact⟨μ-1,by omega,rfl,k+1,by omega,s0 _ _ _ (P0 _ _ hJ (by omega) (by rw[T3a a0,decide_eq_false (show ¬k=0 by omega),decide_eq_false (show ¬m=2 from O0)];rfl)) b0.fin,rfl,rfl,rfl,rfl,rfl,rfl⟩
   refine qO0 rfl ⟨⟩ ?_;refine q6b (lo:=0) (hi:=k) (kd:=.i64) h3a.slT (show _=Value.slice (some ⟨J0,T0,none⟩) d0 h0 by rw[←i0];rfl) (.inl ⟨rfl,rfl⟩) (.inr rfl) (by omega) (by have:=j0.len;omega) j0.len.2.1 rfl ?_;simp only[Nat.zero_mul,Nat.add_zero,Nat.sub_zero,ite_self];refine qO g0.q [.w 0] rfl ⟨⟨rfl,by rfl⟩,⟨⟩⟩ (Y1a E6c rfl rfl (fun w1 S1 X1=>r8b (b.take k) en Mf _ _ _ (RdS.take (RdS.keepW (i0▸x0) (S1.keep0 Mf) (I0a.keep (S1.keep0 Mf))) k (by omega)) (I0a.keep (S1.keep0 Mf) _ _ R0)) (fun u0=>?_) fun u0=>?_)
   ·refine qD rfl ⟨⟩ ?_;rintro I0 ⟨b0,t0⟩;refine lP0 rfl ⟨by omega,⟨⟩⟩ ?_;exact⟨μ-1,by omega,rfl,k+1,by omega,s0 _ _ _ (P0 _ _ hJ (by omega) (by rw[T3a a0,decide_eq_false (show ¬k=0 by omega),u0];simp)) b0.fin,rfl,rfl,rfl,rfl,rfl,rfl⟩
   refine qD rfl ⟨⟩ ?_;rintro I0 ⟨b0,t0⟩;refine lO b0.k [.w 0] rfl ⟨⟨rfl,by rfl⟩,⟨⟩⟩ ?_;have G0:s3a m b k=true:=by
    rw[T3a a0];rw[decide_eq_true (show m=2 by omega),u0];simp
   refine x5b rfl rfl rfl (hY k en _ _ a0 G0 (s0 _ _ _ hJ b0.fin) p0) ?_;rintro g1 h1 (⟨rfl,n0⟩|⟨rfl,o0⟩)
   ·exact lP0 rfl ⟨by omega,⟨⟩⟩ ⟨μ-1,by omega,rfl,k+1,by omega,n0,rfl,rfl,rfl,rfl,rfl,rfl⟩
   refine lR0 rfl ⟨⟩ (T1a rfl ?_);exact .inr o0
  refine qD rfl ⟨⟩ ?_;rintro I0 ⟨b0,t0⟩;refine lO b0.k [.w 0] rfl ⟨⟨rfl,by rfl⟩,⟨⟩⟩ ?_;have G0:s3a m b k=true:=by
   rw[T3a a0];rw[decide_eq_true (show k=0 by omega)];rfl
  refine x5b rfl rfl rfl (hY k en _ _ a0 G0 (s0 _ _ _ hJ b0.fin) p0) ?_;rintro g1 h1 (⟨rfl,n0⟩|⟨rfl,o0⟩)
  ·exact lP0 rfl ⟨by omega,⟨⟩⟩ ⟨μ-1,by omega,rfl,k+1,by omega,n0,rfl,rfl,rfl,rfl,rfl,rfl⟩
  refine lR0 rfl ⟨⟩ (T1a rfl ?_);exact .inr o0
 refine lF0 rfl ⟨⟩ (T1a rfl ?_);obtain rfl:k=b.length:=by omega
 exact .inl hJ
theorem Z1b{rc:Loop}(b0:rc.state=.ready)(a0:rc.pending=none):({ ({ rc with state:=.busy }:Loop) with state:=if(none:Option Code).isNone then .ready else .done,pending:=none }:Loop)=rc:=by
 cases rc;simp at b0 a0 ⊢;exact⟨b0.symm,a0.symm⟩
theorem g0c{M:List Nat}{w0 w:World}{L:List Ent}(S:St M w0 w L)(k:Nat){G:Option Nat}{t:TypeId}{cs:List Value}(hk:L[k]?=some (G,t,cs)):∀g∈G.toList,∃t cs,p0a w (g,t,cs):=fun g hg=>by
 have:G=some g:=by cases G<;>simp at hg ⊢;exact hg.symm
 subst this;exact⟨_,_,S.blk k hk⟩
theorem n5b{w0 w:World}{L:List Ent}(S:St [] w0 w L)(k:Nat){G:Option Nat}{t:TypeId}{cs:List Value}(hk:L[k]?=some (G,t,cs)):∀g∈G.toList,w0.heap.size≤g:=fun g hg=>by
 have:G=some g:=by cases G<;>simp at hg ⊢;exact hg.symm
 subst this;simpa using S.new k hk
theorem x9a(p:f0a)(c:q0a)(m:Int)(hm:(m=0∧t3a c)∨m=1∨m=2)(M:List Nat)(w0:World)(cs xs:List Value)(hI:InP p M w0 cs)(hX:t0a M w0 c xs)(hf:c3a p c):
 M0a Tryz.prog 114 #[.agg cs.toArray,.int .i64 m,.agg xs.toArray] w0 fun v w'=>Q8b M w' v (G0a p m c)∧Below w0.heap.size w0 w':=by
 obtain⟨Ac,nc,cc,Am,nm,cm,Al,nl,cl,At,nt,ct,rfl,_,_,_,i2,_,_,_,_,_,_,_,_⟩:=hI.rd.open_;obtain⟨Xm,xm,ym,Xa,xa,ya,Xb,xb,yb,rfl,_,_,_,_,_,_,_,_,_⟩:=hX.open_;have S:=St.refl w0;have hM:=hI.lt;have hp:=hI.ok;have f2:=hf.nat;have f3:=hf.nbuf;have n2:=hp.nthreads;refine u7a Tryz.func114 rfl Tryz.ntmps114 rfl (wI ?_);refine wO0 rfl ⟨⟩ (h0a S (by conv=>lhs;whnf) rfl ?_);intro g3 w3 S3 X3 G3;refine h0a S3 (by conv=>lhs;whnf) rfl ?_;intro g5 w5 S5 X5 G5;refine lB0 rfl ⟨⟩ (fun X1=>?_) fun X1=>?_
 ·have t2:m=0∧t3a c:=by rcases hm with h|h|h;exact h;omega;omega
  obtain⟨rfl,he⟩:=t2;refine lO S5.k [.w 1,.w 0] rfl ⟨⟨rfl,by rfl⟩,⟨rfl,by rfl⟩,⟨⟩⟩ (x0a S5 R6c rfl rfl (T8a p c M _ _ _ (hI.keep (S5.keep0 M)) (hX.keep (S5.keep0 M)) hf he) ?_);rintro Z2 j3 hr O1 N2;refine P0a (by conv=>lhs;whnf) rfl ?_;exact lR0 rfl ⟨⟩ (x4c rfl (by conv=>lhs;whnf) [] rfl List.nodup_nil NC.nil (fun w' hb=>⟨hr.keep (y0a.of_below hb.nil),(O1.below.trans hb).nil⟩))
 have G1:m=1∨m=2:=by rcases hm with h|h|h;exact absurd h.1 (by assumption);exact .inl h;exact .inr h
 refine lO S5.k [.w 1,.w 0] rfl ⟨⟨rfl,by rfl⟩,⟨rfl,by rfl⟩,⟨⟩⟩ (g0a S5 n9b rfl rfl (n0c p c m G1 M _ _ _ (hI.keep (S5.keep0 M)) (hX.keep (S5.keep0 M)) hf) ?_);intro m3 P1 O2;refine lO0 rfl ⟨⟩ (m0a P1 t1c rfl rfl ?_);intro g7 w7 S7 X7 G7;refine e0a (kk:=0) (vs:=[_,_,_,_,_,_,_,_]) S7 G6b rfl rfl rfl rfl rfl rfl rfl ?_;intro E2 I0 T1;dsimp only[k0a,List.set] at I0;refine lO0 rfl ⟨⟩ (m0a I0 t1d rfl rfl ?_);intro g9 w9 S9 X9 G9;refine lC S9.k [.o 1] rfl ⟨rfl,⟨⟩⟩ (wL (fun μk D ε w=>∃k:Nat,∃rs:List Nat,∃G:Option Nat,∃R0:List Value,∃v:Value,D=rs.map f8a∧(k+μk=(p.threads.length))∧(rs.Nodup∧∀r∈rs,w0.heap.size≤r)∧(NC w (K7a rs))∧(B1a (fun _ _=>M1a) 3 [] w0 G R0 v (Z1a p m c k))∧St [] w0 w ([(some g9,41,[v]),(some g7,206,[.slice Xm xm ym,.slice Xa xa ya,.slice Xb xb yb,.slice Ac nc cc,.slice Am nm cm,.slice Al nl cl,.slice At nt ct,.int .i64 m]),(some g5,38,[.slice Xm xm ym,.slice Xa xa ya,.slice Xb xb yb]),(some g3,27,[.slice Ac nc cc,.slice Am nm cm,.slice Al nl cl,.slice At nt ct])]++[(G,44,R0)])∧Sl ε [(3,.pointer (some ⟨g3,0,none⟩)),(5,.pointer (some ⟨g5,0,none⟩)),(7,.pointer (some ⟨g7,0,none⟩)),(9,.pointer (some ⟨g9,0,none⟩)),(32,.int .i64 xa),(33,.int .i64 k)]) (μ:=(p.threads.length)) ⟨0,[],none,[],.slice none 0 0,rfl,by omega,⟨List.nodup_nil,by simp⟩,NC.nil,B1a.nil,(S9.nils (R:=[(none,44,[])]) (by simp)),rfl⟩ ?_);rintro μk D ε w ⟨k,rs,G,R0,v,rfl,_,S0,hO,C0,S,eZ⟩;refine wK eZ (wB0 rfl ⟨⟩ (fun Y1=>?_) fun Y1=>?_)
 ·refine lO0 rfl ⟨⟩ (m0a S p0d rfl rfl ?_);intro d1 h3 v1 Q1 I2;replace hO:=hO.keep Q1;refine B0a (kk:=0) v1 u9a rfl (by conv=>lhs;whnf) rfl rfl (by exact Nat.le_of_ble_eq_true rfl) ?_;intro P0 b0 Z0;replace hO:=by exact hO.keepS Z0 (v1.blk 0 rfl)
  refine lCn 3 b0.k [] rfl ⟨⟩ ?_;obtain⟨b,z0⟩:∃b,c.buf[k]?=some b:=⟨c.buf[k]'(by omega),List.getElem?_eq_getElem _⟩;have d2:∀g∈g9::(G.toList++M),g<P0.heap.size:=fun g hg=>by
   rcases List.mem_cons.1 hg with rfl|hg
   ·exact b0.lt 1 rfl
   ·rcases List.mem_append.1 hg with hg|hg
    ·exact a7a b0 (k:=5) rfl g hg
    ·have:=hM g hg;have:=b0.size;omega
  have m2:t0a (g9::(G.toList++M)) P0 c _:=(hX.more (fun g hg=>by
   rcases List.mem_cons.1 hg with rfl|hg
   ·exact .inr (by simpa using b0.new 1 rfl)
   ·rcases List.mem_append.1 hg with hg|hg
    ·exact .inr (n5b b0 5 rfl g hg)
    ·exact .inl hg)).keep (b0.keep0 _)
  refine wO0 rfl ⟨⟩ (w1a a1a rfl (b0.cells 3 rfl) rfl rfl ?_);refine lO b0.k [.o 0] rfl ⟨rfl,⟨⟩⟩ (x0a b0 n1c rfl rfl (E0c p hp c k b (g9::(G.toList++M)) _ d2 _ m2 hf z0) ?_);rintro a3 u1 hV T0 R1;replace hO:=hO.keep R1;obtain⟨Av,nv,cv,rfl⟩:=hV.form;have KV:=y0a.refl (g9::G.toList) u1;refine lO0 rfl ⟨⟩ (s0a C6b rfl (by exact T0.cell 4 rfl rfl) rfl ?_);obtain⟨th,V1,C2,_,o0,g1,_,_,j1,o1⟩:=RdS.get (i2) (k) (by omega);obtain⟨_,_,_,_,_,_,_,t1,_,_,_,_,rfl,_,_,_,_,_,_,_,_,_,_,_,_,_⟩:=N0a.open_ o1;have V2:=(hp.thread o0).nsteps;refine lC (T0.k.a j1) [.o 0,.x V1 C2,.f 0 4] rfl ⟨rfl,⟨g1,by omega⟩,rfl,⟨⟩⟩ (wL (fun μj D ε w=>D=rs.map f8a∧∃j:Nat,∃G2:Option Nat,∃cs2:List Value,∃v2:Value,(j+μj=(th.steps.length))∧(NC w (K7a rs))∧(y0a (g9::G.toList) u1 w)∧(∀g∈G2.toList,u1.heap.size≤g∨g∈g9::G.toList)∧(B1a (fun _ _=>M1a) 3 [] w0 G2 cs2 v2 (Z1a p m c k++k2a p m c k j))∧St [] w0 w ([(some d1,3,[.int .i64 k]),(some g9,41,[v2]),(some g7,206,[.slice Xm xm ym,.slice Xa xa ya,.slice Xb xb yb,.slice Ac nc cc,.slice Am nm cm,.slice Al nl cl,.slice At nt ct,.int .i64 m]),(some g5,38,[.slice Xm xm ym,.slice Xa xa ya,.slice Xb xb yb]),(some g3,27,[.slice Ac nc cc,.slice Am nm cm,.slice Al nl cl,.slice At nt ct])]++[(G2,44,cs2)])∧Sl ε [(3,.pointer (some ⟨g3,0,none⟩)),(5,.pointer (some ⟨g5,0,none⟩)),(7,.pointer (some ⟨g7,0,none⟩)),(9,.pointer (some ⟨g9,0,none⟩)),(10,.pointer (some ⟨d1,0,none⟩)),(11,.slice Av nv cv),(32,.int .i64 xa),(33,.int .i64 k),(45,.int .i64 t1),(46,.int .i64 j)]) (μ:=(th.steps.length)) ⟨rfl,0,G,R0,v,by omega,hO,KV,fun g hg=>.inr (List.mem_cons_of_mem _ hg),by simpa[k2a] using C0,T0,rfl⟩ ?_);rintro μj D ε w ⟨rfl,j,G2,cs2,v2,_,hO,KV,i1,h0,S,eZ⟩;refine wK eZ (wB0 rfl ⟨⟩ (fun Z1=>?_) fun Z1=>?_)
  ·refine lO0 rfl ⟨⟩ (w1a Q6a rfl (S.cells 2 rfl) rfl rfl ?_);refine s0a K0a rfl (by exact S.cell 0 rfl rfl) rfl ?_;refine lO0 rfl ⟨⟩ ?_;obtain⟨s,r1⟩:∃s,th.steps[j]?=some s:=⟨th.steps[j]'(by omega),List.getElem?_eq_getElem _⟩;refine C0a S s9b rfl rfl (P7a p c m G1 k j th s M _ [.slice Ac nc cc,.slice Am nm cm,.slice Al nl cl,.slice At nt ct] [.slice Xm xm ym,.slice Xa xa ya,.slice Xb xb yb] _ (hI.keep (S.keep0 M)) (hX.keep (S.keep0 M)) ((hV.keep (KV.mono (fun g hg=>by rcases List.mem_cons.1 hg with rfl|hg;simp;exact List.mem_cons_of_mem _ (List.mem_append_left _ hg)))).less (fun g hg=>List.mem_cons_of_mem _ (List.mem_append_right _ hg))) hf o0 r1) (fun f1 F2 J0 K0=>?_) (fun f1 F2 J0 K0=>?_)
   ·replace KV:=KV.trans (K0.of_nil);replace hO:=hO.keep K0;refine lO0 rfl ⟨⟩ (s0a i7b rfl (by exact J0.cell 1 rfl rfl) rfl ?_);refine s0a K0a rfl (by exact J0.cell 0 rfl rfl) rfl ?_;refine lO0 rfl ⟨⟩ (f1a f4b (vs:=[(0,.int .i64 _),(1,.int .i64 _)]) (cs:=[_,_,_]) rfl rfl rfl rfl ?_);refine u0a J0 W2a (vs:=[.agg _]) (cs:=[_,_,_]) (by rfl) rfl rfl rfl rfl rfl rfl ?_;intro S2 n3 U0 A1 J2;replace KV:=KV.trans (A1.of_nil);replace hO:=hO.keep A1;have l1:=X1a hp hf m k (by omega);have l2:=O3a p m c k j;refine Y0a K1a (k:=6) (M2:=[]) (e1:=⟨k,j,0⟩) U0 W2a (by decide) rfl h0 rfl rfl (U0.cells 0 rfl) (M1a.of (by unfold i64;omega) (by unfold i64;omega) (by unfold i64;omega)) (by rw[List.length_append];omega) rfl ?_;intro b3 K2 W1 o3 y1 n0 B1 J1;have P2:=KV.size;obtain⟨_,_,rfl⟩:=n0.form;replace hO:=hO.keepL B1 (g0c U0 6 rfl);replace KV:=KV.freshL B1 i1
    first|refine B0a (kk:=2) y1 c0d rfl (by conv=>lhs;whnf) rfl rfl (by exact Nat.le_of_ble_eq_true rfl) ?_
    intro I1 G0 s0;replace KV:=KV.fresh2 s0 (by exact .inr (by simp));replace hO:=by exact hO.keepS s0 (y1.blk 2 rfl)
    refine lP0 rfl ⟨by omega,⟨⟩⟩ ⟨μj-1,by omega,rfl,(j+1),(_),(_),(_),(by omega),(hO),(KV),?_,?_,G0.tail,rfl⟩
    ·intro g hg;rcases J1 g hg with h|h
     ·exact i1 g h
     ·left;omega
    ·rw[i7a o0 r1 f1,←List.append_assoc];exact n0
   replace KV:=KV.trans (K0.of_nil);replace hO:=hO.keep K0;refine lP0 rfl ⟨by omega,⟨⟩⟩ ⟨μj-1,by omega,rfl,(j+1),(_),(_),(_),(by omega),(hO),(KV),?_,?_,J0,rfl⟩
   ·exact i1
   ·rw[I8a o0 r1 f1];exact h0
  refine lO0 rfl ⟨⟩ (w1a Q6a rfl (S.cells 2 rfl) rfl rfl ?_);refine s0a K0a rfl (by exact S.cell 0 rfl rfl) rfl ?_;refine x0a S R9b rfl rfl (z9b _ rfl (k:Int) _) ?_;rintro d3 j0 ⟨gs,gt,rfl,_,_,E1,p2⟩ E0 U1;replace hO:=hO.keep U1;refine lC0 rfl ⟨⟩ (wJ ?_);refine z7a (vs:=fun y=>#[y,_,_]) E1c rfl (fun _=>rfl) (fun rc wi q1 H1 y2 m1 u2 has o2 r2 hl hB W2=>?_);obtain⟨l,s2⟩:∃l,l=j0.heap.size+1:=⟨_,rfl⟩;have C1:=p7a hO r2 hl hB;rw[←s2] at hl C1 ⊢;have Si:=E0.later hB;have Ki:y0a [] j0 wi:=y0a.of_below hB;have Zw:=E0.size;have Y2:gs<j0.heap.size:=E1.lt;have X2:g9<j0.heap.size:=E0.lt 1 rfl;have B2:w0.heap.size≤g9:=by simpa using E0.new 1 rfl
  have b2:∀g∈(l::g9::(G2.toList++M)),g∈M∨w0.heap.size≤g:=fun g hg=>by
   simp only[List.mem_cons,List.mem_append] at hg;rcases hg with rfl|rfl|hg|hg
   ·right;omega
   ·right;exact B2
   ·right;exact n5b E0 5 rfl g hg
   ·exact .inl hg
  have j2:t0a (l::g9::(G2.toList++M)) wi c _:=(hX.more b2).keep (Si.keep0 _);have A2:=S.lt 1 rfl;have n1:gs∉(l::g9::(G2.toList++M)):=fun hh=>by
   simp only[List.mem_cons,List.mem_append] at hh;rcases hh with h|h|h|h
   ·omega
   ·omega
   ·have:=a7a S (k:=5) rfl gs h;omega
   ·have:=hM gs h;have:=S.size;omega
  have B0:∀x∈(j0.heap.size,Obj.deferred (some []))::K7a rs,x.1≠l:=fun x hx=>by
   rcases List.mem_cons.1 hx with rfl|hx
   ·show j0.heap.size≠l;omega
   ·have:=hO.lt x hx;omega
  refine M0a.mono (F6b c m k b z0 gs gt l (l::g9::(G2.toList++M)) wi _ [.slice Ac nc cc,.slice Am nm cm,.slice Al nl cl,.slice At nt ct] rfl (fun i w=>∃(G3:Option Nat) (p0:List Value) (v3:Value),NC w ((l,.loop rc)::(j0.heap.size,.deferred (some []))::K7a rs)∧St [] w0 w ([(some d1,3,[.int .i64 k]),(some g9,41,[v3]),(some g7,206,[.slice Xm xm ym,.slice Xa xa ya,.slice Xb xb yb,.slice Ac nc cc,.slice Am nm cm,.slice Al nl cl,.slice At nt ct,.int .i64 m]),(some g5,38,[.slice Xm xm ym,.slice Xa xa ya,.slice Xb xb yb]),(some g3,27,[.slice Ac nc cc,.slice Am nm cm,.slice Al nl cl,.slice At nt ct])]++[(G3,44,p0)])∧B1a (fun _ _=>M1a) 3 [] w0 G3 p0 v3 (Z1a p m c k++(k2a p m c k th.steps.length++Y2a m c k i))∧(∀g∈G3.toList,wi.heap.size≤g∨g∈(l::g9::(G2.toList++M)))∧y0a (l::g9::(G2.toList++M)) wi w) (fun _=>False) j2 n1 (S3a Ki E1) (S3a Ki p2) ⟨G2,cs2,v2,C1,Si,by rw[show j=th.steps.length by omega] at h0;simpa[Y2a] using h0,fun g hg=>.inr (List.mem_cons_of_mem _ (List.mem_cons_of_mem _ (List.mem_append_left _ hg))),y0a.refl _ _⟩ (fun i w hJ=>by obtain⟨_,_,_,_,_,_,_,h⟩:=hJ;exact h) ?_ ?_ (fun i en w es D0 w2 hJ hE=>?_)) ?_
  ·rintro i w w' ⟨G3,p0,v3,f0,S3,a0,y0,K3⟩ h1;exact⟨G3,p0,v3,f0.keep (y0a.of_below h1),S3.later h1,a0,y0,K3.trans (y0a.of_below h1)⟩
  ·rintro i w ⟨G3,p0,v3,f0,S3,a0,y0,K3⟩ hi hr;exact⟨G3,p0,v3,f0,S3,by rw[f1b (by rw[getD_some z0];exact hr)];exact a0,y0,K3⟩
  ·obtain⟨G3,p0,v3,f0,S3,a0,y0,K3⟩:=hJ;obtain⟨_,_,_,_,_,_,rfl,-⟩:=I0a.open_ (hE _ _ (fun g hg=>.inl hg) K3);have qE:=(hf.bufs k b z0).2.1 en (c0a D0);have D2:0<en.cells.length:=by
    rcases Nat.eq_zero_or_pos en.cells.length with h|h
    ·exact absurd (List.length_eq_zero_iff.1 h) qE.some_
    ·exact h
   have li:=u1a D0;have l4:=(hf.bufs k b z0).1;refine a0c (f0 (l,.loop rc) (by simp)).1 q1 y2 m1 u2 has o2 rfl rfl ?_;refine wI ?_;refine wO0 rfl ⟨⟩ (m0a S3 W7a rfl rfl ?_);intro R2 i3 x1 z1 M1;have F0:=Nat.le_trans K3.size M1;replace K3:=K3.trans (z1.of_nil);replace f0:=f0.keep z1;refine e0a (kk:=0) (vs:=[_,_]) x1 y9a rfl rfl rfl rfl rfl rfl rfl ?_;intro A0 r0 t0;dsimp only[k0a,List.set] at r0;replace K3:=K3.fresh2 t0 (by exact .inl F0);replace f0:=by exact f0.keepS t0 (x1.blk 0 rfl)
   refine lF0 rfl ⟨⟩ ?_;refine⟨(f0 (l,.loop rc) (by simp)).1,?_⟩;have Sb:=r0.putObj (.loop { rc with state:=.busy }) f0 (List.mem_cons_self) (.inl (by omega));have i0:=f0.put (o':=.loop { rc with state:=.busy }) B0 (by simp);have Kb:=K3.fresh2 (V1a A0 l (.loop { rc with state:=.busy })) (.inr (by simp));generalize A0.putObj l (.loop { rc with state:=.busy })=wb at Sb i0 Kb ⊢;have a2:∀g∈G3.toList++(l::g9::(G2.toList++M)),g∈(l::g9::(G2.toList++M))∨wi.heap.size≤g:=fun g hg=>by
    rcases List.mem_append.1 hg with h|h
    ·exact(y0 g h).symm
    ·exact .inl h
   obtain⟨_,_,_,_,_,_,F1,L0,-⟩:=I0a.open_ (hE (G3.toList++(l::g9::(G2.toList++M))) wb a2 (Kb.mono (fun g hg=>List.mem_append_right _ hg)));simp only[List.cons.injEq,Value.slice.injEq,and_true] at F1;obtain⟨⟨rfl,rfl,rfl⟩,rfl,rfl,rfl⟩:=F1;have U2:=L0.len.1;refine wI ?_;obtain⟨x0,bx,_,_,s1,_,g2,_,q2,x2⟩:=RdS.get L0 0 D2;obtain⟨rfl,z2⟩:=x2;refine wC0 rfl ⟨⟩ (g9a b0a (fun i=>[0,1,2,3,4,5,6].contains i) [0,1,2,3,4,5,6,7,8] 9 (by kernel_rfl) (by kernel_rfl) (clF (A:=[_,_,_,_,_,_]) (R:=[(G3,44,p0)]) Sb G3.toList) _ rfl ?_);have d0:=Sb.drew;have q0:y0a [] wb wb.drew:=s2a _ _;generalize wb.drew=H2 at d0 q0 ⊢;have e0:y0a (G3.toList) _ _:=q0.of_nil;replace i0:=i0.keep q0;replace Kb:=Kb.trans q0.of_nil;refine z1a ⟨(St.front (A:=[_,_,_,_,_,_]) d0),e0⟩ rfl rfl rfl ?_;refine j0a i7b rfl (fun w1 hw=>by exact hw.1.cell 2 rfl rfl) rfl ?_;refine d0a ?_;refine z1a ⟨(St.front (A:=[_,_,_,_,_,_]) d0),e0⟩ rfl rfl rfl ?_;refine j0a K0a rfl (fun w1 hw=>by exact hw.1.cell 1 rfl rfl) rfl ?_;refine d0a ?_;refine z1a ⟨(St.front (A:=[_,_,_,_,_,_]) d0),e0⟩ rfl rfl rfl ?_;refine z0a n3b rfl rfl ?_;refine d0a ?_;refine z1a ⟨(St.front (A:=[_,_,_,_,_,_]) d0),e0⟩ rfl rfl rfl ?_;refine j0a O2a rfl (fun w1 hw=>by exact hw.1.cell 0 rfl rfl) rfl ?_;refine d0a ?_;refine z1a ⟨(St.front (A:=[_,_,_,_,_,_]) d0),e0⟩ rfl rfl rfl ?_;refine n0a O0a.slT rfl (by assumption) rfl (by omega) (by omega) rfl ?_;refine d0a ?_;refine z1a ⟨(St.front (A:=[_,_,_,_,_,_]) d0),e0⟩ rfl rfl rfl ?_;refine j0a K0a rfl (fun w1 hw=>by exact hw.2.cell (a:=⟨bx,_,none⟩) (fun hh=>g2 (List.mem_append_left _ hh)) (q2 0 _ rfl)) rfl ?_;refine d0a ?_;refine z1a ⟨(St.front (A:=[_,_,_,_,_,_]) d0),e0⟩ rfl rfl rfl ?_;refine t2a f4b (vs:=[(0,.int .i64 _),(1,.int .i64 _),(2,.int .i64 _)]) (cs:=[_,_,_]) rfl rfl rfl rfl ?_;refine d0a ?_;refine q8a ⟨(St.front (A:=[_,_,_,_,_,_]) d0),e0⟩ rfl rfl rfl rfl ?_;refine u0a d0 W2a (vs:=[.agg _]) (cs:=[_,_,_]) (by rfl) rfl rfl rfl rfl rfl rfl ?_;intro T2 p3 Q0 X0 L2;have v0:=e0.trans (X0.mono (by simp));replace Kb:=Kb.trans (X0.of_nil);replace i0:=i0.keep X0;refine L0a ⟨rfl,?_⟩;refine q8a ⟨(St.front (A:=[_,_,_,_,_,_,_]) Q0).tail,v0⟩ rfl rfl rfl rfl ?_;have l1:=X1a hp hf m k (by omega);have l2:=O3a p m c k th.steps.length;have l3:=w7a m c k i;refine Y0a K1a (k:=7) (M2:=[]) (e1:=⟨k,-1,x0⟩) Q0 W2a (by decide) rfl a0 rfl rfl (Q0.cells 0 rfl) (M1a.of (by unfold i64;omega) (by unfold i64;omega) z2) (by simp only[List.length_append];omega) rfl ?_;intro e3 N1 b1 q3 W0 g0 Y0 K1;have Q2:=Kb.size;obtain⟨_,_,rfl⟩:=g0.form;have V0:=W0.tail;have a1:=v0.trans Y0;replace i0:=i0.keepL Y0 (g0c Q0 7 rfl);replace Kb:=Kb.freshL Y0 y0;refine L0a ⟨rfl,?_⟩;refine j5a ⟨(St.front (A:=[_,_,_,_,_,_]) V0),a1⟩ ?_
   first|refine B0a (kk:=2) V0 c0d rfl (by conv=>lhs;whnf) rfl rfl (by exact Nat.le_of_ble_eq_true rfl) ?_
   intro O0 H0 u0;replace Kb:=Kb.fresh2 u0 (by exact .inr (by simp));replace i0:=by exact i0.keepS u0 (V0.blk 2 rfl)
   refine L0a ⟨rfl,?_⟩;refine fF0 rfl ⟨⟩ ?_;refine⟨{ rc with state:=.busy },(i0 (l,_) (by simp)).1,.inl ⟨rfl,?_⟩⟩;have h2:=i0.put (o':=.loop rc) B0 (by simp);have Sn:=H0.tail.putObj (.loop rc) i0 (List.mem_cons_self) (.inl (by omega));have Kn:=Kb.fresh2 (V1a O0 l (.loop rc)) (.inr (by simp));rw[Z1b q1 H1];refine⟨N1,b1,_,h2,Sn,?_,?_,Kn⟩
   ·rw[G0b (by rw[getD_some z0];exact w2),getD_some z0,getD_some D0,getD_some s1];simp only[List.append_assoc] at g0 ⊢;exact g0
   ·intro g hg;rcases K1 g hg with h|h
    ·exact y0 g h
    ·left;omega
  rintro v w3 (⟨G3,p0,v3,f0,S3,a0,y0,K3⟩|hF)
  rotate_left
  ·exact hF.elim
  refine⟨rc,(f0 (l,.loop rc) (by simp)).1,by rw[q1];simp,.inl ⟨H1,?_⟩⟩;have Sa:=S3.putObj (.loop { rc with state:=.exhausted }) f0 (List.mem_cons_self) (.inl (by omega));have D1:=(f0.put (o':=.loop { rc with state:=.exhausted }) B0 (by simp)).tail;have p1:(j0.heap.size::rs).Nodup∧∀r∈j0.heap.size::rs,w0.heap.size≤r:=⟨List.nodup_cons.2 ⟨fun hh=>by have:=hO.lt (j0.heap.size,.deferred (some [])) (List.mem_map.2 ⟨_,hh,rfl⟩);simp at this,S0.1⟩,fun r hr=>by
   rcases List.mem_cons.1 hr with rfl|hr
   ·exact E0.size
   ·exact S0.2 r hr⟩
  have N0:B1a (fun _ _=>M1a) 3 [] w0 G3 p0 v3 (Z1a p m c k++(k2a p m c k th.steps.length++Y2a m c k b.length)):=a0;clear a0 hO;generalize w3.putObj l (.loop { rc with state:=.exhausted })=wa at Sa D1 ⊢;have hO:NC wa (K7a (j0.heap.size::rs)):=D1;refine fP0 rfl ⟨by omega,⟨⟩⟩ ⟨μk-1,by omega,(k+1),(j0.heap.size::rs),(_),(_),(_),rfl,(by omega),(p1),(hO),?_,Sa.tail,rfl⟩;rw[U3a,J5a,j2a o0,getD_some z0];exact N0
 refine lO0 rfl ⟨⟩ (s0a i7b rfl (by exact S.cell 0 rfl rfl) rfl ?_);refine P0a (by conv=>lhs;whnf) rfl ?_;refine lR0 rfl ⟨⟩ ?_;obtain rfl:k=p.threads.length:=by omega
 have l1:=X1a hp hf m _ (Nat.le_refl _);rw[C5a] at l1 C0;refine x4c rfl (by conv=>lhs;whnf) rs rfl S0.1 hO (fun w' hb=>⟨?_,(F0a.step S.below hb S0.2).nil⟩);refine((B1a.rd (M:=rs++M) (w:=w) K1a C0 S (k:=4) rfl (fun g hg hm=>?_) (by omega)).keep ((y0a.of_belowM hb).mono (fun g hg=>List.mem_append_left _ hg))).less (fun g hg=>List.mem_append_right _ hg);subst hg;rcases List.mem_append.1 hm with h|h
 ·exact hO.ne (S.blk 4 rfl) (g,.deferred (some [])) (List.mem_map.2 ⟨_,h,rfl⟩) rfl
 ·exact Q0a hM (S.new 4 rfl) h
def b4b(p:f0a)(m:Int)(c:q0a)(x:A0a):q0a×Int:=if x∈G0a p m c then(doC p m c x,0) else(⟨[],[],[]⟩,110)
theorem m4a{p:f0a}{m:Int}{c:q0a}{x:A0a}(h:x∈G0a p m c):b4b p m c x=(doC p m c x,0):=if_pos h
theorem E3a{p:f0a}{m:Int}{c:q0a}{x:A0a}(h:x∉G0a p m c):b4b p m c x=(⟨[],[],[]⟩,110):=if_neg h
theorem x2a{M:List Nat}{w:World}:t0a M w ⟨[],[],[]⟩ [.slice none 0 0,.slice none 0 0,.slice none 0 0]:=⟨_,_,_,rfl,V4a,V4a,V4a⟩
section
variable {p:f0a} {m:Int} {c:q0a} {t:Nat} {b:List E0a}
theorem G1b{x:A0a}(h:x.thread<0∨p.threads.length≤x.thread):x∉G0a p m c:=fun hx=>by
 obtain⟨_,_,⟨i,_,_,_,rfl⟩|⟨i,_,_,rfl⟩⟩:=O1a.1 hx
 ·simp at h;omega
 ·simp at h;omega
theorem d3c{x:A0a}(h:x.step < -1):x∉G0a p m c:=fun hx=>by
 obtain⟨_,_,⟨i,_,_,_,rfl⟩|⟨i,_,_,rfl⟩⟩:=O1a.1 hx
 ·simp at h;omega
 ·simp at h
theorem w2c{st cell:Int}(hs:0≤st)(h:¬cell=0):(⟨t,st,cell⟩:A0a)∉G0a p m c:=fun hx=>by
 obtain⟨t,_,⟨i,_,_,_,h1⟩|⟨i,_,_,h1⟩⟩:=O1a.1 hx
 ·simp at h1;omega
 ·simp at h1;omega
theorem c2c{th:X0a}(a0:p.threads[t]?=some th){st cell:Int}(hs:0≤st)(h:th.steps.length≤st):(⟨t,st,cell⟩:A0a)∉G0a p m c:=fun hx=>by
 obtain⟨t',_,⟨i,_,h1,_,h2⟩|⟨i,_,_,h1⟩⟩:=O1a.1 hx
 ·simp only[A0a.mk.injEq] at h2;obtain⟨_,rfl,rfl⟩:=h2;obtain rfl:t=t':=by omega
  rw[j2a a0] at h1;have:=u1a h1;omega
 ·simp at h1;omega
theorem r8c{th:X0a}(a0:p.threads[t]?=some th){i:Nat}{s:y1a}(hs:th.steps[i]?=some s){cell:Int}(h:S0a p m c t s=false):(⟨t,i,cell⟩:A0a)∉G0a p m c:=fun hx=>by
 obtain⟨t',_,⟨i',_,h1,h2,h3⟩|⟨i',_,_,h1⟩⟩:=O1a.1 hx
 ·simp only[A0a.mk.injEq] at h3;obtain⟨_,_,rfl⟩:=h3;obtain rfl:t=t':=by omega
  obtain rfl:i=i':=by omega
  rw[j2a a0,hs] at h1;cases h1;rw[h] at h2;cases h2
 ·simp only[A0a.mk.injEq] at h1;omega
theorem x7c{th:X0a}(a0:p.threads[t]?=some th){i:Nat}{s:y1a}(hs:th.steps[i]?=some s)(h:S0a p m c t s=true):(⟨t,i,0⟩:A0a)∈G0a p m c :=
 O1a.2 ⟨t,u1a a0,.inl ⟨i,s,by rw[j2a a0];exact hs,h,rfl⟩⟩
theorem s9c{th:X0a}(a0:p.threads[t]?=some th){i:Nat}{s:y1a}(hs:th.steps[i]?=some s):doC p m c ⟨t,i,0⟩=j6a p m c t s:=q1c (by rw[j2a a0];exact hs)
theorem H3c(hb:c.buf[t]?=some b){xc:Int}(h:∀q en,q<b.length→b[q]?=some en→s3a m b q=true→en.cells.getD 0 0≠xc):(⟨t,-1,xc⟩:A0a)∉G0a p m c:=fun hx=>by
 obtain⟨t',_,⟨_,_,h1,h2,h3⟩|⟨i,h1,h2,h3⟩⟩:=O1a.1 hx
 ·simp only[A0a.mk.injEq] at h3;omega
 ·simp only[A0a.mk.injEq] at h3;obtain⟨_,-,h3⟩:=h3;obtain rfl:t=t':=by omega
  rw[getD_some hb] at h1 h2 h3;have hx:b[i]?=some b[i]:=List.getElem?_eq_getElem h1;rw[getD_some hx] at h3;exact h i _ h1 hx h2 h3.symm
theorem G6c(ht:t<p.threads.length)(hb:c.buf[t]?=some b){i:Nat}{en:E0a}(hx:b[i]?=some en)(hr:s3a m b i=true):(⟨t,-1,en.cells.getD 0 0⟩:A0a)∈G0a p m c :=
 O1a.2 ⟨t,ht,.inr ⟨i,by rw[getD_some hb];exact u1a hx,by rw[getD_some hb];exact hr,by rw[getD_some hb,getD_some hx]⟩⟩
theorem e7c(hb:c.buf[t]?=some b)(a0:∀e∈b,e.cells≠[]){i:Nat}{en:E0a}(hx:b[i]?=some en)(hr:s3a m b i=true):doC p m c ⟨t,-1,en.cells.getD 0 0⟩=g4a c t i:=by
 unfold doC;rw[if_pos rfl];simp only[Int.toNat_natCast];rw[getD_some hb];have:(b.findIdx? fun e=>decide (e.cells.getD 0 0=en.cells.getD 0 0))=some i:=by
  rw[List.findIdx?_eq_some_iff_getElem];refine⟨u1a hx,?_,fun j hj=>?_⟩
  ·have:=(List.getElem?_eq_some_iff.1 hx).2;rw[this];simp
  ·simp only[decide_eq_true_eq];intro he;have g0:=u1a hx;have f0:b[j]?=some b[j]:=List.getElem?_eq_getElem (by omega);have e0:¬i=0:=by omega
   rw[T3a hx,decide_eq_false e0] at hr;simp only[Bool.false_or,Bool.and_eq_true,Bool.not_eq_true',List.any_eq_false] at hr;have h1:=hr.2 b[j] (by rw[List.mem_take_iff_getElem];exact⟨j,by omega,rfl⟩);apply h1;rw[H6a];have d0:=a0 en (c0a hx);have b0:=a0 b[j] (List.getElem_mem _);refine⟨en.cells.getD 0 0,?_,?_⟩
   ·cases hc:en.cells with
    | nil=>exact absurd hc d0
    | cons a l=>simp
   ·rw[←he];cases hc:(b[j]).cells with
    | nil=>exact absurd hc b0
    | cons a l=>simp
 rw[this];rfl
end
theorem m7a{w0 w:World}{L:List Ent}{M:List Nat}(S:St [] w0 w L){i j g g' t t':Nat}{cs a0:List Value}(h0:L[i]?=some (some g,t,cs))(h1:L[j]?=some (some g',t',a0)):∀x∈g::g'::M,x∈M∨w0.heap.size≤x:=fun x hx=>by
 rcases List.mem_cons.1 hx with rfl|hx
 ·exact .inr (by simpa using S.new i h0)
 ·rcases List.mem_cons.1 hx with rfl|hx
  ·exact .inr (by simpa using S.new j h1)
  ·exact .inl hx
theorem h1b{w0 w:World}{L:List Ent}{M:List Nat}(S:St [] w0 w L){i j g g' t t':Nat}{cs a0:List Value}(h0:L[i]?=some (some g,t,cs))(h1:L[j]?=some (some g',t',a0))(hM:∀g∈M,g<w0.heap.size):∀x∈g::g'::M,x<w.heap.size:=fun x hx=>by
 rcases List.mem_cons.1 hx with rfl|hx
 ·exact S.lt i h0
 ·rcases List.mem_cons.1 hx with rfl|hx
  ·exact S.lt j h1
  ·exact Nat.lt_of_lt_of_le (hM x hx) S.size
theorem InP.two{p:f0a}{M:List Nat}{w0 w:World}{cs:List Value}(h:InP p M w0 cs){L:List Ent}(S:St [] w0 w L){i j g g' t t':Nat}{ds a0:List Value}(h0:L[i]?=some (some g,t,ds))(h1:L[j]?=some (some g',t',a0)):InP p (g::g'::M) w cs :=
 ⟨(h.rd.more (m7a S h0 h1)).keep (S.keep0 _),h.ok,(h.msk.more (m7a S h0 h1)).keep (S.keep0 _),h1b S h0 h1 h.lt⟩
theorem D3b(p:f0a)(c:q0a)(x:A0a)(M:List Nat)(w0:World)(cs xs:List Value)(hI:InP p M w0 cs)(hX:t0a M w0 c xs)(hf:c3a p c)(he:t3a c)(hx:x∉G0a p 0 c):
 M0a Tryz.prog 145 #[.agg cs.toArray,.agg xs.toArray,.agg #[.int .i64 x.thread,.int .i64 x.step,.int .i64 x.cell]] w0 fun v w'=>v=.tuple #[.agg #[.slice none 0 0,.slice none 0 0,.slice none 0 0],.int .i64 110]∧Below w0.heap.size w0 w':=by
 obtain⟨Ac,nc,cc,Am,nm,cm,Al,nl,cl,At,nt,ct,rfl,_,_,_,_,_,_,_,_,_,_,_,_⟩:=hI.rd.open_;obtain⟨Xm,xm,ym,Xa,xa,ya,Xb,xb,yb,rfl,_,_,_,_,_,_,_,_,_⟩:=hX.open_;have S:=St.refl w0;refine a0a Tryz.func145 rfl Tryz.ntmps145 rfl ?_;refine wO0 rfl ⟨⟩ (h0a S (by conv=>lhs;whnf) rfl ?_);intro g3 w3 S3 X3 G3;refine h0a S3 (by conv=>lhs;whnf) rfl ?_;intro g4 w4 S4 X4 G4;refine h0a S4 (by conv=>lhs;whnf) rfl ?_;intro g5 w5 S5 X5 G5;refine m0a S5 Q3a rfl rfl ?_;intro g6 w6 S6 X6 G6;refine lO S6.k [.w 3] rfl ⟨⟨rfl,rfl⟩,⟨⟩⟩ (g0a S6 h3b rfl rfl (M4a p M _ _ (hI.keep (S6.keep0 M))) ?_);intro E0 f0 A0;refine lO f0.k [.w 3,.w 2] rfl ⟨⟨rfl,rfl⟩,⟨rfl,rfl⟩,⟨⟩⟩ (g0a f0 v5b rfl rfl (h7a p c M _ _ _ (hI.keep (f0.keep0 M)) (hX.keep (f0.keep0 M)) hf he) ?_);intro F0 g0 B0;refine lO g0.k [.w 3,.w 2] rfl ⟨⟨rfl,rfl⟩,⟨rfl,rfl⟩,⟨⟩⟩ (x0a g0 I5b rfl rfl (c5a p c M _ _ _ (hI.keep (g0.keep0 M)) (hX.keep (g0.keep0 M)) hf he) ?_);rintro D0 q0 hr r0 C0;obtain⟨Ar,nr,cr,rfl⟩:=hr.form;obtain⟨_,-,_⟩:=hr.len;have a0:=y0a.refl [] q0;refine lC0 rfl ⟨⟩ (wL (fun μk D ε w=>D=[]∧∃k:Nat,(k+μk=((G0a p 0 c).length))∧(y0a [] q0 w)∧St [] w0 w [(some g6,38,[.slice none 0 0,.slice none 0 0,.slice none 0 0]),(some g5,44,[.int .i64 x.thread,.int .i64 x.step,.int .i64 x.cell]),(some g4,38,[.slice Xm xm ym,.slice Xa xa ya,.slice Xb xb yb]),(some g3,27,[.slice Ac nc cc,.slice Am nm cm,.slice Al nl cl,.slice At nt ct])]∧Sl ε [(3,.pointer (some ⟨g3,0,none⟩)),(4,.pointer (some ⟨g4,0,none⟩)),(5,.pointer (some ⟨g5,0,none⟩)),(6,.pointer (some ⟨g6,0,none⟩)),(22,.slice Ar nr cr),(23,.int .i64 nr),(24,.int .i64 k)]) (μ:=((G0a p 0 c).length)) ⟨rfl,0,by omega,a0,r0,rfl⟩ ?_);rintro μk D ε w ⟨rfl,k,_,a0,S,eZ⟩;refine wK eZ (wB0 rfl ⟨⟩ (fun u0=>?_) fun u0=>?_)
 ·obtain⟨y,t0,x0,_,v0,i0,_,n0,j0,o0⟩:=RdS.get ((hr.keep a0.of_nil)) (k) (by omega);obtain⟨rfl,_,_,_⟩:=id o0;refine lO (S.k.b j0) [.x t0 x0,.v 0] rfl ⟨⟨rfl,n0⟩,⟨i0,by omega⟩,⟨⟩⟩ (m0a S H2c rfl rfl ?_);intro g9 w9 S9 X9 G9;have e0:=Nat.le_trans a0.size G9;replace a0:=a0.trans X9;refine e0a (kk:=0) (vs:=[_,_,_]) S9 i4b rfl rfl rfl rfl rfl rfl rfl ?_;intro y0 b0 h0;dsimp only[k0a,List.set] at b0;replace a0:=a0.fresh h0 (by first|exact e0);refine lOn 6 b0.k [.w 2,.w 0] rfl ⟨⟨rfl,by rfl⟩,⟨rfl,rfl⟩,⟨⟩⟩ (g5c Z9a rfl rfl rfl (fun p0=>?_) fun p0=>?_)
  ·exact absurd (c0a v0) (by obtain⟨a,b,c⟩:=x;obtain⟨a',b',c'⟩:=y;obtain⟨rfl,rfl,rfl⟩:=p0;exact hx)
  refine lP0 rfl ⟨by omega,⟨⟩⟩ ⟨μk-1,by omega,rfl,(k+1),(by omega),(a0),b0.tail,rfl⟩
 refine lO0 rfl ⟨⟩ (f1a u4a (vs:=[]) (cs:=[_,_,_]) rfl rfl rfl rfl ?_);refine e0a (kk:=0) (vs:=[_,_,_]) S e2a rfl rfl rfl rfl rfl rfl rfl ?_;intro z0 d0 s0;dsimp only[k0a,List.set] at d0;exact lR0 rfl ⟨⟩ (g2a (n:=3) rfl a1a rfl (d0.cells 0 rfl) rfl rfl ⟨rfl,d0.fin⟩)
theorem Z0b(p:f0a)(c:q0a)(x:A0a)(M:List Nat)(w0:World)(cs xs:List Value)(hI:InP p M w0 cs)(hX:t0a M w0 c xs)(hf:c3a p c)(he:t3a c):
 M0a Tryz.prog 145 #[.agg cs.toArray,.agg xs.toArray,.agg #[.int .i64 x.thread,.int .i64 x.step,.int .i64 x.cell]] w0 fun v w'=>(∃ys,v=.tuple #[.agg ys.toArray,.int .i64 (b4b p 0 c x).2]∧t0a M w' (b4b p 0 c x).1 ys)∧Below w0.heap.size w0 w':=by
 by_cases hx:x∈G0a p 0 c
 ·rw[m4a hx];exact m5b p c x M w0 cs xs hI hX hf he hx
 ·rw[E3a hx];exact(D3b p c x M w0 cs xs hI hX hf he hx).mono fun _ _ h=>⟨⟨_,h.1,x2a⟩,h.2⟩
theorem f3a:One Tryz.prog 31:=H2a Tryz.underlying31 (by intro _ h;cases h) (by intro _ _ h;cases h)
theorem M7b(p:f0a)(c:q0a)(m:Int)(x:A0a)(hm:(m=0∧t3a c)∨m=1∨m=2)(M:List Nat)(w0:World)(cs xs:List Value)(hI:InP p M w0 cs)(hX:t0a M w0 c xs)(hf:c3a p c):
 M0a Tryz.prog 115 #[.agg cs.toArray,.int .i64 m,.agg xs.toArray,.agg #[.int .i64 x.thread,.int .i64 x.step,.int .i64 x.cell]] w0 fun v w'=>(∃ys,v=.tuple #[.agg ys.toArray,.int .i64 (b4b p m c x).2]∧t0a M w' (b4b p m c x).1 ys)∧Below w0.heap.size w0 w':=by
 obtain⟨Ac,nc,cc,Am,nm,cm,Al,nl,cl,At,nt,ct,rfl,_,_,_,A2,_,_,_,K2,_,_,_,_⟩:=hI.rd.open_;obtain⟨Xm,xm,ym,Xa,xa,ya,Xb,xb,yb,rfl,_,_,_,_,_,_,_,_,_⟩:=hX.open_;have S:=St.refl w0;have hM:=hI.lt;have hp:=hI.ok;have f2:=hf.nat;have f3:=hf.nbuf;have n2:=hp.nthreads;obtain⟨xt,i1,xc⟩:=x;simp only;refine u7a Tryz.func115 rfl Tryz.ntmps115 rfl (wI ?_);refine wO0 rfl ⟨⟩ (h0a S (by conv=>lhs;whnf) rfl ?_);intro g4 w4 S4 X4 G4;refine h0a S4 (by conv=>lhs;whnf) rfl ?_;intro g6 w6 S6 X6 G6;refine h0a S6 (by conv=>lhs;whnf) rfl ?_;intro g7 w7 S7 X7 G7;refine m0a S7 Q3a rfl rfl ?_;intro g8 w8 S8 X8 G8;refine m0a S8 w9c rfl rfl ?_;intro g9 w9 S9 X9 G9;refine lB0 rfl ⟨⟩ (fun y2=>?_) fun y2=>?_
 ·have J2:m=0∧t3a c:=by rcases hm with h|h|h;exact h;omega;omega
  obtain⟨rfl,he⟩:=J2;refine lO S9.k [.w 4,.w 3,.w 2] rfl ⟨⟨rfl,by rfl⟩,⟨rfl,by rfl⟩,⟨rfl,by rfl⟩,⟨⟩⟩ (x0a S9 J5c rfl rfl (Z0b p c ⟨xt,i1,xc⟩ (g9::g8::M) _ _ _ (hI.two S9 (i:=0) (j:=1) rfl rfl) ((hX.more (m7a S9 (i:=0) (j:=1) rfl rfl)).keep (S9.keep0 _)) hf he) ?_);rintro n3 t3 ⟨ys,rfl,hy⟩ r2 b3;obtain⟨Ym,o2,zm,Ya,j2,za,Yb,m2,zb,rfl,-⟩:=hy.open_;refine lO0 rfl ⟨⟩ ?_
  first|refine e0a (kk:=1) (vs:=[_,_,_]) r2 e2a rfl rfl rfl rfl rfl rfl rfl ?_
  intro W2 R0 o1;dsimp only[k0a,List.set] at R0;replace hy:=hy.keep (o1.mono (by simp))
  first|refine B0a (kk:=0) R0 v8a rfl (by conv=>lhs;whnf) rfl rfl (by exact Nat.le_of_ble_eq_true rfl) ?_
  intro X2 L0 p1;replace hy:=hy.keep (p1.mono (by simp));exact lR0 rfl ⟨⟩ (i2a (n:=3) rfl a1a f3a rfl rfl rfl [] rfl List.nodup_nil NC.nil (L0.cells 1 rfl) (L0.cell 0 rfl rfl) (by simp) (by simp) (fun w' hb=>⟨⟨_,rfl,(hy.keep (y0a.of_below hb.nil)).less (fun g hg=>by simp[hg])⟩,(L0.below.trans hb).nil⟩))
 have B1:m=1∨m=2:=by rcases hm with h|h|h;exact absurd h.1 (by assumption);exact .inl h;exact .inr h
 refine lO S9.k [.w 4,.w 3] rfl ⟨⟨rfl,by rfl⟩,⟨rfl,by rfl⟩,⟨⟩⟩ (g0a S9 n9b rfl rfl (n0c p c m B1 M _ _ _ (hI.keep (S9.keep0 M)) (hX.keep (S9.keep0 M)) hf) ?_);intro u3 s2 d3;refine lO0 rfl ⟨⟩ (m0a s2 t1c rfl rfl ?_);intro K1 r3 q2 a3 Z2;refine e0a (kk:=0) (vs:=[_,_,_,_,_,_,_,_]) q2 G6b rfl rfl rfl rfl rfl rfl rfl ?_;intro Y2 b0 u2;dsimp only[k0a,List.set] at b0;refine lB b0.k [.o 3] rfl ⟨rfl,⟨⟩⟩ (fun M1=>?_) fun M1=>?_
 ·refine lO0 rfl ⟨⟩ (f1a u4a (vs:=[]) (cs:=[_,_,_]) rfl rfl rfl rfl ?_)
  first|refine e0a (kk:=2) (vs:=[_,_,_]) b0 e2a rfl rfl rfl rfl rfl rfl rfl ?_
  intro g1 n0 W0;dsimp only[k0a,List.set] at n0
  first|refine B0a (kk:=1) n0 v8a rfl (by conv=>lhs;whnf) rfl rfl (by exact Nat.le_of_ble_eq_true rfl) ?_
  intro h1 e0 X0;refine lR0 rfl ⟨⟩ ?_;rw[E3a (G1b (x:=⟨xt,i1,xc⟩) (.inl M1))];exact i2a (n:=3) rfl a1a f3a rfl rfl rfl [] rfl List.nodup_nil NC.nil (e0.cells 2 rfl) (e0.cell 1 rfl rfl) (by simp) (by simp) (fun w' hb=>⟨⟨_,rfl,x2a⟩,(e0.below.trans hb).nil⟩)
 refine lB b0.k [.o 3,.o 5] rfl ⟨rfl,rfl,⟨⟩⟩ (fun N1=>?_) fun N1=>?_
 ·refine lO0 rfl ⟨⟩ (f1a u4a (vs:=[]) (cs:=[_,_,_]) rfl rfl rfl rfl ?_)
  first|refine e0a (kk:=2) (vs:=[_,_,_]) b0 e2a rfl rfl rfl rfl rfl rfl rfl ?_
  intro g1 n0 W0;dsimp only[k0a,List.set] at n0
  first|refine B0a (kk:=1) n0 v8a rfl (by conv=>lhs;whnf) rfl rfl (by exact Nat.le_of_ble_eq_true rfl) ?_
  intro h1 e0 X0;refine lR0 rfl ⟨⟩ ?_;rw[E3a (G1b (x:=⟨xt,i1,xc⟩) (.inr (by rw[←K2];exact N1)))];exact i2a (n:=3) rfl a1a f3a rfl rfl rfl [] rfl List.nodup_nil NC.nil (e0.cells 2 rfl) (e0.cell 1 rfl rfl) (by simp) (by simp) (fun w' hb=>⟨⟨_,rfl,x2a⟩,(e0.below.trans hb).nil⟩)
 refine lB b0.k [.o 3] rfl ⟨rfl,⟨⟩⟩ (fun O1=>?_) fun O1=>?_
 ·refine lO0 rfl ⟨⟩ (f1a u4a (vs:=[]) (cs:=[_,_,_]) rfl rfl rfl rfl ?_)
  first|refine e0a (kk:=2) (vs:=[_,_,_]) b0 e2a rfl rfl rfl rfl rfl rfl rfl ?_
  intro g1 n0 W0;dsimp only[k0a,List.set] at n0
  first|refine B0a (kk:=1) n0 v8a rfl (by conv=>lhs;whnf) rfl rfl (by exact Nat.le_of_ble_eq_true rfl) ?_
  intro h1 e0 X0;refine lR0 rfl ⟨⟩ ?_;rw[E3a (d3c (x:=⟨xt,i1,xc⟩) O1)];exact i2a (n:=3) rfl a1a f3a rfl rfl rfl [] rfl List.nodup_nil NC.nil (e0.cells 2 rfl) (e0.cell 1 rfl rfl) (by simp) (by simp) (fun w' hb=>⟨⟨_,rfl,x2a⟩,(e0.below.trans hb).nil⟩)
 obtain⟨t,rfl⟩:=Int.eq_ofNat_of_zero_le (show 0≤xt by omega);have ht:t<p.threads.length:=by omega
 obtain⟨b,H0⟩:∃b,c.buf[t]?=some b:=⟨c.buf[t]'(by omega),List.getElem?_eq_getElem _⟩;obtain⟨th,p0⟩:∃th,p.threads[t]?=some th:=⟨p.threads[t]'(by omega),List.getElem?_eq_getElem _⟩;refine lB b0.k [.o 3] rfl ⟨rfl,⟨⟩⟩ (fun P1=>?_) fun P1=>?_
 ·subst P1;refine lO b0.k [.w 0,.o 3] rfl ⟨rfl,⟨rfl,by rfl⟩,⟨⟩⟩ ?_;have Zb:=b0.size;refine x0a b0 R9b rfl rfl (z9b _ rfl (t:Int) _) ?_;rintro o3 q0 ⟨gs,gt,rfl,_,_,U1,D2⟩ H1 e3;refine lC0 rfl ⟨⟩ (wJ ?_);refine z7a (vs:=fun y=>#[y,_,_]) E1c rfl (fun _=>rfl) (fun rc wi E1 a2 O2 z1 L2 has C2 G2 hl hB j3=>?_);obtain⟨l,I2⟩:∃l,l=q0.heap.size+1:=⟨_,rfl⟩;have T1:=p7a (NC.nil (w:=q0)) G2 hl hB;rw[←I2] at hl T1 ⊢;have Si:=H1.later hB;have Ki:y0a [] q0 wi:=y0a.of_below hB;have Zw:=H1.size;have m3:gs<q0.heap.size:=U1.lt;have z2:∀g∈(l::M),g∈M∨w0.heap.size≤g:=fun g hg=>by
   rcases List.mem_cons.1 hg with rfl|hg
   ·right;omega
   ·exact .inl hg
  have B2:t0a (l::M) wi c _:=(hX.more z2).keep (Si.keep0 _);have A1:gs∉(l::M):=fun hh=>by
   rcases List.mem_cons.1 hh with h|h
   ·omega
   ·have:=hM gs h;omega
  have y0:∀x∈[(q0.heap.size,Obj.deferred (some []))],x.1≠l:=fun x hx=>by
   rcases List.mem_cons.1 hx with rfl|hx
   ·show q0.heap.size≠l;omega
   ·cases hx
  refine M0a.mono (F6b c m t b H0 gs gt l (l::M) wi _ [.slice Ac nc cc,.slice Am nm cm,.slice Al nl cl,.slice At nt ct] rfl (fun i w=>NC w [(l,.loop rc),(q0.heap.size,.deferred (some []))]∧St [] w0 w [(some K1,206,[.slice Xm xm ym,.slice Xa xa ya,.slice Xb xb yb,.slice Ac nc cc,.slice Am nm cm,.slice Al nl cl,.slice At nt ct,.int .i64 m]),(some g9,31,[.int .i64 0]),(some g8,38,[.slice none 0 0,.slice none 0 0,.slice none 0 0]),(some g7,44,[.int .i64 t,.int .i64 (-1),.int .i64 xc]),(some g6,38,[.slice Xm xm ym,.slice Xa xa ya,.slice Xb xb yb]),(some g4,27,[.slice Ac nc cc,.slice Am nm cm,.slice Al nl cl,.slice At nt ct])]∧y0a (l::M) wi w∧(∀q en,q<i→b[q]?=some en→s3a m b q=true→en.cells.getD 0 0≠xc)) (fun w=>∃(i:Nat) (en:E0a) (ys:List Value),b[i]?=some en∧s3a m b i=true∧en.cells.getD 0 0=xc∧(∀q en,q<i→b[q]?=some en→s3a m b q=true→en.cells.getD 0 0≠xc)∧NC w [(l,.loop { rc with state:=.done,pending:=some .ret }),(q0.heap.size,.deferred (some []))]∧St [] w0 w [(some K1,206,[.slice Xm xm ym,.slice Xa xa ya,.slice Xb xb yb,.slice Ac nc cc,.slice Am nm cm,.slice Al nl cl,.slice At nt ct,.int .i64 m]),(some g9,31,[.int .i64 0]),(some g8,38,ys),(some g7,44,[.int .i64 t,.int .i64 (-1),.int .i64 xc]),(some g6,38,[.slice Xm xm ym,.slice Xa xa ya,.slice Xb xb yb]),(some g4,27,[.slice Ac nc cc,.slice Am nm cm,.slice Al nl cl,.slice At nt ct])]∧ys.length=3∧t0a (l::q0.heap.size::M) w (g4a c t i) ys) B2 A1 (S3a Ki U1) (S3a Ki D2) ⟨T1,Si,y0a.refl _ _,fun q en hq=>absurd hq (by omega)⟩ (fun i w hJ=>hJ.2.2.1) ?_ ?_ (fun i en w es o0 m1 hJ hE=>?_)) ?_
  ·rintro i w w' ⟨h0,S3,K3,G0⟩ u1;exact⟨h0.keep (y0a.of_below u1),S3.later u1,K3.trans (y0a.of_below u1),G0⟩
  ·rintro i w ⟨h0,S3,K3,G0⟩ hi hr;exact⟨h0,S3,K3,fun q en hq hx a1=>by
    by_cases C1:q=i
    ·subst C1;rw[hr] at a1;cases a1
    ·exact G0 q en (by omega) hx a1⟩
  ·obtain⟨h0,S3,K3,G0⟩:=hJ;obtain⟨_,_,_,_,_,_,rfl,-⟩:=I0a.open_ (hE _ _ (fun g hg=>.inl hg) K3);have qE:=(hf.bufs t b H0).2.1 en (c0a o0);have T2:0<en.cells.length:=by
    rcases Nat.eq_zero_or_pos en.cells.length with h|h
    ·exact absurd (List.length_eq_zero_iff.1 h) qE.some_
    ·exact h
   have li:=u1a o0;refine a0c (h0 (l,.loop rc) (by simp)).1 E1 O2 z1 L2 has C2 rfl rfl ?_;refine wI ?_;refine wO0 rfl ⟨⟩ (m0a S3 W7a rfl rfl ?_);intro h3 s3 G1 J1 p2;have P0:=Nat.le_trans K3.size p2;replace K3:=K3.trans (J1.of_nil);replace h0:=h0.keep J1;refine e0a (kk:=0) (vs:=[_,_]) G1 y9a rfl rfl rfl rfl rfl rfl rfl ?_;intro I0 z0 B0;dsimp only[k0a,List.set] at z0;replace K3:=K3.fresh2 B0 (by exact .inl P0);replace h0:=by exact h0.keepS B0 (G1.blk 0 rfl)
   refine lF0 rfl ⟨⟩ ?_;refine⟨(h0 (l,.loop rc) (by simp)).1,?_⟩;have Sb:=z0.putObj (.loop { rc with state:=.busy }) h0 (List.mem_cons_self) (.inl (by omega));have i0:=h0.put (o':=.loop { rc with state:=.busy }) y0 (by simp);have Kb:=K3.fresh2 (V1a I0 l (.loop { rc with state:=.busy })) (.inr (by simp));generalize I0.putObj l (.loop { rc with state:=.busy })=wb at Sb i0 Kb ⊢;obtain⟨_,_,_,_,_,_,W1,Y0,-⟩:=I0a.open_ (hE (l::M) wb (fun g hg=>.inl hg) Kb);simp only[List.cons.injEq,Value.slice.injEq,and_true] at W1;obtain⟨⟨rfl,rfl,rfl⟩,rfl,rfl,rfl⟩:=W1;have i3:=Y0.len.1;refine wI ?_;obtain⟨_,_,_,_,d1,_,_,_,F2,N2⟩:=RdS.get Y0 0 T2;obtain⟨rfl,_⟩:=N2;refine wC0 rfl ⟨⟩ (v0a b0a [0,1,2,3,4,5,6] [] [] (by kernel_rfl) rfl (Cl _ _ _ _) (Cl.start Sb) ?_);refine qO Sb.q [.o 0] rfl ⟨rfl,⟨⟩⟩ (n0a O0a.slT rfl (by assumption) rfl (by omega) (by omega) rfl ?_);refine j0a K0a rfl (fun w1 hw=>by exact hw.2.cell List.not_mem_nil (F2 0 _ rfl)) rfl ?_;refine qO0 rfl ⟨⟩ (j0a K0a rfl (fun w1 hw=>by exact hw.1.cell 4 rfl rfl) rfl ?_);refine qB0 rfl ⟨⟩ (fun q1=>?_) fun q1=>?_
   ·refine qD rfl ⟨⟩ ?_;rintro N0 ⟨g0,x0⟩;replace Kb:=Kb.trans (x0.of_nil);replace i0:=i0.keep x0;refine lO0 rfl ⟨⟩ (w1a Q6a rfl (g0.cells 1 rfl) rfl rfl ?_);refine lO0 rfl ⟨⟩ (s0a K0a rfl (by exact g0.cell 4 rfl rfl) rfl ?_);refine lO0 rfl ⟨⟩ ?_;have R1:∀g∈l::q0.heap.size::g9::g8::M,g<N0.heap.size:=fun g hg=>by
     rcases List.mem_cons.1 hg with rfl|hg
     ·exact i0.lt _ List.mem_cons_self
     ·rcases List.mem_cons.1 hg with rfl|hg
      ·exact i0.lt (q0.heap.size,.deferred (some [])) (by simp)
      ·exact h1b g0 (i:=2) (j:=3) rfl rfl hM g hg
    have v1:∀g∈l::q0.heap.size::g9::g8::M,g∈M∨w0.heap.size≤g:=fun g hg=>by
     rcases List.mem_cons.1 hg with rfl|hg
     ·right;omega
     ·rcases List.mem_cons.1 hg with rfl|hg
      ·right;omega
      ·exact m7a g0 (i:=2) (j:=3) rfl rfl g hg
    refine x0a g0 u7c rfl rfl (r1c p hp c t i b (l::q0.heap.size::g9::g8::M) _ R1 [.slice Ac nc cc,.slice Am nm cm,.slice Al nl cl,.slice At nt ct] [.slice Xm xm ym,.slice Xa xa ya,.slice Xb xb yb] m ⟨(hI.rd.more v1).keep (g0.keep0 _),hI.ok,(hI.msk.more v1).keep (g0.keep0 _),R1⟩ ((hX.more v1).keep (g0.keep0 _)) hf H0 li) ?_;rintro p3 v3 ⟨ys,rfl,hy⟩ I1 v2;replace i0:=i0.keep v2;obtain⟨Ym,o2,zm,Ya,j2,za,Yb,m2,zb,rfl,-⟩:=hy.open_
    first|refine e0a (kk:=3) (vs:=[_,_,_]) I1 e2a rfl rfl rfl rfl rfl rfl rfl ?_
    intro b2 t0 C0;dsimp only[k0a,List.set] at t0;replace i0:=by exact i0.keepS C0 (I1.blk 3 rfl)
    replace hy:=hy.keep (C0.mono (by simp))
    first|refine B0a (kk:=2) t0 v8a rfl (by conv=>lhs;whnf) rfl rfl (by exact Nat.le_of_ble_eq_true rfl) ?_
    intro f1 Q0 D0;replace i0:=by exact i0.keepS D0 (t0.blk 2 rfl)
    replace hy:=hy.keep (D0.mono (by simp));refine lR0 rfl ⟨⟩ ?_;refine⟨{ rc with state:=.busy },(i0 (l,_) (by simp)).1,.inr ⟨rfl,?_⟩⟩;have x1:=i0.put (o':=.loop { rc with state:=.done,pending:=some .ret }) y0 (by simp);have Sn:=Q0.tail.putObj (.loop { rc with state:=.done,pending:=some .ret }) i0 (List.mem_cons_self) (.inl (by omega));exact⟨i,en,_,o0,m1,by rw[getD_some d1];exact q1,G0,x1,Sn,rfl,(hy.keep ((V1a f1 l _).mono (by simp))).less (fun g hg=>by simp only[List.mem_cons] at hg ⊢;rcases hg with h|h|h<;>simp[h])⟩
   refine qD rfl ⟨⟩ ?_;rintro N0 ⟨g0,x0⟩;replace Kb:=Kb.trans (x0.of_nil);replace i0:=i0.keep x0;refine lF0 rfl ⟨⟩ ?_;refine⟨{ rc with state:=.busy },(i0 (l,_) (by simp)).1,.inl ⟨rfl,?_⟩⟩;have x1:=i0.put (o':=.loop rc) y0 (by simp);have Sn:=g0.tail.putObj (.loop rc) i0 (List.mem_cons_self) (.inl (by omega));have Kn:=Kb.fresh2 (V1a N0 l (.loop rc)) (.inr (by simp));rw[Z1b E1 a2];exact⟨x1,Sn,Kn,fun q x2 hq hx a1=>by
    by_cases C1:q=i
    ·subst C1;obtain rfl:=Option.some.inj (o0.symm.trans hx);rw[getD_some d1];exact q1
    ·exact G0 q x2 (by omega) hx a1⟩
  rintro v w3 (⟨h0,S3,K3,G0⟩|⟨i,en,ys,o0,m1,E2,H2,h0,S3,P2,R2⟩)
  rotate_left
  ·refine⟨{ rc with state:=.done,pending:=some .ret },(h0 (l,_) List.mem_cons_self).1,by simp,.inr ⟨rfl,?_⟩⟩;have Sa:=S3.putObj (.loop { rc with state:=.exhausted,pending:=some .ret }) h0 (List.mem_cons_self) (.inl (by omega));have s0:=(h0.put (o':=.loop { rc with state:=.exhausted,pending:=some .ret }) y0 (by simp)).tail;have Ka:=V1a w3 l (.loop { rc with state:=.exhausted,pending:=some .ret });have Q2:=R2.keep (Ka.mono (by simp));subst E2;rw[m4a (G6c ht H0 o0 m1),e7c H0 (fun e he=>((hf.bufs t b H0).2.1 e he).some_) o0 m1];exact i2a (n:=3) rfl a1a f3a rfl rfl P2 [q0.heap.size] rfl (by simp) s0 (Sa.cells 2 rfl) (Sa.cell 1 rfl rfl) (by have:=s0.ne (Sa.blk 2 rfl) _ (List.mem_cons_self);simpa using fun h:g8=_=>this h.symm) (by have:=s0.ne (Sa.blk 1 rfl) _ (List.mem_cons_self);simpa using fun h:g9=_=>this h.symm) (fun w' hb=>⟨⟨_,rfl,(Q2.keep ((y0a.of_belowM hb).mono (by simp))).less (fun g hg=>by simp[hg])⟩,(F0a.step Sa.below hb (by simp;omega)).nil⟩)
  refine⟨rc,(h0 (l,.loop rc) (by simp)).1,by rw[E1];simp,.inl ⟨a2,?_⟩⟩;have Sa:=S3.putObj (.loop { rc with state:=.exhausted }) h0 (List.mem_cons_self) (.inl (by omega));have s0:=(h0.put (o':=.loop { rc with state:=.exhausted }) y0 (by simp)).tail;generalize w3.putObj l (.loop { rc with state:=.exhausted })=wa at Sa s0 ⊢;refine fO0 rfl ⟨⟩ (f1a u4a (vs:=[]) (cs:=[_,_,_]) rfl rfl rfl rfl ?_)
  first|refine e0a (kk:=2) (vs:=[_,_,_]) Sa e2a rfl rfl rfl rfl rfl rfl rfl ?_
  intro d2 u0 S0;dsimp only[k0a,List.set] at u0;replace s0:=by exact s0.keepS S0 (Sa.blk 2 rfl)
  first|refine B0a (kk:=1) u0 v8a rfl (by conv=>lhs;whnf) rfl rfl (by exact Nat.le_of_ble_eq_true rfl) ?_
  intro g2 j0 T0;replace s0:=by exact s0.keepS T0 (u0.blk 1 rfl)
  refine lR0 rfl ⟨⟩ ?_;rw[E3a (H3c H0 G0)];exact i2a (n:=3) rfl a1a f3a rfl rfl rfl [q0.heap.size] rfl (by simp) s0 (j0.cells 2 rfl) (j0.cell 1 rfl rfl) (by have:=s0.ne (j0.blk 2 rfl) _ (List.mem_cons_self);simpa using fun h:g8=_=>this h.symm) (by have:=s0.ne (j0.blk 1 rfl) _ (List.mem_cons_self);simpa using fun h:g9=_=>this h.symm) (fun w' hb=>⟨⟨_,rfl,x2a⟩,(F0a.step j0.below hb (by simp;omega)).nil⟩)
 obtain⟨i,rfl⟩:=Int.eq_ofNat_of_zero_le (show 0≤i1 by omega);refine lO b0.k [.w 4,.o 3] rfl ⟨rfl,⟨rfl,by rfl⟩,⟨⟩⟩ (x0a b0 n1c rfl rfl (E0c p hp c t b (g9::g8::M) _ (h1b b0 (i:=1) (j:=2) rfl rfl hM) _ ((hX.more (m7a b0 (i:=1) (j:=2) rfl rfl)).keep (b0.keep0 _)) hf H0) ?_);rintro q3 x3 hV j1 g3;obtain⟨_,_,_,rfl⟩:=hV.form;refine lC0 rfl ⟨⟩ (v0a b0a [0,1,2,3,4,5,6,7,8,9,10,11,12,13,14,15,16,17,18,19,20,21,22,23,24,25] [] [] (by kernel_rfl) rfl (Cl _ _ _ _) (Cl.start j1) ?_);refine qB j1.q [.o 3] rfl ⟨rfl,⟨⟩⟩ (fun r1=>?_) fun r1=>?_
 ·refine qD rfl ⟨⟩ ?_;rintro O0 ⟨f0,r0⟩;replace hV:=hV.keep (r0.of_nil);refine lO0 rfl ⟨⟩ (f1a u4a (vs:=[]) (cs:=[_,_,_]) rfl rfl rfl rfl ?_)
  first|refine e0a (kk:=2) (vs:=[_,_,_]) f0 e2a rfl rfl rfl rfl rfl rfl rfl ?_
  intro J0 d0 E0;dsimp only[k0a,List.set] at d0
  first|refine B0a (kk:=1) d0 v8a rfl (by conv=>lhs;whnf) rfl rfl (by exact Nat.le_of_ble_eq_true rfl) ?_
  intro K0 a0 F0;refine lR0 rfl ⟨⟩ ?_;rw[E3a (w2c (t:=t) (st:=i) (by omega) r1)];exact i2a (n:=3) rfl a1a f3a rfl rfl rfl [] rfl List.nodup_nil NC.nil (a0.cells 2 rfl) (a0.cell 1 rfl rfl) (by simp) (by simp) (fun w' hb=>⟨⟨_,rfl,x2a⟩,(a0.below.trans hb).nil⟩)
 obtain⟨_,w2,S2,_,F1,t1,_,_,y1,D1⟩:=RdS.get (A2) (t) (by omega);obtain rfl:=Option.some.inj (p0.symm.trans F1);obtain⟨_,_,_,_,_,_,_,_,_,_,_,_,rfl,_,_,_,_,_,_,_,Z0,_,_,_,_,_⟩:=N0a.open_ D1;refine qB (j1.q.a y1) [.o 3,.o 5,.o 3,.x w2 S2,.f 0 4] rfl ⟨rfl,⟨t1,by omega⟩,rfl,rfl,rfl,⟨⟩⟩ (fun Q1=>?_) fun Q1=>?_
 ·refine qD rfl ⟨⟩ ?_;rintro O0 ⟨f0,r0⟩;replace hV:=hV.keep (r0.of_nil);refine lO0 rfl ⟨⟩ (f1a u4a (vs:=[]) (cs:=[_,_,_]) rfl rfl rfl rfl ?_)
  first|refine e0a (kk:=2) (vs:=[_,_,_]) f0 e2a rfl rfl rfl rfl rfl rfl rfl ?_
  intro J0 d0 E0;dsimp only[k0a,List.set] at d0
  first|refine B0a (kk:=1) d0 v8a rfl (by conv=>lhs;whnf) rfl rfl (by exact Nat.le_of_ble_eq_true rfl) ?_
  intro K0 a0 F0;refine lR0 rfl ⟨⟩ ?_;rw[E3a (c2c p0 (st:=i) (by omega) (by rw[←Z0];exact Q1))];exact i2a (n:=3) rfl a1a f3a rfl rfl rfl [] rfl List.nodup_nil NC.nil (a0.cells 2 rfl) (a0.cell 1 rfl rfl) (by simp) (by simp) (fun w' hb=>⟨⟨_,rfl,x2a⟩,(a0.below.trans hb).nil⟩)
 refine qO j1.q [.w 0,.o 3,.o 3] rfl ⟨rfl,rfl,⟨rfl,by rfl⟩,⟨⟩⟩ ?_;obtain⟨s,b1⟩:∃s,th.steps[i]?=some s:=⟨th.steps[i]'(by omega),List.getElem?_eq_getElem _⟩;refine Y1a s9b rfl rfl (fun w1 S1 X1=>P7a p c m B1 t i th s M _ [.slice Ac nc cc,.slice Am nm cm,.slice Al nl cl,.slice At nt ct] [.slice Xm xm ym,.slice Xa xa ya,.slice Xb xb yb] _ (hI.keep (S1.keep0 M)) (hX.keep (S1.keep0 M)) ((hV.keep (X1.of_nil)).less (fun g hg=>List.mem_cons_of_mem _ (List.mem_cons_of_mem _ hg))) hf p0 b1) (fun s1=>?_) fun s1=>?_
 ·refine qD rfl ⟨⟩ ?_;rintro O0 ⟨f0,r0⟩;replace hV:=hV.keep (r0.of_nil);subst r1;have Z1:=x7c p0 b1 s1;have V1:doC p m c ⟨t,i,0⟩=j6a p m c t s:=s9c p0 b1;have Y1:=R4b hp hf Z1;rw[V1] at Y1;refine lO f0.k [.w 0,.w 3] rfl ⟨⟨rfl,by rfl⟩,⟨rfl,by rfl⟩,⟨⟩⟩ (x0a f0 m6c rfl rfl (J7b p c m B1 t i th s (g9::g8::M) _ [.slice Ac nc cc,.slice Am nm cm,.slice Al nl cl,.slice At nt ct] [.slice Xm xm ym,.slice Xa xa ya,.slice Xb xb yb] _ (hI.two f0 (i:=1) (j:=2) rfl rfl) ((hX.more (m7a f0 (i:=1) (j:=2) rfl rfl)).keep (f0.keep0 _)) hV hf p0 b1 Y1) ?_);rintro U2 V2 ⟨ys,rfl,hy⟩ n1 t2;obtain⟨Ym,o2,zm,Ya,j2,za,Yb,m2,zb,rfl,-⟩:=hy.open_
  first|refine e0a (kk:=2) (vs:=[_,_,_]) n1 e2a rfl rfl rfl rfl rfl rfl rfl ?_
  intro h2 A0 U0;dsimp only[k0a,List.set] at A0;replace hy:=hy.keep (U0.mono (by simp))
  first|refine B0a (kk:=1) A0 v8a rfl (by conv=>lhs;whnf) rfl rfl (by exact Nat.le_of_ble_eq_true rfl) ?_
  intro i2 v0 V0;replace hy:=hy.keep (V0.mono (by simp));refine lR0 rfl ⟨⟩ ?_;rw[m4a Z1,V1];exact i2a (n:=3) rfl a1a f3a rfl rfl rfl [] rfl List.nodup_nil NC.nil (v0.cells 2 rfl) (v0.cell 1 rfl rfl) (by simp) (by simp) (fun w' hb=>⟨⟨_,rfl,(hy.keep (y0a.of_below hb.nil)).less (fun g hg=>by simp[hg])⟩,(v0.below.trans hb).nil⟩)
 refine qD rfl ⟨⟩ ?_;rintro O0 ⟨f0,r0⟩;refine lO0 rfl ⟨⟩ (f1a u4a (vs:=[]) (cs:=[_,_,_]) rfl rfl rfl rfl ?_)
 first|refine e0a (kk:=2) (vs:=[_,_,_]) f0 e2a rfl rfl rfl rfl rfl rfl rfl ?_
 intro J0 d0 E0;dsimp only[k0a,List.set] at d0
 first|refine B0a (kk:=1) d0 v8a rfl (by conv=>lhs;whnf) rfl rfl (by exact Nat.le_of_ble_eq_true rfl) ?_
 intro K0 a0 F0;refine lR0 rfl ⟨⟩ ?_;rw[E3a (r8c p0 b1 s1)];exact i2a (n:=3) rfl a1a f3a rfl rfl rfl [] rfl List.nodup_nil NC.nil (a0.cells 2 rfl) (a0.cell 1 rfl rfl) (by simp) (by simp) (fun w' hb=>⟨⟨_,rfl,x2a⟩,(a0.below.trans hb).nil⟩)
def B8(cs:List Value)(n:Int):Prop:=cs=[.int .u8 n]
theorem E0b:R5a (fun(_:List Nat) (_:World)=>B8) 1 where
 len h:=by rw[h];rfl
 one h u hu:=by rw[h] at hu;simp at hu;subst hu;rfl
 keep _ h:=h
 more _ h:=h
abbrev U7b(w0:World)(G:Option Nat)(cs:List Value)(v:Value)(l:List Int):Prop:=B1a (fun(_:List Nat) (_:World)=>B8) 1 [] w0 G cs v l
theorem s6c(n:Int)(h0:0≤n)(h1:n≤255):IntKind.u8.wrap n=n:=by
 simp[IntKind.wrap,IntKind.signed,IntKind.bits];omega
theorem r4b:∀(css:List (List Value)) (l:List Int),css.length=l.length→(∀(i:Nat) (x:Int),l[i]?=some x→∃c,css[i]?=some c∧B8 c x)→css.flatten=l.map (Value.int .u8)
 | [],[],_,_=>rfl
 | [],_::_,h,_=>by simp at h
 | _::_,[],h,_=>by simp at h
 | c::css,x::l,h,hh=>by
   obtain⟨_,h1,h2⟩:=hh 0 x rfl;simp at h1;subst h1;rw[List.flatten_cons,List.map_cons,r4b css l (by simpa using h) (fun i y hy=>by simpa using hh (i+1) y (by simpa using hy)),h2];rfl
section
variable {P:Program} {r:Option Nat} {N:Nat} {D:List Deferred} {e:Env} {w w0:World} {ops:Array Oper} {rest:List Oper} {K:List Deferred→Env→World→Prop} {L:List Ent} {M:List Nat}
variable {d:Nat} {t:TypeId} {p:String} {af:Array Edge} {x y:Operand}
theorem g1c{src dst el k:TypeId}{G:Option Nat}{cs:List Value}{v:Value}{l:List Int}(S:St M w0 w L)(hs:P.underlying src=some (.slice el))(b0:P.underlying el=some (.int .u8))(ht:P.underlying dst=some .string)(hk:L[k]?=some (G,el,cs))(hR:U7b w0 G cs v l)
 (hx:ev e x=v) (hd:Nat.ble (d+1) N=true) (h:WL P r N ops rest K D (upd e d (.string (f4a l))) w) :
 WL P r N ops (⟨some d,.convert src dst x,t,p,af,none⟩::rest) K D e w:=by
 obtain⟨css,h1,_,⟨_,hr⟩,h4⟩:=hR;have d0:=r4b css l h1 h4;refine k1a rfl rfl hd (by simp) ?_ h;rcases hr with⟨rfl,rfl,h0⟩|⟨g,a0,rfl,rfl,q1,q2,q3,q4⟩
 ·have hl:l=[]:=List.length_eq_zero_iff.1 h0;subst hl;have h5:(Conv.bytesToString (.slice none 0 0)).run P w=.ok (.string (f4a [])) w:=by simp[Conv.bytesToString,Sem.run_pure,f4a]
  simp only[execOp,hx,Sem.run_bind,run_convert_bytes_string w src dst el none 0 0 hs b0 ht,h5,Result.andThen_ok,Sem.run_pure]
 ·have hb:=(S.own _ (List.mem_of_getElem? hk) g rfl).2;have hc:∀(i:Nat) (u:Value),(l.map (Value.int .u8))[i]?=some u→w.cell? (Addr.add ⟨g,0,none⟩ i)=some u:=fun i u hu=>by
   rw[Addr.add_lit];refine S.cell k hk ?_;have e0:i<l.length:=by have:=(List.getElem?_eq_some_iff.1 hu).1;simpa using this
   rw[←d0,←q4,List.getElem?_take,if_pos (by simpa using e0)] at hu;simpa using hu
  have h6:=run_loadCells_list (P:=P) (w:=w) ⟨g,0,none⟩ (l.map (Value.int .u8)) hc;have h5:(Conv.bytesToString (.slice (some ⟨g,0,none⟩) l.length a0)).run P w=.ok (.string (f4a l)) w:=run_bytesToString w ⟨g,0,none⟩ l.length a0 l (by simpa using h6);simp only[execOp,hx,Sem.run_bind,run_convert_bytes_string w src dst el (some ⟨g,0,none⟩) l.length a0 hs b0 ht,h5,Result.andThen_ok,Sem.run_pure]
theorem s6a{src dst:TypeId}{ds:TypeDesc}{kd:IntKind}{a:Int}(hs:P.underlying src=some ds)(ht:P.underlying dst=some (.int .u8))(hx:ev e x=.int kd a)(a0:0≤a∧a≤255)(hd:Nat.ble (d+1) N=true)(h:WL P r N ops rest K D (upd e d (.int .u8 a)) w):
 WL P r N ops (⟨some d,.convert src dst x,t,p,af,none⟩::rest) K D e w :=
 U5b hs ht hx hd (by rw[s6c a a0.1 a0.2];exact h)
end
theorem T2b{α β:Type}{l:List α}{r:List β}{i:Nat}{a:α}{b:β}(h1:l[i]?=some a)(h2:r[i]?=some b):(l.zip r)[i]?=some (a,b):=by
 rw[List.getElem?_zip_eq_some];exact⟨h1,h2⟩
theorem L7c{c:q0a}{b:List E0a}{en:E0a}{k j i:Nat}{n u:Int}(hb:c.buf[k]?=some b)(he:b[j]?=some en)(hn:en.cells[i]?=some n)(hu:en.values[i]?=some u):n∈c.buf.flatMap P2a∧u∈c.buf.flatMap P2a:=by
 have h:∀x,x∈[n,u]→x∈c.buf.flatMap P2a:=fun x hx =>
  List.mem_flatMap.2 ⟨b,List.mem_of_getElem? hb,List.mem_cons_of_mem _ (List.mem_flatMap.2 ⟨en,List.mem_of_getElem? he,List.mem_cons_of_mem _ (List.mem_flatMap.2 ⟨(n,u),List.mem_of_getElem? (T2b hn hu),hx⟩)⟩)⟩
 exact⟨h n (by simp),h u (by simp)⟩
theorem G9c(p:f0a)(hp:d1a p)(c:q0a)(hf:c3a p c)(M:List Nat)(w0:World)(ys:List Value)(hX:t0a M w0 c ys):
 M0a Tryz.prog 112 #[.agg ys.toArray] w0 fun v w'=>(v=.string (c8b c)∧(z8a c).length≤8100)∧Below w0.heap.size w0 w':=by
 obtain⟨Xm,xm,ym,Xa,xa,ya,Xb,xb,yb,rfl,O0,g2,N0,_,_,_,_,_,_⟩:=hX.open_;obtain⟨r1,r2,r3⟩:=L6a hp hf;have n1:=hp.ncells;have n2:=hp.nthreads;have f1:=hf.mem.len;have f2:=hf.nat;have f3:=hf.nbuf;have S:=(St.refl w0).nilEnt 5;refine a0a Tryz.func112 rfl Tryz.ntmps112 rfl ?_;refine wO0 rfl ⟨⟩ (h0a S (by conv=>lhs;whnf) rfl ?_);intro g1 w1 S1 X1 G1;refine lC S1.k [.o 0] rfl ⟨rfl,⟨⟩⟩ (wL (fun μk D ε w=>D=[]∧∃k:Nat,∃G:Option Nat,∃f0:List Value,∃v:Value,∃l:List Int,(k+μk=(c.mem.length))∧(l.length≤k)∧(l=c.mem.take k)∧(U7b w0 G f0 v l)∧St [] w0 w [(some g1,38,[.slice Xm xm ym,.slice Xa xa ya,.slice Xb xb yb]),(G,5,f0)]∧Sl ε [(1,.pointer (some ⟨g1,0,none⟩)),(3,v),(15,.slice Xm xm ym),(16,.int .i64 xm),(17,.int .i64 k)]) (μ:=(c.mem.length)) ⟨rfl,0,none,[],.slice none 0 0,[],by omega,by simp,by simp,B1a.nil,S1,rfl⟩ ?_);rintro μk D ε w ⟨rfl,k,G,f0,v,l,hk,_,hq,b0,S,eZ⟩;refine wK eZ (wB0 rfl ⟨⟩ (fun Y1=>?_) fun Y1=>?_)
 ·obtain⟨n,M1,h2,_,i0,G0,_,_,P0,X0⟩:=RdS.get (O0) (k) (by omega);obtain⟨rfl,_⟩:=id X0;refine lOn 16 (S.k.a P0) [.x M1 h2,.f 0 0] rfl ⟨rfl,⟨G0,by omega⟩,⟨⟩⟩ (Z0a (by conv=>lhs;whnf) rfl ?_);refine lO0 rfl ⟨⟩ (s6a Tryz.underlying3 Tryz.underlying5 rfl (r1 n (c0a i0)) rfl ?_);refine u0a S p5a (vs:=[.int .u8 _]) (cs:=[_]) (by rfl) rfl rfl rfl rfl rfl rfl ?_;intro T2 b3 o1 I2 z2;refine Y0a E0b (k:=2) (M2:=[]) (e1:=n) o1 p5a (by decide) rfl b0 rfl rfl (o1.cells 0 rfl) rfl (by omega) rfl ?_;intro X2 A2 T1 d3 H1 j0 J2 t2;refine P0a (by conv=>lhs;whnf) rfl ?_;refine lP0 rfl ⟨by omega,⟨⟩⟩ ?_;refine⟨μk-1,by omega,rfl,(k+1),(_),(_),(_),(l++[n]),(by omega),(by simp;omega),(by rw[hq,H0a i0]),(j0),H1.tail,rfl⟩
 have W0:l=c.mem:=by rw[hq,List.take_of_length_le (by omega)]
 clear hq;refine lC S.k [.o 0] rfl ⟨rfl,⟨⟩⟩ (wL (fun μk D ε w=>D=[]∧∃k:Nat,∃G:Option Nat,∃f0:List Value,∃v:Value,∃l2:List Int,(k+μk=(c.at_.length))∧(l2.length≤40+k)∧(l2=c.mem++(c.at_.take k).map (fun x=>x+1))∧(U7b w0 G f0 v l2)∧St [] w0 w [(some g1,38,[.slice Xm xm ym,.slice Xa xa ya,.slice Xb xb yb]),(G,5,f0)]∧Sl ε [(1,.pointer (some ⟨g1,0,none⟩)),(3,v),(28,.slice Xa xa ya),(29,.int .i64 xa),(30,.int .i64 k)]) (μ:=(c.at_.length)) ⟨rfl,0,G,f0,v,l,by omega,by omega,by simp[W0],b0,S,rfl⟩ ?_);rintro μk D ε w ⟨rfl,k,G,f0,v,l2,hk,_,hq,b0,S,eZ⟩;refine wK eZ (wB0 rfl ⟨⟩ (fun Z1=>?_) fun Z1=>?_)
 ·obtain⟨n,N1,i2,_,i0,H0,_,_,Q0,Y0⟩:=RdS.get (g2) (k) (by omega);obtain⟨rfl,_⟩:=id Y0;refine lOn 16 (S.k.a Q0) [.x N1 i2,.f 0 0] rfl ⟨rfl,⟨H0,by omega⟩,⟨⟩⟩ (Z0a (by conv=>lhs;whnf) rfl ?_);have W2:=r2 n (c0a i0);refine lO0 rfl ⟨by omega,⟨⟩⟩ (s6a Tryz.underlying3 Tryz.underlying5 rfl (a:=n+1) (by omega) rfl ?_);refine u0a S p5a (vs:=[.int .u8 _]) (cs:=[_]) (by rfl) rfl rfl rfl rfl rfl rfl ?_;intro U2 e3 p1 K2 B2;refine Y0a E0b (k:=2) (M2:=[]) (e1:=n+1) p1 p5a (by decide) rfl b0 rfl rfl (p1.cells 0 rfl) rfl (by omega) rfl ?_;intro Y2 C2 U1 g3 I1 n0 L2 u2;refine P0a (by conv=>lhs;whnf) rfl ?_;refine lP0 rfl ⟨by omega,⟨⟩⟩ ?_;refine⟨μk-1,by omega,rfl,(k+1),(_),(_),(_),(l2++[n+1]),(by omega),(by simp;omega),(by rw[hq,H0a i0];simp),(n0),I1.tail,rfl⟩
 have W0:l2=c.mem++c.at_.map (fun x=>x+1):=by rw[hq,List.take_of_length_le (by omega)]
 clear hq;refine lC S.k [.o 0] rfl ⟨rfl,⟨⟩⟩ (wL (fun μk D ε w=>D=[]∧∃k:Nat,∃G:Option Nat,∃f0:List Value,∃v:Value,∃l3:List Int,(k+μk=(c.buf.length))∧(l3.length≤100+2000*k)∧(l3=c.mem++(c.at_.map (fun x=>x+1)++(c.buf.take k).flatMap P2a))∧(U7b w0 G f0 v l3)∧St [] w0 w [(some g1,38,[.slice Xm xm ym,.slice Xa xa ya,.slice Xb xb yb]),(G,5,f0)]∧Sl ε [(3,v),(42,.slice Xb xb yb),(43,.int .i64 xb),(44,.int .i64 k)]) (μ:=(c.buf.length)) ⟨rfl,0,G,f0,v,l2,by omega,by omega,by simp[W0],b0,S,rfl⟩ ?_);rintro μk D ε w ⟨rfl,k,G,f0,v,l3,hk,_,hq,b0,S,eZ⟩;refine wK eZ (wB0 rfl ⟨⟩ (fun a2=>?_) fun a2=>?_)
 ·obtain⟨b,O1,j2,_,i1,I0,_,_,R0,Z0⟩:=RdS.get (N0) (k) (by omega);obtain⟨s0,a0,u0,rfl,x0,_,_⟩:=F3a.open_ Z0;refine lOn 17 (S.k.a R0) [.x O1 j2,.f 0 0] rfl ⟨rfl,⟨I0,by omega⟩,⟨⟩⟩ (Z0a (by conv=>lhs;whnf) rfl ?_);have q3:=hf.bufs k b i1;refine lO0 rfl ⟨⟩ (s6a Tryz.underlying3 Tryz.underlying5 rfl (a:=(a0:Int)) (by omega) rfl ?_);refine u0a S p5a (vs:=[.int .u8 _]) (cs:=[_]) (by rfl) rfl rfl rfl rfl rfl rfl ?_;intro y1 h3 q1 N2 D2;refine Y0a E0b (k:=2) (M2:=[]) (e1:=(a0:Int)) q1 p5a (by decide) rfl b0 rfl rfl (q1.cells 0 rfl) rfl (by omega) rfl ?_;intro q2 D1 D0 i3 J1 o0 O2 v2;refine P0a (by conv=>lhs;whnf) rfl ?_;refine lC0 rfl ⟨⟩ ?_;refine wL (fun μj D ε w=>D=[]∧∃j:Nat,∃G4:Option Nat,∃B0:List Value,∃v4:Value,∃l4:List Int,(j+μj=(b.length))∧(l4.length≤101+2000*k+65*j)∧(l4=l3++((b.length:Int)::(b.take j).flatMap X4a))∧(U7b w0 G4 B0 v4 l4)∧St [] w0 w [(some y1,5,[.int .u8 (a0:Int)]),(some g1,38,[.slice Xm xm ym,.slice Xa xa ya,.slice Xb xb yb]),(G4,5,B0)]∧Sl ε [(3,v4),(42,.slice Xb xb yb),(43,.int .i64 xb),(44,.int .i64 k),(54,.slice s0 a0 u0),(55,.int .i64 a0),(56,.int .i64 j)]) (μ:=(b.length)) ⟨rfl,0,D1,D0,q2,l3++[(a0:Int)],by omega,by simp;omega,by rw[show(b.length:Int)=a0 by omega];simp,o0,J1,rfl⟩ ?_;rintro μj D ε w ⟨rfl,j,G4,B0,v4,l4,_,_,A1,g0,S,eZ⟩;refine wK eZ (wB0 rfl ⟨⟩ (fun b2=>?_) fun b2=>?_)
  ·obtain⟨en,P1,m2,_,r0,J0,_,V0,S0,a1⟩:=RdS.get (x0) (j) (by omega);obtain⟨t0,d0,v0,A0,m1,F0,rfl,y0,z0,_,_,_,_⟩:=I0a.open_ a1;refine lO (S.k.a S0) [.x P1 m2,.v 0] rfl ⟨⟨rfl,V0⟩,⟨J0,by omega⟩,⟨⟩⟩ (m0a S W7a rfl rfl ?_);intro x1 a3 F1 H2 y2;refine e0a (kk:=0) (vs:=[_,_]) F1 y9a rfl rfl rfl rfl rfl rfl rfl ?_;intro C1 e0 v1;dsimp only[k0a,List.set] at e0;refine lOn 4 e0.k [] rfl ⟨⟩ (Z0a (by conv=>lhs;whnf) rfl ?_);have q4:=q3.2.1 en (c0a r0);have q5:=q4.len;have q6:en.values.length=en.cells.length:=q4.even;refine lO e0.k [.o 0] rfl ⟨rfl,⟨⟩⟩ (s6a Tryz.underlying3 Tryz.underlying5 rfl (a:=(d0:Int)) (by omega) rfl ?_);refine u0a e0 p5a (vs:=[.int .u8 _]) (cs:=[_]) (by rfl) rfl rfl rfl rfl rfl rfl ?_;intro W1 j3 s1 P2 E2;refine Y0a E0b (k:=4) (M2:=[]) (e1:=(d0:Int)) s1 p5a (by decide) rfl g0 rfl rfl (s1.cells 0 rfl) rfl (by omega) rfl ?_;intro s2 E1 E0 m3 t1 p0 Q2 w2;refine P0a (by conv=>lhs;whnf) rfl ?_;refine lC t1.k [.o 1] rfl ⟨rfl,⟨⟩⟩ ?_;refine wL (fun μi D ε w=>D=[]∧∃i:Nat,∃G5:Option Nat,∃C0:List Value,∃v5:Value,∃l5:List Int,(i+μi=(en.cells.length))∧(l5.length≤102+2000*k+65*j+2*i)∧(l5=l4++((en.cells.length:Int)::((en.cells.zip en.values).take i).flatMap fun x=>[x.1,x.2]))∧(U7b w0 G5 C0 v5 l5)∧St [] w0 w [(some W1,5,[.int .u8 (d0:Int)]),(some x1,88,[.slice t0 d0 v0,.slice A0 m1 F0]),(some y1,5,[.int .u8 (a0:Int)]),(some g1,38,[.slice Xm xm ym,.slice Xa xa ya,.slice Xb xb yb]),(G5,5,C0)]∧Sl ε [(3,v5),(11,.pointer (some ⟨x1,0,none⟩)),(42,.slice Xb xb yb),(43,.int .i64 xb),(44,.int .i64 k),(54,.slice s0 a0 u0),(55,.int .i64 a0),(56,.int .i64 j),(68,.slice t0 d0 v0),(69,.int .i64 d0),(70,.int .i64 i)]) (μ:=(en.cells.length)) ⟨rfl,0,E1,E0,s2,l4++[(d0:Int)],by omega,by simp;omega,by rw[show(en.cells.length:Int)=d0 by omega];simp,p0,t1,rfl⟩ ?_;rintro μi D ε w ⟨rfl,i,G5,C0,v5,l5,_,_,B1,h0,S,eZ⟩;refine wK eZ (wB0 rfl ⟨⟩ (fun d2=>?_) fun d2=>?_)
   ·obtain⟨n,Q1,o2,_,i0,K0,_,_,T0,b1⟩:=RdS.get (y0) (i) (by omega);obtain⟨rfl,_⟩:=id b1;refine lOn 18 (S.k.a T0) [.x Q1 o2,.f 0 0] rfl ⟨rfl,⟨K0,by omega⟩,⟨⟩⟩ (Z0a (by conv=>lhs;whnf) rfl ?_);refine lO0 rfl ⟨⟩ ?_;obtain⟨u,j1⟩:∃u,en.values[i]?=some u:=⟨en.values[i]'(by omega),List.getElem?_eq_getElem _⟩;have q7:n∈c.buf.flatMap P2a∧u∈c.buf.flatMap P2a:=L7c i1 r0 i0 j1;have q8:=r3 n q7.1;have q9:=r3 u q7.2;refine s6a Tryz.underlying3 Tryz.underlying5 rfl (a:=n) (by omega) rfl ?_;obtain⟨_,R1,p2,_,h1,L0,_,_,U0,d1⟩:=RdS.get (z0) (i) (by omega);obtain rfl:=Option.some.inj (j1.symm.trans h1);obtain⟨rfl,_⟩:=id d1;refine lO (S.k.a U0) [.o 1,.x R1 p2,.f 0 0] rfl ⟨rfl,⟨L0,by omega⟩,rfl,⟨⟩⟩ (s6a Tryz.underlying3 Tryz.underlying5 rfl (a:=u) (by omega) rfl ?_);refine u0a S p5a (vs:=[.int .u8 _,.int .u8 _]) (cs:=[_,_]) (by rfl) rfl rfl rfl rfl rfl rfl ?_;intro V2 n3 u1 R2 F2;refine t0b E0b (k:=5) (M2:=[]) (e1:=n) (e2:=u) u1 p5a (by decide) rfl h0 rfl rfl (u1.cells 0 rfl) rfl rfl (by omega) rfl ?_;intro Z2 G2 V1 o3 K1 q0 S2 x2;refine P0a (by conv=>lhs;whnf) rfl ?_;refine lP0 rfl ⟨by omega,⟨⟩⟩ ?_;refine⟨μi-1,by omega,rfl,(i+1),(_),(_),(_),(l5++[n,u]),(by omega),(by simp;omega),(by rw[B1,H0a (T2b i0 j1)];simp),(q0),K1.tail,rfl⟩
   refine lP0 rfl ⟨by omega,⟨⟩⟩ ?_;refine⟨μj-1,by omega,rfl,(j+1),(_),(_),(_),(l5),(by omega),(by omega),(by rw[B1,List.take_of_length_le (show(en.cells.zip en.values).length≤i by simp;omega),A1,H0a r0];simp[X4a]),(h0),S.tail.tail,rfl⟩
  refine lP0 rfl ⟨by omega,⟨⟩⟩ ?_;refine⟨μk-1,by omega,rfl,(k+1),(_),(_),(_),(l4),(by omega),(by omega),(by rw[A1,List.take_of_length_le (show b.length≤j by omega),hq,H0a i1];simp[P2a]),(g0),S.tail,rfl⟩
 refine lOn 8 S.k [] rfl ⟨⟩ (Z0a (by conv=>lhs;whnf) rfl ?_);refine g1c S (k:=1) Tryz.underlying84 Tryz.underlying5 Tryz.underlying9 rfl b0 rfl rfl ?_;refine lR0 rfl ⟨⟩ (o0a rfl (by conv=>lhs;whnf) ?_);rw[List.take_of_length_le (by omega)] at hq;have z1:l3=z8a c:=hq;refine⟨⟨?_,?_⟩,S.fin⟩
 ·rw[z1];rfl
 ·rw[←z1];omega
section
variable {P:Program} {r:Option Nat} {N:Nat} {l:List Oper} {D:List Deferred} {C:World→Prop} {K:List Deferred→Env→World→Prop} {pur:Nat→Bool}
def C2b(e:Env)(d:Option Nat)(v:Value):Env:=match d with|some d=>upd e d v|none=>e
def t6b(N:Nat)(o:Oper):Prop:=∀d,o.dst=some d→d<N
theorem s4a{a:Act}(o:Oper)(v:Value)(h:t6b a.tmps.size o):W0a (a.put o.dst v)=C2b (W0a a) o.dst v:=by
 cases hd:o.dst with
 | none=>rfl
 | some d=>exact e1a v (h d hd)
theorem v5a(a:Act)(o:Oper)(v:Value):(a.put o.dst v).tmps.size=a.tmps.size:=by
 cases o.dst<;>simp[Act.put]
theorem N2a(a:Act)(o:Oper)(v:Value):(a.put o.dst v).defers=a.defers:=by
 cases o.dst<;>simp[Act.put]
theorem L8a{e:Env}{o:Oper}{v:Value}(hN:t6b N o)(hz:∀i,N≤i→e i=undef):∀i,N≤i→C2b e o.dst v i=undef:=by
 cases hd:o.dst with
 | none=>exact hz
 | some d=>exact Q1a (hN d hd) hz
theorem N4a{o:Oper}{K1:List Deferred→Env→World→Prop}{e e1:Env}{w:World}(hN:t6b N o)(j0:Op.isSelect o.op=false)(e0:∀c,o.op≠.defer c)(hz:∀i,N≤i→e1 i=undef)
 (b0:∀s∈Oper.looksAt l.toArray o,e s=e1 s) (h:WL P r N l.toArray [o] K1 D e1 w):WL P r N l.toArray [o] (fun D' e' w'=>∃v,e'=C2b e o.dst v∧K1 D' (C2b e1 o.dst v) w') D e w:=by
 unfold WL at *;intro a Q hs hD he hK;obtain⟨a1,i0,h0,f0⟩:=O6a e1 N D hz;have h1:=h a1 (fun ex a' w'=>ex=.normal∧K1 a'.defers (W0a a') w') i0 h0 f0 (fun a' w' _ hk=>⟨rfl,hk⟩);have hw:Region.wanted o (yielded l.toArray a.tmps)=Region.wanted o (yielded l.toArray a1.tmps):=by rw[s1a,s1a,he,f0];exact V0a b0
 have d0:∀(v:Value) (w':World),K1 (a1.put o.dst v).defers (W0a (a1.put o.dst v)) w'→Q .normal (a.put o.dst v) w':=by
  intro v w' hk;rw[s4a o v (by rw[i0];exact hN),f0,N2a,h0] at hk;refine hK _ _ (by rw[v5a,hs]) ⟨v,by rw[s4a o v (by rw[hs];exact hN),he],?_⟩;rw[N2a,hD];exact hk
 simp only[wpListIn] at h1 ⊢;rw[hw]
 split
 ·rename_i o0;simp only[o0,if_true] at h1;refine⟨D0a _ _ _,?_⟩;have h4:=h1.2;have n0:Oper.semAt (fc r).round a.eval o=Oper.semAt (fc r).round a1.eval o:=by
   rw[Oper.semAt_eq _ _ _ e0,Oper.semAt_eq _ _ _ e0,v2a,v2a,he,f0];exact v1a j0 b0
  rw[n0]
  revert h4
  generalize (Oper.semAt (fc r).round a1.eval o).run P w=q0;intro h4;cases q0 with
  | ok x w' =>
    cases x with
    | value v=>simp only[Oper.uponIn] at h4 ⊢;exact d0 v w' h4.2
    | skip=>simp only[Oper.uponIn] at h4 ⊢;exact d0 undef w' h4.2
    | defer dd =>
      simp only[Oper.uponIn] at h4 ⊢;have hk:=h4.2;have p0:W0a ({ a1 with defers:=dd::a1.defers }:Act)=e1:=f0;have ee:W0a ({ a with defers:=dd::a.defers }:Act)=e:=he;rw[s4a (a:={ a1 with defers:=dd::a1.defers }) o undef (by rw[show({ a1 with defers:=dd::a1.defers }:Act).tmps.size=N from i0];exact hN),p0,N2a] at hk;refine hK _ _ (by rw[v5a];exact hs) ⟨undef,by rw[s4a (a:={ a with defers:=dd::a.defers }) o undef (by rw[show({ a with defers:=dd::a.defers }:Act).tmps.size=N from hs];exact hN),ee],?_⟩;rw[N2a];show K1 (dd::a.defers) _ _;rw[hD,←h0];exact hk
    | enter f args =>
      simp only[Oper.uponIn] at h4 ⊢;exact⟨h4.1,CallsIn.mono h4.2 (fun en r0 hh=>by
       cases en
       ·exact d0 _ _ hh.2
       ·exact absurd hh.1 (by simp)
       ·obtain⟨a0,w0,hh⟩:=hh;exact absurd hh.1 (by simp))⟩
    | row s0 args=>simp only[Oper.uponIn] at h4 ⊢;exact⟨h4.1,RowsIn.mono h4.2 (fun _ _ hh=>d0 _ _ hh.2)⟩
    | round l' f tmps g0 body =>
      simp only[Oper.uponIn] at h4 ⊢;exact⟨h4.1,RoundIn.mono h4.2 (fun en r0 hh=>by
       cases en
       ·exact d0 _ _ hh.2
       ·exact absurd hh.1 (by simp)
       ·obtain⟨a0,w0,hh⟩:=hh;exact absurd hh.1 (by simp))⟩
    | _=>simp only[Oper.uponIn] at h4
  | halt x w'=>cases x<;>simp only[Oper.uponIn] at h4 ⊢<;>exact absurd h4.1 (by simp)
 ·rename_i o0;simp only[o0] at h1;exact⟨D0a _ _ _,d0 undef w h1.2.2⟩
theorem M3c{o:Oper}{K1:List Deferred→Env→World→Prop}{e:Env}{w:World}(hN:t6b N o)(hz:∀i,N≤i→e i=undef)
 (h:WL P r N l.toArray [o] K1 D e w):∃D' v w',K1 D' (C2b e o.dst v) w':=by
 unfold WL at h;obtain⟨a1,f0,g0,e0⟩:=O6a e N D hz;have h1:=h a1 (fun ex a' w'=>ex=.normal∧K1 a'.defers (W0a a') w') f0 g0 e0 (fun a' w' _ hk=>⟨rfl,hk⟩);have b0:∀(v:Value) (w':World),K1 (a1.put o.dst v).defers (W0a (a1.put o.dst v)) w'→∃D' v w',K1 D' (C2b e o.dst v) w':=by
  intro v w' hk;rw[s4a o v (by rw[f0];exact hN),e0] at hk;exact⟨_,v,w',hk⟩
 simp only[wpListIn] at h1
 split at h1
 ·have h4:=h1.2
  revert h4
  generalize (Oper.semAt (fc r).round a1.eval o).run P w=h0;intro h4;cases h0 with
  | ok x w' =>
    cases x with
    | value v=>simp only[Oper.uponIn] at h4;exact b0 v w' h4.2
    | skip=>simp only[Oper.uponIn] at h4;exact b0 undef w' h4.2
    | defer dd =>
      simp only[Oper.uponIn] at h4;have hk:=h4.2;rw[s4a (a:={ a1 with defers:=dd::a1.defers }) o undef (by rw[show({ a1 with defers:=dd::a1.defers }:Act).tmps.size=N from f0];exact hN),show W0a ({ a1 with defers:=dd::a1.defers }:Act)=e from e0] at hk;exact⟨_,_,_,hk⟩
    | enter f args =>
      simp only[Oper.uponIn] at h4;obtain⟨en,w2,_,hR,_⟩:=h4.2.2 [] (room_wide _);cases en
      ·exact b0 _ _ hR.2
      ·exact absurd hR.1 (by simp)
      ·obtain⟨a0,w0,hh⟩:=hR;exact absurd hh.1 (by simp)
    | row i0 args =>
      simp only[Oper.uponIn] at h4;obtain⟨v,w2,hR,_⟩:=h4.2 default [] (room_wide _);exact b0 _ _ hR.2
    | round l' f tmps d0 body =>
      simp only[Oper.uponIn] at h4;obtain⟨en,w2,hR,_⟩:=h4.2.2 default [] (room_wide _);cases en
      ·exact b0 _ _ hR.2
      ·exact absurd hR.1 (by simp)
      ·obtain⟨a0,w0,hh⟩:=hR;exact absurd hh.1 (by simp)
    | _=>simp only[Oper.uponIn] at h4
  | halt x w'=>cases x<;>simp only[Oper.uponIn] at h4<;>exact absurd h4.1 (by simp)
 ·exact b0 undef w h1.2.2
def WN(P:Program)(r:Option Nat)(N:Nat)(l:List Oper)(C:World→Prop)(pur:Nat→Bool)(K:List Deferred→Env→World→Prop)(D:List Deferred):List Nat→Env→World→Prop
 | [],e,w=>C w∧K D e w
 | i::rest,e,w=>C w∧∃o,l[i]?=some o∧t6b N o ∧
  ((pur i=true∧∃d v,o.dst=some d∧PV P l C o e v∧WN P r N l C pur K D rest (upd e d v) w) ∨
   (pur i=false∧WL P r N l.toArray [o] (fun D' e' w'=>D'=D∧WN P r N l C pur K D rest e' w') D e w))
theorem WN.inC{a0:List Nat}{e:Env}{w:World}(h:WN P r N l C pur K D a0 e w):C w:=by cases a0<;>exact h.1
def g1b(l:List Oper)(pur:Nat→Bool)(j i:Nat):Bool :=
 match l[j]?,l[i]? with
 | some p,some q=>(pur i||pur j)&&(match p.dst,q.dst with
   | some c,some d=>!(c==d)&&!(Oper.looksAt l.toArray p).contains d&&!(Oper.looksAt l.toArray q).contains c
   | some c,none=>pur j&&!(Oper.looksAt l.toArray q).contains c
   | none,some d=>pur i&&!(Oper.looksAt l.toArray p).contains d
   | _,_=>false)
 | _,_=>false
structure K1d (l:List Oper) (pur:Nat→Bool) (j i:Nat) (o1 o2:Oper):Prop where
 pur:pur i=true∨pur j=true
 dst:∀c d,o1.dst=some c→o2.dst=some d→c≠d
 p:∀d,o2.dst=some d→d∉Oper.looksAt l.toArray o1
 q:∀c,o1.dst=some c→c∉Oper.looksAt l.toArray o2
theorem T9a{j i:Nat}{p q:Oper}(h:g1b l pur j i=true)(hj:l[j]?=some p)(hi:l[i]?=some q):K1d l pur j i p q:=by
 unfold g1b at h;simp only[hj,hi,Bool.and_eq_true,Bool.or_eq_true] at h;obtain⟨h1,h2⟩:=h;cases hc:p.dst with
 | none =>
   cases hd:q.dst with
   | none=>simp[hc,hd] at h2
   | some d =>
     simp only[hc,hd,Bool.and_eq_true,Bool.not_eq_true',List.contains_eq_mem,decide_eq_false_iff_not] at h2;exact⟨h1,fun c d h=>(by rw[hc] at h;cases h),fun x hx=>(by rw[hd] at hx;cases hx;exact h2.2),fun c h=>(by rw[hc] at h;cases h)⟩
 | some c =>
   cases hd:q.dst with
   | none =>
     simp only[hc,hd,Bool.and_eq_true,Bool.not_eq_true',List.contains_eq_mem,decide_eq_false_iff_not] at h2;exact⟨h1,fun c d _ h=>(by rw[hd] at h;cases h),fun d h=>(by rw[hd] at h;cases h),fun x hx=>(by rw[hc] at hx;cases hx;exact h2.2)⟩
   | some d =>
     simp only[hc,hd,Bool.and_eq_true,Bool.not_eq_true',beq_eq_false_iff_ne,List.contains_eq_mem,decide_eq_false_iff_not] at h2;exact⟨h1,fun x y hx hy=>(by rw[hc] at hx;rw[hd] at hy;cases hx;cases hy;exact h2.1.1),fun x hx=>(by rw[hd] at hx;cases hx;exact h2.1.2),fun x hx=>(by rw[hc] at hx;cases hx;exact h2.2)⟩
theorem w8a{e:Env}{o:Oper}{u:Value}{s:Nat}{X:List Nat}(hc:∀c,o.dst=some c→c∉X)(hs:s∈X):C2b e o.dst u s=e s:=by
 cases hd:o.dst with
 | none=>rfl
 | some c=>exact H1a (hc c hd) hs
theorem u4b(e:Env){p q:Oper}(u v:Value)(h:∀c d,p.dst=some c→q.dst=some d→c≠d):C2b (C2b e p.dst u) q.dst v=C2b (C2b e q.dst v) p.dst u:=by
 cases hc:p.dst with
 | none=>rfl
 | some c =>
   cases hd:q.dst with
   | none=>rfl
   | some d=>exact I2a e u v (h c d hc hd)
theorem WN.first(a0:S4a l=true){i:Nat}{i0:List Nat}:∀(f0:List Nat) (e:Env) (w:World),(∀j∈f0,g1b l pur j i=true)→(∀i,N≤i→e i=undef)→WN P r N l C pur K D (f0++i::i0) e w →
 ∃o,l[i]?=some o∧t6b N o ∧
  ((pur i=true∧∃d v,o.dst=some d∧PV P l C o e v∧WN P r N l C pur K D (f0++i0) (upd e d v) w) ∨
   (pur i=false∧WL P r N l.toArray [o] (fun D' e' w'=>D'=D∧∃v,e'=C2b e o.dst v∧WN P r N l C pur K D (f0++i0) e' w') D e w)):=by
 intro f0
 induction f0 with
 | nil =>
   intro e w _ hz h;obtain⟨hC,o,ho,hN,h⟩:=h;refine⟨o,ho,hN,?_⟩;rcases h with h|⟨hp,h⟩
   ·exact .inl h
   ·refine .inr ⟨hp,?_⟩;have h2:=N4a (e:=e) (e1:=e) hN (J0a a0 ho).1 (J0a a0 ho).2 hz (fun _ _=>rfl) h;unfold WL at *;exact fun a Q hs hD he hK=>h2 a Q hs hD he (fun a' w' o0 ⟨v,h1,h3,h4⟩=>hK a' w' o0 ⟨h3,v,h1,by rw[h1];exact h4⟩)
 | cons q f0 ih =>
   intro e w j0 hz h;obtain⟨hC,p,hp,e0,h⟩:=h;have hq:=j0 q (by simp);have b0:∀j∈f0,g1b l pur j i=true:=fun j hj=>j0 j (by simp[hj]);rcases h with⟨n0,c,u,hc,hu,h⟩|⟨n0,h⟩
   ·obtain⟨o,ho,hN,h2⟩:=ih (upd e c u) w b0 (Q1a (e0 c hc) hz) h;have hI:=T9a hq hp ho;refine⟨o,ho,hN,?_⟩;rcases h2 with⟨g0,d,v,hd,hv,h2⟩|⟨g0,h2⟩
    ·refine .inl ⟨g0,d,v,hd,hv.congr (J0a a0 ho).1 (fun s hs=>H1a (hI.q c hc) hs),hC,p,hp,e0,.inl ⟨n0,c,u,hc,hu.congr (J0a a0 hp).1 (fun s hs=>(H1a (hI.p d hd) hs).symm),?_⟩⟩;rw[←I2a _ _ _ (hI.dst c d hc hd)];exact h2
    ·refine .inr ⟨g0,?_⟩;have h3:=N4a (e:=e) (e1:=upd e c u) hN (J0a a0 ho).1 (J0a a0 ho).2 (Q1a (e0 c hc) hz) (fun s hs=>(H1a (hI.q c hc) hs).symm) h2;unfold WL at *;refine fun a Q hs hD he hK=>h3 a Q hs hD he (fun a' w' o0 hh=>hK a' w' o0 ?_);obtain⟨v,h1,h4,_,h5,h6⟩:=hh;refine⟨h4,v,h1,?_⟩;rw[h1];refine⟨h6.inC,p,hp,e0,.inl ⟨n0,c,u,hc,hu.congr (J0a a0 hp).1 (fun s hs=>(w8a hI.p hs).symm),?_⟩⟩;have e1:C2b (upd e c u) o.dst v=upd (C2b e o.dst v) c u:=by
      have:=u4b e (p:=p) (q:=o) u v hI.dst;rw[hc] at this;exact this
     rw[←e1];exact h6
   ·have h0:=N4a (e:=e) (e1:=e) e0 (J0a a0 hp).1 (J0a a0 hp).2 hz (fun _ _=>rfl) h;obtain⟨_,u1,w1,_,t0,_,h1⟩:=M3c e0 hz h0;rw[←t0] at h1;obtain⟨o,ho,hN,h2⟩:=ih (C2b e p.dst u1) w1 b0 (L8a e0 hz) h1;have hI:=T9a hq hp ho;have g0:pur i=true:=by
     rcases hI.pur with h|h
     ·exact h
     ·rw[n0] at h;cases h
    rcases h2 with⟨_,d,v0,hd,x0,_⟩|⟨d0,_⟩
    ·have p0:PV P l C o e v0:=x0.congr (J0a a0 ho).1 (fun s hs=>w8a hI.q hs);refine⟨o,ho,hN,.inl ⟨g0,d,v0,hd,p0,hC,p,hp,e0,.inr ⟨n0,?_⟩⟩⟩;have h3:=N4a (e:=upd e d v0) (e1:=e) e0 (J0a a0 hp).1 (J0a a0 hp).2 hz (fun s hs=>H1a (hI.p d hd) hs) h;unfold WL at *;refine fun a Q hs hD he hK=>h3 a Q hs hD he (fun a' w' o0 hh=>hK a' w' o0 ?_);obtain⟨u,hu,q0,h4⟩:=hh;refine⟨q0,?_⟩;obtain⟨o',s0,_,h5⟩:=ih (C2b e p.dst u) w' b0 (L8a e0 hz) h4;obtain rfl:o'=o:=Option.some.inj (s0.symm.trans ho);rcases h5 with⟨_,d',v,r0,hv,h5⟩|⟨d0,_⟩
     ·obtain rfl:d'=d:=Option.some.inj (r0.symm.trans hd);have u0:PV P l C o' e v:=hv.congr (J0a a0 ho).1 (fun s hs=>w8a hI.q hs);obtain rfl:v=v0:=PV.uniq hC u0 p0;have e1:upd (C2b e p.dst u) d' v=C2b (upd e d' v) p.dst u:=by
       have:=u4b e (p:=p) (q:=o') u v hI.dst;rw[hd] at this;exact this
      rw[hu,←e1];exact h5
     ·rw[g0] at d0;cases d0
    ·rw[g0] at d0;cases d0
def o6b(l:List Oper)(pur:Nat→Bool)(x y:Nat):List Nat→List Nat→Bool
 | _,[]=>true
 | acc,i::rest=>(acc.all fun j=>(j4a l i).contains j||g1b l pur j i||(j==x&&i==y))&&o6b l pur x y (acc++[i]) rest
theorem s1b{x y:Nat}:∀(ix acc:List Nat),o6b l pur x y acc ix=true→∀(b0:List Nat) (i:Nat) (a0:List Nat),ix=b0++i::a0→∀j∈acc++b0,j∈j4a l i∨g1b l pur j i=true∨(j=x∧i=y)
 | [],_,_,b0,i,a0,h=>by simp at h
 | k::ix,acc,h,b0,i,a0,he=>by
   simp only[o6b,Bool.and_eq_true] at h;cases b0 with
   | nil =>
     simp at he;obtain⟨rfl,-⟩:=he;intro j hj;rw[List.append_nil] at hj;have:=List.all_eq_true.1 h.1 j hj;simp only[Bool.or_eq_true,List.contains_eq_mem,decide_eq_true_eq,Bool.and_eq_true,beq_iff_eq] at this;rcases this with(h|h)|h
     ·exact .inl h
     ·exact .inr (.inl h)
     ·exact .inr (.inr h)
   | cons q b0 =>
     simp at he;obtain⟨rfl,he⟩:=he;intro j hj;exact s1b ix (acc++[k]) h.2 b0 i a0 he j (by simpa using hj)
def Y5a(ix:List Nat)(f:Nat→Bool):List Nat:=ix.filter fun i=>!f i
theorem P7b{ix:List Nat}(d0:ix.Nodup)(f:Nat→Bool){i:Nat}(hi:i∈ix)(hf:f i=false):∃b0 a0 P Q,ix=P++i::Q∧Y5a ix f=b0++i::a0∧Y5a ix (fun j=>f j||j==i)=b0++a0∧∀j∈b0,j∈P∧f j=false:=by
 obtain⟨P,Q,rfl⟩:=List.append_of_mem hi;rw[List.nodup_append] at d0;obtain⟨_,h2,h3⟩:=d0;rw[List.nodup_cons] at h2;refine⟨P.filter fun j=>!f j,Q.filter fun j=>!f j,P,Q,rfl,?_,?_,?_⟩
 ·unfold Y5a;rw[List.filter_append,List.filter_cons];simp[hf]
 ·unfold Y5a;rw[List.filter_append,List.filter_cons];simp only[beq_self_eq_true,Bool.or_true,Bool.not_true,Bool.false_eq_true,if_false]
  congr 1
  ·apply List.filter_congr;intro j hj;have:(j==i)=false:=by simp;exact fun e=>h3 j hj i (by simp) e
   simp[this]
  ·apply List.filter_congr;intro j hj;have:(j==i)=false:=by simp;exact fun e=>h2.1 (e▸hj)
   simp[this]
 ·intro j hj;rw[List.mem_filter] at hj;exact⟨hj.1,by simpa using hj.2⟩
def O6b:List Nat→Bool
 | []=>true
 | x::l=>!l.contains x&&O6b l
theorem e0b:∀{l:List Nat},O6b l=true→l.Nodup
 | [],_=>List.nodup_nil
 | x::l,h=>by
   simp only[O6b,Bool.and_eq_true,Bool.not_eq_true',List.contains_eq_mem,decide_eq_false_iff_not] at h;exact List.nodup_cons.2 ⟨h.1,e0b h.2⟩
def W5c(n:Nat)(ix:List Nat):Bool:=O6b ix&&(List.range n).all (fun i=>ix.contains i)&&ix.all (fun i=>decide (i<n))
def n9c(l:List Oper)(pur:Nat→Bool)(a c:Nat)(ixA ixB:List Nat):Bool :=
 S4a l&&((List.range l.length).all fun i=>(m1a l i).all fun j=>decide (j<i))&&W5c l.length ixA&&W5c l.length ixB&&o6b l pur a c [] ixA&&o6b l pur c a [] ixB &&
 ((List.range l.length).all fun i=>pur i||i==a||i==c||((j4a l i).contains a&&(j4a l i).contains c))&&!(a==c)&&!pur a&&!pur c
theorem WN.step{ix:List Nat}{x y:Nat}(g0:S4a l=true)(d0:ix.Nodup)(f0:o6b l pur x y [] ix=true){f:Nat→Bool}(a0:∀i,f i=true→∀j∈m1a l i,f j=true){i:Nat}{o:Oper}(hi:i∈ix)(ho:l[i]?=some o)(b0:f i=false)
 (h0:∀j∈m1a l i,f j=true) (j0:i=y→f x=true) {e:Env} {w:World} (hz:∀i,N≤i→e i=undef) (h:WN P r N l C pur K D (Y5a ix f) e w) :
 t6b N o∧((pur i=true∧∃d v,o.dst=some d∧PV P l C o e v∧WN P r N l C pur K D (Y5a ix (fun j=>f j||j==i)) (upd e d v) w) ∨
  (pur i=false∧WL P r N l.toArray [o] (fun D' e' w'=>D'=D∧∃v,e'=C2b e o.dst v∧WN P r N l C pur K D (Y5a ix (fun j=>f j||j==i)) e' w') D e w)):=by
 obtain⟨n0,_,A,B,h1,h2,h3,h4⟩:=P7b d0 f hi b0;rw[h2] at h;have i0:∀j∈j4a l i,f j=true:=v3a a0 _ _ h0;obtain⟨o',e0,hN,h5⟩:=WN.first g0 n0 e w (fun j hj=>by
  obtain⟨h6,h7⟩:=h4 j hj;rcases s1b ix [] f0 A i B h1 j (by simpa using h6) with h|h|⟨h,h'⟩
  ·have:=i0 j h;rw[h7] at this;cases this
  ·exact h
  ·subst h;have:=j0 h';rw[h7] at this;cases this) hz h
 obtain rfl:o'=o:=Option.some.inj (e0.symm.trans ho);rw[h3];exact⟨hN,h5⟩
theorem E9c{id:Nat}{n t:List Deferred→Env→World→Prop}{b:Nat→List Deferred→Env→World→Prop}{e:Env}{w:World}(hm:P.follows .mixedOrders=true)(pur:Nat→Bool)(a c:Nat)(a0 b0:List Nat)
 (F0:n9c l pur a c a0 b0=true) (C:World→Prop) (hA:WN P r N l C pur n D a0 e w.drew) (hB:WN P r N l C pur n D b0 e w.drew):W P r N (.region id l.toArray true) ⟨n,b,t⟩ D e w:=by
 unfold n9c W5c at F0;simp only[Bool.and_eq_true,Bool.not_eq_true',beq_eq_false_iff_ne] at F0;obtain⟨⟨⟨⟨⟨⟨⟨⟨⟨u0,I0⟩,⟨e0,N0⟩,J0⟩,⟨f0,O0⟩,K0⟩,D0⟩,E0⟩,P0⟩,R0⟩,_⟩,_⟩:=F0;have e0:=e0b e0;have f0:=e0b f0;have G0:∀i,i<l.length→i∈a0:=fun i hi=>by simpa using List.all_eq_true.1 N0 i (List.mem_range.2 hi)
 have inB:∀i,i<l.length→i∈b0:=fun i hi=>by simpa using List.all_eq_true.1 O0 i (List.mem_range.2 hi)
 have hz:(∀i,N≤i→e i=undef)→W P r N (.region id l.toArray true) ⟨n,b,t⟩ D e w:=by
  intro hz;refine H8b hm I0 (fun f e w=>(∀i,N≤i→e i=undef)∧(∀i,f i=true→∀j∈m1a l i,f j=true) ∧
   ((f a=false∧f c=false∧WN P r N l C pur n D (Y5a a0 f) e w∧WN P r N l C pur n D (Y5a b0 f) e w)∨(f a=true∧WN P r N l C pur n D (Y5a a0 f) e w)∨(f c=true∧WN P r N l C pur n D (Y5a b0 f) e w))) ⟨hz,by simp,.inl ⟨rfl,rfl,?_,?_⟩⟩ ?_ ?_
  ·have:Y5a a0 (fun _=>false)=a0:=by unfold Y5a;simp
   rw[this];exact hA
  ·have:Y5a b0 (fun _=>false)=b0:=by unfold Y5a;simp
   rw[this];exact hB
  ·rintro f e w i o ⟨hz,j0,hM⟩ ho C0 v0;have g0:i<l.length:=(List.getElem?_eq_some_iff.1 ho).1;have d0:∀k,(f k||k==i)=true→∀j∈m1a l k,(f j||j==i)=true:=by
    intro k hk j hj;simp only[Bool.or_eq_true,beq_iff_eq] at hk ⊢;rcases hk with hk|rfl
    ·exact .inl (j0 k hk j hj)
    ·exact .inl (v0 j hj)
   have V0:∀j∈j4a l i,f j=true:=v3a j0 _ _ v0;have one:∀(ix:List Nat) (x y:Nat) (J:(Nat→Bool)→Env→World→Prop),ix.Nodup→i∈ix→o6b l pur x y [] ix=true→(i=y→f x=true)→WN P r N l C pur n D (Y5a ix f) e w →
    (∀e' w',WN P r N l C pur n D (Y5a ix (fun j=>f j||j==i)) e' w'→J (fun j=>f j||j==i) e' w') →
    WL P r N l.toArray [o] (fun D' e' w'=>D'=D∧(∀i,N≤i→e' i=undef)∧(∀k,(f k||k==i)=true→∀j∈m1a l k,(f j||j==i)=true)∧J (fun j=>f j||j==i) e' w') D e w:=by
    intro ix x y J Q0 hi S0 W0 hw hJ;obtain⟨hN,h5⟩:=WN.step u0 Q0 S0 j0 hi ho C0 v0 W0 hz hw;have x0:=hw.inC;rcases h5 with⟨B0,d,v,hd,hv,h5⟩|⟨B0,h5⟩
    ·rcases hv with⟨i0,hv⟩|⟨i0,rfl⟩
     ·unfold WL;intro a Q hs hD he hK;simp only[wpListIn];have h0:Region.wanted o (yielded l.toArray a.tmps)=true:=by rw[s1a,he];exact i0
      simp only[h0,if_true];refine⟨D0a _ _ _,?_⟩;rw[Oper.semAt_eq _ _ _ (J0a u0 ho).2,v2a,he,hv w x0,Oper.uponIn_value];refine hK _ _ (by rw[v5a,hs]) ⟨by rw[N2a,hD],?_⟩;rw[hd,e1a v (by rw[hs];exact hN d hd),he];exact⟨Q1a (hN d hd) hz,d0,hJ _ _ h5⟩
     ·unfold WL;intro a Q hs hD he hK;simp only[wpListIn];have h0:Region.wanted o (yielded l.toArray a.tmps)=false:=by rw[s1a,he];exact i0
      simp only[h0];refine⟨D0a _ _ _,?_⟩;refine hK _ _ (by rw[v5a,hs]) ⟨by rw[N2a,hD],?_⟩;rw[hd,e1a undef (by rw[hs];exact hN d hd),he];exact⟨Q1a (hN d hd) hz,d0,hJ _ _ h5⟩
    ·unfold WL at *;refine fun a Q hs hD he hK=>h5 a Q hs hD he (fun a' w' T0 hh=>hK a' w' T0 ?_);obtain⟨H0,v,hv,h6⟩:=hh;exact⟨H0,by rw[hv];exact L8a hN hz,d0,hJ _ _ h6⟩
   rcases hM with⟨q0,z0,o0,y0⟩|⟨q0,o0⟩|⟨z0,y0⟩
   ·by_cases n0:i=a
    ·exact one a0 a c (fun f e w=>(f a=false∧f c=false∧WN P r N l C pur n D (Y5a a0 f) e w∧WN P r N l C pur n D (Y5a b0 f) e w)∨(f a=true∧WN P r N l C pur n D (Y5a a0 f) e w)∨(f c=true∧WN P r N l C pur n D (Y5a b0 f) e w)) e0 (G0 i g0) D0 (fun h=>absurd (n0.symm.trans h) R0) o0 (fun e' w' h=>.inr (.inl ⟨by simp[n0],h⟩))
    by_cases A0:i=c
    ·exact one b0 c a (fun f e w=>(f a=false∧f c=false∧WN P r N l C pur n D (Y5a a0 f) e w∧WN P r N l C pur n D (Y5a b0 f) e w)∨(f a=true∧WN P r N l C pur n D (Y5a a0 f) e w)∨(f c=true∧WN P r N l C pur n D (Y5a b0 f) e w)) f0 (inB i g0) E0 (fun h=>absurd h n0) y0 (fun e' w' h=>.inr (.inr ⟨by simp[A0],h⟩))
    have B0:pur i=true:=by
     have:=List.all_eq_true.1 P0 i (List.mem_range.2 g0);simp only[Bool.or_eq_true,beq_iff_eq,n0,A0,or_false,Bool.and_eq_true,List.contains_eq_mem,decide_eq_true_eq] at this;rcases this with h|h
     ·exact h
     ·have:=V0 a h.1;rw[q0] at this;cases this
    obtain⟨hN,h5⟩:=WN.step u0 e0 D0 j0 (G0 i g0) ho C0 v0 (fun h=>absurd h A0) hz o0;obtain⟨-,h6⟩:=WN.step u0 f0 E0 j0 (inB i g0) ho C0 v0 (fun h=>absurd h n0) hz y0;have x0:=o0.inC;rcases h5 with⟨_,d,v,hd,hv,h5⟩|⟨t0,_⟩
    rotate_left
    ·rw[B0] at t0;cases t0
    rcases h6 with⟨_,d',v',L0,U0,h6⟩|⟨t0,_⟩
    rotate_left
    ·rw[B0] at t0;cases t0
    obtain rfl:d'=d:=Option.some.inj (L0.symm.trans hd);obtain rfl:v'=v:=PV.uniq x0 U0 hv;have r0:(f a||a==i)=false:=by simp[q0];exact fun e=>n0 e.symm
    have s0:(f c||c==i)=false:=by simp[z0];exact fun e=>A0 e.symm
    rcases hv with⟨i0,hv⟩|⟨i0,rfl⟩
    ·unfold WL;intro a Q hs hD he hK;simp only[wpListIn];have h0:Region.wanted o (yielded l.toArray a.tmps)=true:=by rw[s1a,he];exact i0
     simp only[h0,if_true];refine⟨D0a _ _ _,?_⟩;rw[Oper.semAt_eq _ _ _ (J0a u0 ho).2,v2a,he,hv w x0,Oper.uponIn_value];refine hK _ _ (by rw[v5a,hs]) ⟨by rw[N2a,hD],?_⟩;rw[hd,e1a v' (by rw[hs];exact hN d' hd),he];exact⟨Q1a (hN d' hd) hz,d0,.inl ⟨r0,s0,h5,h6⟩⟩
    ·unfold WL;intro a Q hs hD he hK;simp only[wpListIn];have h0:Region.wanted o (yielded l.toArray a.tmps)=false:=by rw[s1a,he];exact i0
     simp only[h0];refine⟨D0a _ _ _,?_⟩;refine hK _ _ (by rw[v5a,hs]) ⟨by rw[N2a,hD],?_⟩;rw[hd,e1a undef (by rw[hs];exact hN d' hd),he];exact⟨Q1a (hN d' hd) hz,d0,.inl ⟨r0,s0,h5,h6⟩⟩
   ·exact one a0 a c (fun f e w=>(f a=false∧f c=false∧WN P r N l C pur n D (Y5a a0 f) e w∧WN P r N l C pur n D (Y5a b0 f) e w)∨(f a=true∧WN P r N l C pur n D (Y5a a0 f) e w)∨(f c=true∧WN P r N l C pur n D (Y5a b0 f) e w)) e0 (G0 i g0) D0 (fun _=>q0) o0 (fun e' w' h=>.inr (.inl ⟨by simp[q0],h⟩))
   ·exact one b0 c a (fun f e w=>(f a=false∧f c=false∧WN P r N l C pur n D (Y5a a0 f) e w∧WN P r N l C pur n D (Y5a b0 f) e w)∨(f a=true∧WN P r N l C pur n D (Y5a a0 f) e w)∨(f c=true∧WN P r N l C pur n D (Y5a b0 f) e w)) f0 (inB i g0) E0 (fun _=>z0) y0 (fun e' w' h=>.inr (.inr ⟨by simp[z0],h⟩))
  ·rintro f e w ⟨hz,j0,hM⟩ p0;have rA:Y5a a0 f=[]:=by
    unfold Y5a;rw[List.filter_eq_nil_iff];intro j hj;simp[p0 j (by simpa using List.all_eq_true.1 J0 j hj)]
   have rB:Y5a b0 f=[]:=by
    unfold Y5a;rw[List.filter_eq_nil_iff];intro j hj;simp[p0 j (by simpa using List.all_eq_true.1 K0 j hj)]
   rw[rA,rB] at hM;rcases hM with⟨_,_,h,_⟩|⟨_,h⟩|⟨_,h⟩
   ·exact h.2
   ·exact h.2
   ·exact h.2
 unfold W at *;intro a hs hd he;refine hz (fun i hi=>?_) a hs hd he;rw[←he];simp only[W0a,Array.getD_eq_getD_getElem?];rw[Array.getElem?_eq_none (by omega)];rfl
variable {e:Env} {w:World}
theorem M6b(hC:C w)(h:K D e w):WN P r N l C pur K D [] e w:=⟨hC,h⟩
theorem b4a{i:Nat}{rest:List Nat}{o:Oper}(hC:C w)(ho:l[i]?=some o)(hp:pur i=true)(hv:E2c o.op=true)(h:QL P N l.toArray C [o] (fun e'=>WN P r N l C pur K D rest e' w) e):WN P r N l C pur K D (i::rest) e w:=by
 unfold QL at h;obtain⟨pa,hl,hq,hk⟩:=h;obtain⟨d,v,h1,h2,h3,h4⟩:=hq 0 o rfl;obtain rfl:pa=[(d,v)]:=by
  match pa,hl,h1 with
  | [x],_,h1=>simpa using h1
 refine⟨hC,o,ho,fun d' a0=>by rw[h2] at a0;cases a0;exact h3,.inl ⟨hp,d,v,h2,?_,hk⟩⟩;rcases h4 with⟨h5,h6⟩|h5
 ·refine .inl ⟨h5,fun w hw=>?_⟩;rcases h6 w hw with h7|⟨f,args,h7,_⟩
  ·exact h7
  ·obtain⟨_,b0⟩:=j7a hv h7;cases b0
 ·exact .inr h5
theorem o7b{i:Nat}{rest:List Nat}{o:Oper}(hC:C w)(ho:l[i]?=some o)(hp:pur i=false)(hN:(o.dst.all fun d=>Nat.ble (d+1) N)=true)
 (h:WL P r N l.toArray [o] (fun D' e' w'=>D'=D∧WN P r N l C pur K D rest e' w') D e w):WN P r N l C pur K D (i::rest) e w :=
 ⟨hC,o,ho,fun d hd=>by rw[hd] at hN;exact Nat.le_of_ble_eq_true (by simpa using hN),.inr ⟨hp,h⟩⟩
end
def g6a(M:List Nat)(w:World)(cs:List Value)(x:K2a):Prop:=∃ys,cs=ys++[.int .i64 x.frm,.int .i64 x.ch.thread,.int .i64 x.ch.step,.int .i64 x.ch.cell]∧t0a M w x.conf ys∧i64 x.frm∧M1a [.int .i64 x.ch.thread,.int .i64 x.ch.step,.int .i64 x.ch.cell] x.ch
theorem g6a.open_{M:List Nat}{w:World}{cs:List Value}{x:K2a}(h:g6a M w cs x):∃Am nm cm Aa na ca Ab nb cb,cs=[.slice Am nm cm,.slice Aa na ca,.slice Ab nb cb,.int .i64 x.frm,.int .i64 x.ch.thread,.int .i64 x.ch.step,.int .i64 x.ch.cell]∧t0a M w x.conf [.slice Am nm cm,.slice Aa na ca,.slice Ab nb cb]∧i64 x.frm∧M1a [.int .i64 x.ch.thread,.int .i64 x.ch.step,.int .i64 x.ch.cell] x.ch:=by
 obtain⟨_,rfl,h1,h2,h3⟩:=h;obtain⟨Am,nm,cm,Aa,na,ca,Ab,nb,cb,rfl,-⟩:=h1.open_;exact⟨Am,nm,cm,Aa,na,ca,Ab,nb,cb,rfl,h1,h2,h3⟩
theorem g6a.keep{M:List Nat}{w w':World}{cs:List Value}{x:K2a}(hk:y0a M w w')(h:g6a M w cs x):g6a M w' cs x:=by
 obtain⟨ys,h0,h1,h2⟩:=h;exact⟨ys,h0,h1.keep hk,h2⟩
theorem g6a.more{M M':List Nat}{w:World}{cs:List Value}{x:K2a}(hM:∀g∈M',g∈M∨w.heap.size≤g)(h:g6a M w cs x):g6a M' w cs x:=by
 obtain⟨ys,h0,h1,h2⟩:=h;exact⟨ys,h0,h1.more hM,h2⟩
theorem W2b:R5a g6a 7 where
 len h:=by
  obtain⟨Am,nm,cm,Aa,na,ca,Ab,nb,cb,rfl,-⟩:=h.open_;rfl
 one h u hu:=by
  obtain⟨Am,nm,cm,Aa,na,ca,Ab,nb,cb,rfl,-⟩:=h.open_;simp at hu;rcases hu with rfl|rfl|rfl|rfl|rfl|rfl|rfl<;>rfl
 keep hk h:=h.keep hk
 more hM h:=h.more hM
theorem c6a(ns:List Int):(f4a ns).size=ns.length:=by
 show(ns.foldl (fun r n=>r.push (UInt8.ofNat n.toNat)) ByteArray.empty).data.size=_
 rw[←Array.length_toList,P4a,List.length_append,List.length_map];exact Nat.zero_add _
def Z5b(V:List K2a):List (Value×Value):=V.map fun x=>(.string (c8b x.conf),.bool true)
theorem D8b(V:List K2a)(x:K2a):Z5b (V++[x])=Z5b V++[(.string (c8b x.conf),.bool true)]:=by simp[Z5b]
theorem V7b{V:List K2a}{k v:Value}(h:(k,v)∈Z5b V):v=.bool true:=by
 obtain⟨_,_,he⟩:=List.mem_map.1 h;exact(Prod.mk.inj he).2.symm
theorem O7b{p:f0a}{V:List K2a}{x:K2a}(hp:d1a p)(hV:∀y∈V,c3a p y.conf)(hx:c3a p x.conf){v:Value}(h:(Value.string (c8b x.conf),v)∈Z5b V):M2a V x=V:=by
 obtain⟨y,hy,he⟩:=List.mem_map.1 h;have h1:c8b y.conf=c8b x.conf:=by injection (Prod.mk.inj he).1
 unfold M2a;rw[if_pos];exact List.mem_map.2 ⟨y,hy,Z3c hp (hV y hy) hx h1⟩
theorem h8b{V:List K2a}{x:K2a}(h:∀y∈Z5b V,y.1≠Value.string (c8b x.conf)):M2a V x=V++[x]:=by
 unfold M2a;rw[if_neg];intro hh;obtain⟨y,hy,he⟩:=List.mem_map.1 hh;refine h _ (List.mem_map.2 ⟨y,hy,rfl⟩) ?_;show Value.string (c8b y.conf)=_;rw[he]
theorem St.base(M:List Nat)(w:World):St M w w []:=⟨F0a.refl _ _,by simp,by simp⟩
theorem St.pushO{M:List Nat}{w0 w:World}{L:List Ent}(S:St M w0 w L){G:Option Nat}{t:TypeId}{cs:List Value}(h0:G=none→cs=[])(hg:∀g,G=some g→p0a w (g,t,cs))(hM:∀g,G=some g→g∈M)(a0:∀g,G=some g→∀b∈L,b.1≠some g):St M w0 w ((G,t,cs)::L):=by
 cases G with
 | none=>rw[h0 rfl];exact S.nilEnt t
 | some g=>exact S.push (hg g rfl) (.inr (hM g rfl)) (a0 g rfl)
theorem B1a.grow{α:Type}{R:List Nat→World→List Value→α→Prop}{size:Nat}(hL:R5a R size){M M' Bs:List Nat}{w w':World}{G:Option Nat}{cs:List Value}{v:Value}{l:List α}(h:B1a R size M w G cs v l)(hk:y0a Bs w w')(hB:∀g∈Bs,g∈G.toList++M)(hM:∀g∈M',g∈G.toList++M∨w.heap.size≤g):B1a R size M' w' G cs v l:=by
 obtain⟨css,q1,q2,q3,q4⟩:=h;refine⟨css,q1,q2,q3,fun i x hi=>?_⟩;obtain⟨c,h5,h6⟩:=q4 i x hi;refine⟨c,h5,?_⟩;have h7:R (Bs++(G.toList++M')) w c x:=hL.more (fun g hg=>by
  rcases List.mem_append.1 hg with hg|hg
  ·exact .inl (hB g hg)
  ·rcases List.mem_append.1 hg with hg|hg
   ·exact .inl (List.mem_append_left _ hg)
   ·exact hM g hg) h6
 exact hL.more (fun g hg=>.inl (List.mem_append_right _ hg)) (hL.keep (hk.mono (fun g hg=>List.mem_append_left _ hg)) h7)
theorem x1a{M:List Nat}{w w':World}{b:Blk}(hk:y0a M w w')(hm:b.1∉M)(h:p0a w b):p0a w' b:=by
 have:=h.lt;unfold p0a at *;rw[hk.same _ this hm];exact h
theorem o2b{α:Type}{R:List Nat→World→List Value→α→Prop}{size:Nat}{M:List Nat}{w:World}{cs:List Value}{v:Value}{l:List α}(h:B1a R size M w none cs v l):l=[]:=by
 obtain⟨_,_,_,⟨_,hr⟩,_⟩:=h;rcases hr with⟨_,_,h0⟩|⟨g,a0,hg,_⟩
 ·exact List.length_eq_zero_iff.1 h0
 ·cases hg
theorem F0a.nilK{M:List Nat}{w w':World}(h:F0a M w w')(k:y0a [] w w'):F0a [] w w':=⟨h.os,h.tape,h.output,h.size,k.same⟩
theorem B1a.rdG{α:Type}{R:List Nat→World→List Value→α→Prop}{size:Nat}{M M':List Nat}{w0 w:World}{L:List Ent}{k el:Nat}{G:Option Nat}{cs:List Value}{v:Value}{l:List α}(h:B1a R size M w G cs v l)(S:St M' w0 w L)(hk:L[k]?=some (G,el,cs))(hM:∀g,G=some g→g∉M)(hl:l.length≤1000000):RdS M w size (R (G.toList++M) w) v l:=by
 obtain⟨css,h1,h2,⟨_,hr⟩,h4⟩:=h;rcases hr with⟨rfl,rfl,h0⟩|⟨g,b0,rfl,rfl,q1,q2,q3,q4⟩
 ·exact⟨none,0,0,rfl,by omega,by omega,by unfold maxLen;omega,by omega,fun h=>absurd h (by omega)⟩
 ·refine⟨_,_,_,rfl,rfl,q1,q2,by omega,fun _=>⟨g,0,rfl,hM g rfl,fun i x hi=>?_⟩⟩;obtain⟨c,h5,h6⟩:=h4 i x hi;refine⟨c,h2 c (List.mem_of_getElem? h5),fun j u hj=>?_,h6⟩;have hf:=z0c css i c h2 h5 j u hj;have a0:i*size+j<l.length*size:=by
   have:=(List.getElem?_eq_some_iff.1 hf).1;rw[u3a css h2,h1] at this;exact this
  rw[←q4,List.getElem?_take,if_pos a0] at hf;have:=S.cell k hk hf;simpa using this
theorem a6a{w:World}{g g' t t':Nat}{cs a0:List Value}(h:p0a w (g,t,cs))(h':p0a w (g',t',a0))(ht:t≠t'):g≠g':=by
 rintro rfl;unfold p0a at h h';rw[h] at h';simp only[Option.some.injEq] at h';cases h';exact ht rfl
structure P8b (m:Int) (gseen gmap gP gY gS l:Nat) (c0 c1 c2 c3:Value) (Bs M0:List Nat) (w:World) (V:List K2a) (G:Option Nat) (cs:List Value) (v:Value):Prop where
 seen:p0a w (gseen,169,[.map (some gmap)])
 map:B3a Tryz.prog 9 w gmap (Z5b V)
 ptr:p0a w (gP,77,[.pointer (some ⟨gS,0,none⟩)])
 yld:p0a w (gY,168,[.func (.yield l) #[] #[]])
 blk:p0a w (gS,80,[c0,c1,c2,c3,.int .i64 m,v])
 row:B1a g6a 7 (gS::gmap::(Bs++M0)) w G cs v V
 rown:G=none→cs=[]
 rowb:∀g,G=some g→p0a w (g,133,cs)
 ne:∀g∈[gseen,gmap,gP,gY,gS]++G.toList,g∉Bs
section
variable {m:Int} {gseen gmap gP gY gS l:Nat} {c0 c1 c2 c3:Value} {Bs M0:List Nat} {w:World} {V:List K2a} {G:Option Nat} {cs:List Value} {v:Value}
theorem P8b.st(h:P8b m gseen gmap gP gY gS l c0 c1 c2 c3 Bs M0 w V G cs v):St (gS::gmap::G.toList) w w [(some gS,80,[c0,c1,c2,c3,.int .i64 m,v]),(G,133,cs)] :=
 ((St.base _ w).pushO h.rown h.rowb (fun g hg=>by rw[hg];simp) (fun g hg b hb=>by simp at hb)).push h.blk (.inr (by simp)) (fun b hb he=>by
   simp only[List.mem_singleton] at hb;subst hb;exact a6a (h.rowb gS he) h.blk (by decide) rfl)
theorem P8b.lt(h:P8b m gseen gmap gP gY gS l c0 c1 c2 c3 Bs M0 w V G cs v):∀g∈[gseen,gmap,gP,gY,gS]++G.toList,g<w.heap.size:=by
 intro g hg;simp only[List.mem_append,List.mem_cons,List.not_mem_nil,or_false,Option.mem_toList] at hg;rcases hg with(rfl|rfl|rfl|rfl|rfl)|hg
 ·exact h.seen.lt
 ·exact h.map.lt
 ·exact h.ptr.lt
 ·exact h.yld.lt
 ·exact h.blk.lt
 ·exact(h.rowb g hg).lt
theorem P8b.keep(h:P8b m gseen gmap gP gY gS l c0 c1 c2 c3 Bs M0 w V G cs v){a0:List Nat}{w':World}(hk:y0a Bs w w')(hB:∀g∈a0,g∈Bs∨w.heap.size≤g):P8b m gseen gmap gP gY gS l c0 c1 c2 c3 a0 M0 w' V G cs v where
 seen:=x1a hk (h.ne _ (by simp)) h.seen
 map:=h.map.keep hk (h.ne _ (by simp))
 ptr:=x1a hk (h.ne _ (by simp)) h.ptr
 yld:=x1a hk (h.ne _ (by simp)) h.yld
 blk:=x1a hk (h.ne _ (by simp)) h.blk
 row:=h.row.grow W2b hk (fun g hg=>by simp[hg]) (fun g hg=>by
  simp only[List.mem_cons,List.mem_append] at hg ⊢;rcases hg with rfl|rfl|hg|hg
  ·simp
  ·simp
  ·rcases hB g hg with h1|h1
   ·simp[h1]
   ·exact .inr h1
  ·simp[hg])
 rown:=h.rown
 rowb:=fun g hg=>x1a hk (h.ne _ (by simp[hg])) (h.rowb g hg)
 ne:=fun g hg hh=>by
  rcases hB g hh with h1|h1
  ·exact h.ne g hg h1
  ·have:=h.lt g hg;omega
end
structure a9b (p:f0a) (m:Int) (l gS:Nat) (c0 c1 c2 c3:Value) (B:Nat) (M0:List Nat) (wb:World) (J:Nat→List Nat→List Nat→World→Prop) (Q:World→Prop):Prop where
 own:∀k Bs Ts Ts' w w',J k Bs Ts w→(∀g∈Ts,g∉Bs∧(g=gS∨wb.heap.size≤g))→(∀g∈Ts',g∈Ts∨w.heap.size≤g)→F0a Ts w w'→J k Bs Ts' w'
 lt:∀k Bs Ts w,J k Bs Ts w→∀g∈Bs,g<w.heap.size
 each:∀k Bs Ts w V v,J k Bs Ts w→(∀g∈Ts,g∉Bs∧(g=gS∨wb.heap.size≤g))→(∀g∈Ts,g<w.heap.size)→X3a p m V→V.length=k+1→p0a w (gS,80,[c0,c1,c2,c3,.int .i64 m,v])→gS∉Bs→RdS (Bs++M0) w 7 (g6a (Ts++(Bs++M0)) w) v V→wb.heap.size≤w.heap.size →
  Yld Tryz.prog l #[.int .i64 k] w fun r w'=>(r=.bool true∧k<B∧∃Bs',J (k+1) Bs' Ts w'∧y0a Bs w w'∧∀g∈Bs',g∈Bs∨w.heap.size≤g)∨(r=.bool false∧Q w')
theorem e2c(p:f0a)(m:Int)(hp:d1a p)(gseen gmap gP gY gS l:Nat)(c0 c1 c2 c3:Value)(Bs M0:List Nat)(B:Nat)(i1:B≤100000)(wb w0:World)(J:Nat→List Nat→List Nat→World→Prop)(Q:World→Prop)(hJ:a9b p m l gS c0 c1 c2 c3 B M0 wb J Q)(V:List K2a)(G:Option Nat)(cs:List Value)(v:Value)(x:K2a)(xs:List Value)
 (hS:P8b m gseen gmap gP gY gS l c0 c1 c2 c3 Bs M0 w0 V G cs v) (hk:J V.length Bs (gS::gmap::G.toList) w0) (hX:g6a (gS::gmap::(G.toList++(Bs++M0))) w0 xs x) (hV:∀y∈V,c3a p y.conf) (hx:c3a p x.conf) (y0:X3a p m (M2a V x)) (hB:V.length≤B) (n0:∀g∈gS::gmap::G.toList,g=gS∨wb.heap.size≤g) (d1:wb.heap.size≤w0.heap.size) (O0:∀g∈M0,g<w0.heap.size∧g∉G.toList) :
 M0a Tryz.prog 111 #[.agg xs.toArray,.pointer (some ⟨gseen,0,none⟩),.pointer (some ⟨gP,0,none⟩),.pointer (some ⟨gY,0,none⟩)] w0 fun r w'=>(r=.bool true∧∃p0 G' X0 v',P8b m gseen gmap gP gY gS l c0 c1 c2 c3 p0 M0 w' (M2a V x) G' X0 v'∧J (M2a V x).length p0 (gS::gmap::G'.toList) w'∧y0a (gS::gmap::(G.toList++Bs)) w0 w'∧(∀g∈p0,g∈Bs∨w0.heap.size≤g)∧(∀g∈G'.toList,g∈G.toList∨w0.heap.size≤g)∧(M2a V x).length≤B)∨(r=.bool false∧Q w'):=by
 obtain⟨_,_,_,_,_,_,_,_,_,rfl,Z0,_,_⟩:=hX.open_;have S:=hS.st;have k1:=hS.seen.cell (o:=0) rfl;have k2:=hS.ptr.cell (o:=0) rfl;have k3:=hS.yld.cell (o:=0) rfl;have hG:∀g,G=some g→g≠gseen∧g≠gP∧g≠gY:=fun g hg=>⟨a6a (hS.rowb g hg) hS.seen (by decide),a6a (hS.rowb g hg) hS.ptr (by decide),a6a (hS.rowb g hg) hS.yld (by decide)⟩
 have P0:∀g∈gS::gmap::G.toList,g∉Bs∧(g=gS∨wb.heap.size≤g):=fun g hg=>⟨hS.ne g (by simp at hg ⊢;grind),n0 g hg⟩
 have f1:gmap∉G.toList:=fun hh=>by simp only[Option.mem_toList] at hh;exact hS.map.ne (hS.rowb _ hh) rfl
 have n1:gseen∉gS::gmap::G.toList:=fun hh=>by
  simp only[List.mem_cons,Option.mem_toList] at hh;rcases hh with hh|hh|hh
  ·exact a6a hS.seen hS.blk (by decide) hh
  ·exact hS.map.ne hS.seen hh.symm
  ·exact(hG _ hh).1 rfl
 have n2:gP∉gS::gmap::G.toList:=fun hh=>by
  simp only[List.mem_cons,Option.mem_toList] at hh;rcases hh with hh|hh|hh
  ·exact a6a hS.ptr hS.blk (by decide) hh
  ·exact hS.map.ne hS.ptr hh.symm
  ·exact(hG _ hh).2.1 rfl
 have n3:gY∉gS::gmap::G.toList:=fun hh=>by
  simp only[List.mem_cons,Option.mem_toList] at hh;rcases hh with hh|hh|hh
  ·exact a6a hS.yld hS.blk (by decide) hh
  ·exact hS.map.ne hS.yld hh.symm
  ·exact(hG _ hh).2.2 rfl
 refine a0a Tryz.func111 rfl Tryz.ntmps111 rfl ?_;refine wO0 rfl ⟨⟩ (h0a S (by conv=>lhs;whnf) rfl ?_);intro g4 w4 S4 X4 G4;refine lO S4.k [.o 0] rfl ⟨rfl,⟨⟩⟩ ?_;refine x0a S4 B6c rfl rfl (G9c p hp x.conf hx _ _ _ (Z0.keep (S4.keepM.mono (fun g hg=>by simp at hg ⊢;grind)))) ?_;rintro v9 w9 ⟨rfl,_⟩ S9 X9;have t0:keyOf Tryz.prog 9 (.string (c8b x.conf))=some (.string (c8b x.conf).data.toList):=Go.WideMaps.keyOf_string_mk Tryz.underlying9 (by unfold c8b;rw[c6a];unfold maxLen;omega);have u0:=(hS.map.keep X4 (by simp)).keep X9 (by simp);refine lO0 rfl ⟨⟩ (s0a e5b rfl (by exact S9.oldM n1 k1) rfl ?_);refine lO0 rfl ⟨⟩ (i0c (Go.Maps.string_keyed Tryz.underlying9) Tryz.underlying169 B1d u0 rfl rfl t0 rfl (fun m1 x0=>?_) (fun v0=>?_));obtain rfl:=V7b x0
 ·refine lR0 rfl ⟨⟩ (o0a rfl (by conv=>lhs;whnf) ?_);rw[O7b hp hV hx x0];exact .inl ⟨rfl,Bs,G,cs,v,hS.keep ((X4.trans X9).mono (by simp)) (fun g hg=>.inl hg),hJ.own V.length Bs _ _ w0 _ hk P0 (fun g hg=>.inl hg) S9.below,(X4.trans X9).mono (by simp),fun g hg=>.inl hg,fun g hg=>.inl hg,hB⟩
 refine lO0 rfl ⟨⟩ (s0a e5b rfl (by exact S9.oldM n1 k1) rfl ?_);refine lO0 rfl ⟨⟩ (m8a S9 (Go.Maps.string_keyed Tryz.underlying9) Tryz.underlying169 u0 rfl rfl rfl t0 v0 (.inr (by simp)) ?_);intro wm Sm Xm Mm;refine lC0 rfl ⟨⟩ (g9a b0a (fun i=>[0,1,2,3,4,5,8,9].contains i) [0,1,2,3,4,5,6,7,8,9] 10 (by kernel_rfl) (by kernel_rfl) (clF (A:=[_,_]) (R:=[(G,133,cs)]) Sm G.toList) _ rfl ?_);have g0:=Sm.drew;have J0:y0a [] wm wm.drew:=s2a _ _;generalize wm.drew=t1 at g0 J0 ⊢;have i0:y0a (G.toList) _ _:=J0.of_nil;refine z1a ⟨(St.front (A:=[_,_]) g0),i0⟩ rfl rfl rfl ?_;refine j0a O4a rfl (fun w1 hw=>by exact hw.1.oldM n2 k2) rfl ?_;refine d0a ?_;refine z1a ⟨(St.front (A:=[_,_]) g0),i0⟩ rfl rfl rfl ?_;refine j0a O4a rfl (fun w1 hw=>by exact hw.1.oldM n2 k2) rfl ?_;refine d0a ?_;refine z1a ⟨(St.front (A:=[_,_]) g0),i0⟩ rfl rfl rfl ?_;refine o3a rfl rfl ?_;refine d0a ?_;refine z1a ⟨(St.front (A:=[_,_]) g0),i0⟩ rfl rfl rfl ?_;refine z0a z5b rfl rfl ?_;refine d0a ?_;refine z1a ⟨(St.front (A:=[_,_]) g0),i0⟩ rfl rfl rfl ?_;refine j0a k8a rfl (fun w1 hw=>by exact hw.1.cell 1 rfl rfl) rfl ?_;refine d0a ?_;refine z1a ⟨(St.front (A:=[_,_]) g0),i0⟩ rfl rfl rfl ?_;refine J1a D6b rfl (fun w1 hw=>hw.1.cells 0 rfl) rfl rfl ?_;refine d0a ?_;refine q8a ⟨(St.front (A:=[_,_]) g0),i0⟩ rfl rfl rfl rfl ?_;refine u0a g0 j9b (vs:=[.agg _]) (cs:=[_,_,_,_,_,_,_]) (by rfl) rfl rfl rfl rfl rfl rfl ?_;intro h1 q1 q0 W0 g1;have b0:=i0.trans (W0.mono (by simp));refine L0a ⟨rfl,?_⟩;refine q8a ⟨(St.front (A:=[_,_,_]) q0).tail,b0⟩ rfl rfl rfl rfl ?_;have T0:=Mm.keep b0 f1;have F0:=hS.row.keep W2b (q0.keepM.mono (fun g hg=>by simp at hg ⊢;grind));have a1:=(hX.more (M':=G.toList++(gS::gmap::(Bs++M0))) (fun g hg=>by simp at hg ⊢;grind)).keep (q0.keepM.mono (fun g hg=>by simp at hg ⊢;grind));refine Y0a W2b (k:=3) (M2:=gS::gmap::(Bs++M0)) (e1:=x) q0 j9b (by decide) rfl F0 rfl rfl (q0.cells 0 rfl) a1 (by omega) rfl ?_;intro o1 o0 s0 r1 B0 e0 C0 S0;have A0:=B0.tail;have j0:=b0.trans C0;have U0:=T0.keep C0 (fun hh=>by simp only[Option.mem_toList] at hh;exact hS.map.ne (hS.rowb _ hh) rfl);have u1:=b0.size;have v1:=C0.size;obtain⟨H0,K0,rfl⟩:=e0.form;refine L0a ⟨rfl,?_⟩;refine z1a ⟨(St.front (A:=[_,_]) A0),j0⟩ rfl rfl rfl ?_;refine o3a rfl rfl ?_;refine d0a ?_;refine z1a ⟨(St.front (A:=[_,_]) A0),j0⟩ rfl rfl rfl ?_;refine z0a z5b rfl rfl ?_;refine d0a ?_;refine j5a ⟨(St.front (A:=[_,_]) A0),j0⟩ ?_;refine B0a (kk:=1) A0 c1d rfl (by conv=>lhs;whnf) rfl rfl (by exact Nat.le_of_ble_eq_true rfl) ?_;intro R0 r0 h0;refine L0a ⟨rfl,?_⟩;have zl:(V++[x]).length≤100001:=by simp;omega
 have e1:(((V++[x]).length:Nat):Int)-1=(V.length:Nat):=by simp
 refine fC0 rfl ⟨⟩ (v0a b0a [0,1,2,3,4,5,6] [] [7,8] (by kernel_rfl) rfl (Cl _ _ _ _) (Cl.start r0) ?_);refine j0a Q0b rfl (fun w1 hw=>by exact hw.1.oldM n3 k3) rfl ?_;refine j0a O4a rfl (fun w1 hw=>by exact hw.1.oldM n2 k2) rfl ?_;refine qO0 rfl ⟨⟩ (j0a k8a rfl (fun w1 hw=>by exact hw.1.cell 1 rfl rfl) rfl ?_);refine qD rfl ⟨by omega,⟨⟩⟩ ?_;rintro z0 ⟨f0,I0⟩;have eV:=h8b v0;rw[eV] at y0 ⊢;have V0:=(U0.keep h0 (fun hh=>by rw[List.mem_singleton] at hh;exact hS.map.ne hS.blk hh)).keep I0 (by simp);have G0:=e0.keep W2b ((h0.trans I0.of_nil).mono (fun g hg=>by simp at hg ⊢;grind));have d0:∀g∈o0.toList,g∈G.toList∨w0.heap.size≤g:=fun g hg=>by
  rcases S0 g hg with h|h
  ·exact .inl h
  ·right;have:=Sm.size;omega
 have a0:P8b m gseen gmap gP gY gS l c0 c1 c2 c3 Bs M0 z0 (V++[x]) o0 s0 (.slice H0 (V++[x]).length K0):=by
  refine⟨x1a f0.keepM n1 hS.seen,by rw[D8b];exact V0,x1a f0.keepM n2 hS.ptr,x1a f0.keepM n3 hS.yld,f0.blk 1 rfl,G0,?_,fun g hg=>f0.blk 2 (by rw[hg];rfl),fun g hg hh=>?_⟩
  ·rintro rfl;exact absurd (o2b G0) (by simp)
  ·simp only[List.mem_append,Option.mem_toList] at hg;rcases hg with hg|hg
   ·exact hS.ne g (List.mem_append_left _ hg) hh
   ·rcases d0 g (by simpa using hg) with h|h
    ·exact hS.ne g (List.mem_append_right _ h) hh
    ·have:=hJ.lt _ _ _ _ hk g hh;omega
 have D0:=hJ.own V.length Bs (gS::gmap::G.toList) (gS::gmap::o0.toList) w0 z0 hk P0 (fun g hg=>by
  simp only[List.mem_cons] at hg ⊢;rcases hg with rfl|rfl|hg
  ·simp
  ·simp
  ·rcases d0 g hg with h|h
   ·simp[h]
   ·exact .inr h) f0.below
 have b1:RdS (Bs++M0) z0 7 (g6a ((gS::gmap::o0.toList)++(Bs++M0)) z0) (.slice H0 (V++[x]).length K0) (V++[x]):=by
  have E0:∀g,o0=some g→g∉gS::gmap::(Bs++M0):=fun g hg hh=>by
   have Q0:=a0.rowb g hg;simp only[List.mem_cons,List.mem_append] at hh;rcases hh with rfl|rfl|hh|hh
   ·exact a6a Q0 a0.blk (by decide) rfl
   ·exact a0.map.ne Q0 rfl
   ·exact a0.ne g (by simp[hg]) hh
   ·rcases d0 g (by simp[hg]) with h|h
    ·exact(O0 g hh).2 h
    ·have:=(O0 g hh).1;omega
  exact RdS.lessW (G0.rdG f0 (k:=2) rfl E0 (by simp;omega)) (fun g hg=>by simp at hg ⊢;grind) (fun _ _=>g6a.more (fun g hg=>.inl (by simp at hg ⊢;grind)))
 have hY:=hJ.each V.length Bs _ z0 (V++[x]) _ D0 (fun g hg=>⟨a0.ne g (by simp at hg ⊢;grind),by
  simp only[List.mem_cons] at hg;rcases hg with rfl|rfl|hg
  ·exact .inl rfl
  ·exact n0 _ (by simp)
  ·rcases d0 g hg with h|h
   ·exact n0 g (by simp only[List.mem_cons];exact .inr (.inr h))
   ·right;omega⟩) (fun g hg=>a0.lt g (by simp at hg ⊢;grind)) y0 (by simp) a0.blk (hS.ne _ (by simp)) b1 (Nat.le_trans d1 f0.size)
 rw[←e1] at hY;refine x5b rfl rfl rfl hY ?_;rintro p1 s1 (⟨rfl,j1,p0,Y0,N0,L0⟩|⟨rfl,hQ⟩)
 ·refine lR0 rfl ⟨⟩ (o0a rfl (by conv=>lhs;whnf) ?_);refine .inl ⟨rfl,p0,o0,s0,_,a0.keep N0 L0,by simpa using Y0,?_,fun g hg=>?_,d0,by simp;omega⟩
  ·exact((f0.keepM.mono (fun g hg=>by simp at hg ⊢;grind)).trans (N0.mono (fun g hg=>by simp[hg])))
  ·rcases L0 g hg with h|h
   ·exact .inl h
   ·right;have:=f0.size;omega
 refine lR0 rfl ⟨⟩ (o0a rfl (by conv=>lhs;whnf) ?_);exact .inr ⟨rfl,hQ⟩
theorem c9c{P:Program}{r:Option Nat}{N:Nat}{D:List Deferred}{e:Env}{w:World}{ops:Array Oper}{rest:List Oper}{K:List Deferred→Env→World→Prop}{d:Nat}{t xt yt:TypeId}{p:String}{af:Array Edge}{x y:Operand}{a:Int}{kd:IntKind}{n:Nat}(hx:ev e x=.int .i64 a)(hy:ev e y=.int kd (n:Int))(hn:n≤62)(hd:Nat.ble (d+1) N=true)(h:WL P r N ops rest K D (upd e d (.int .i64 (a / ((2 ^ n:Nat):Int)))) w):
 WL P r N ops (⟨some d,.binOp .shr xt x y yt,t,p,af,none⟩::rest) K D e w :=
 k1a rfl rfl hd (by simp) (by
  have h3:min n IntKind.i64.bits=n:=by simp[IntKind.bits];omega
  have h6:¬((n:Int)<0):=by omega
  have h7:a.fdiv (2 ^ n)=a / ((2 ^ n:Nat):Int):=by
   rw[Int.fdiv_eq_ediv_of_nonneg]
   ·simp
   ·exact Int.le_of_lt (Int.pow_pos (by omega))
  simp only[execOp,hx,hy,eqGuard_shr,binOp_shr,Op.shift,h6,if_false,Int.toNat_natCast,h3,h7,Sem.run_bind,Sem.run_pure,Result.andThen_ok]) h
theorem St.callRow{M:List Nat}{w0 w w':World}{L:List Ent}(S:St M w0 w L){k t:Nat}{G G':Option Nat}{cs a0:List Value}(hk:L[k]?=some (G,t,cs))(hB:F0a G.toList w w')(hb:∀g,G'=some g→p0a w' (g,t,a0))(hf:∀g∈G'.toList,g∈G.toList∨w.heap.size≤g):St M w0 w' (L.set k (G',t,a0)):=by
 have hg:∀g∈G.toList,w0.heap.size≤g∨g∈M:=fun g hg=>(S.own _ (List.mem_of_getElem? hk) g (by simpa using hg)).1;refine S.replace k hk ⟨hB.os.trans S.below.os,hB.tape.trans S.below.tape,hB.output.trans S.below.output,Nat.le_trans S.below.size hB.size,fun i hi hm=>?_⟩ (fun b b0 d0=>hB.block b b0 (fun hh=>d0 (by simpa using hh))) (fun g he=>⟨?_,hb g he,?_⟩)
 ·exact(hB.block i (Nat.lt_of_lt_of_le hi S.below.size) (fun hh=>(hg i hh).elim (fun h=>by omega) hm)).trans (S.below.block i hi hm)
 ·rcases hf g (by simp only[Option.mem_toList];exact he) with h|h
  ·exact hg g h
  ·exact .inl (Nat.le_trans S.size h)
 ·rcases hf g (by simp only[Option.mem_toList];exact he) with h|h
  ·exact .inl (by simpa using h)
  ·exact .inr h
theorem V7a(a b:List Int)(M:List Nat)(w0:World)(va vb:Value)(hA:RdI M w0 va a)(hB:RdI M w0 vb b):
 M0a Tryz.prog 47 #[va,vb] w0 fun v w'=>v=.bool (decide (a=b))∧Below w0.heap.size w0 w':=by
 obtain⟨Aa,na,ca,rfl⟩:=hA.form;obtain⟨_,-,_⟩:=hA.len;obtain⟨Ab,nb,cb,rfl⟩:=hB.form;obtain⟨_,-,_⟩:=hB.len;have S:=St.refl w0;refine a0a Tryz.func47 rfl Tryz.ntmps47 rfl ?_;refine wB0 rfl ⟨⟩ (fun r0=>?_) fun r0=>?_
 ·refine lR0 rfl ⟨⟩ (o0a rfl (by conv=>lhs;whnf) ?_);exact⟨by rw[decide_eq_false (T0c (by omega))],S.fin⟩
 refine lC0 rfl ⟨⟩ (wL (fun μk D ε w=>D=[]∧∃k:Nat,(k+μk=(a.length))∧(n8b a b k)∧St [] w0 w []∧Sl ε [(0,.slice Aa na ca),(1,.slice Ab nb cb),(5,.int .i64 k)]) (μ:=(a.length)) ⟨rfl,0,by omega,n8b.zero,S,rfl⟩ ?_);rintro μk D ε w ⟨rfl,k,_,he,S,eZ⟩;refine wK eZ (wB0 rfl ⟨⟩ (fun s0=>?_) fun s0=>?_)
 ·refine lC0 rfl ⟨⟩ (v0a b0a [0,1,2,3,4,5,6,7,8] [] [] (by kernel_rfl) rfl (Cl _ _ _ _) (Cl.start S) ?_);obtain⟨x,p0,t0,_,j0,d0,_,_,f0,h0⟩:=RdS.get (hA) (k) (by omega);obtain⟨rfl,_⟩:=id h0;obtain⟨_,q0,u0,_,n0,e0,_,_,g0,i0⟩:=RdS.get (hB) (k) (by omega);obtain⟨rfl,_⟩:=id i0;refine qB ((S.q.a g0).a f0) [.x p0 t0,.f 0 0,.x q0 u0,.f 1 0] rfl ⟨rfl,⟨e0,by omega⟩,rfl,⟨d0,by omega⟩,⟨⟩⟩ (fun b0=>?_) fun b0=>?_
  ·refine qD rfl ⟨⟩ ?_;rintro v0 ⟨a0,o0⟩;refine lR0 rfl ⟨⟩ (o0a rfl (by conv=>lhs;whnf) ?_);exact⟨by rw[decide_eq_false (G7b j0 n0 b0)],a0.fin⟩
  refine qD rfl ⟨⟩ ?_;rintro v0 ⟨a0,o0⟩;refine lP0 rfl ⟨by omega,⟨⟩⟩ ⟨μk-1,by omega,rfl,(k+1),(by omega),(he.succ j0 n0 b0),a0,rfl⟩
 refine lR0 rfl ⟨⟩ (o0a rfl (by conv=>lhs;whnf) ?_);exact⟨by rw[decide_eq_true (he.all (by omega) (by omega))],S.fin⟩
theorem R7a(c d:q0a)(M:List Nat)(w0:World)(xs ys:List Value)(hX:t0a M w0 c xs)(hY:t0a M w0 d ys):
 M0a Tryz.prog 14 #[.agg xs.toArray,.agg ys.toArray] w0 fun v w'=>v=.bool (decide (c=d))∧Below w0.heap.size w0 w':=by
 obtain⟨Xm,xm,ym,Xa,xa,ya,Xb,xb,yb,rfl,P0,V1,e0,_,_,_,_,_,_⟩:=hX.open_;obtain⟨Zm,zm,um,Za,za,ua,Zb,zb,ub,rfl,y1,W1,h0,_,_,_,_,_,_⟩:=hY.open_;have S:=St.refl w0;refine a0a Tryz.func14 rfl Tryz.ntmps14 rfl ?_;refine wO0 rfl ⟨⟩ (h0a S (by conv=>lhs;whnf) rfl ?_);intro g2 w2 S2 X2 G2;refine h0a S2 (by conv=>lhs;whnf) rfl ?_;intro g3 w3 S3 X3 G3;refine lO S3.k [.o 1,.o 0] rfl ⟨rfl,rfl,⟨⟩⟩ (C0a S3 e7b rfl rfl (V7a c.mem d.mem M _ _ _ (P0.keep (S3.keep0 M)) (y1.keep (S3.keep0 M))) (fun z0 o2 i0 B1=>?_) (fun z0 o2 i0 B1=>?_))
 ·refine lO i0.k [.o 1,.o 0] rfl ⟨rfl,rfl,⟨⟩⟩ (C0a i0 e7b rfl rfl (V7a c.at_ d.at_ M _ _ _ (V1.keep (i0.keep0 M)) (W1.keep (i0.keep0 M))) (fun A0 p2 j0 C1=>?_) (fun A0 p2 j0 C1=>?_))
  ·refine lB j0.k [.o 1,.o 0] rfl ⟨rfl,rfl,⟨⟩⟩ (fun Q1=>?_) fun Q1=>?_
   ·refine lR0 rfl ⟨⟩ (o0a rfl (by conv=>lhs;whnf) ?_);exact⟨by rw[decide_eq_false (fun e:c=d=>T0c (a:=c.buf) (b:=d.buf) (by omega) (by rw[e]))],j0.fin⟩
   refine lC0 rfl ⟨⟩ (wL (fun μk D ε w=>D=[]∧∃k:Nat,(k+μk=(c.buf.length))∧(n8b c.buf d.buf k)∧St [] w0 w [(some g3,38,[.slice Zm zm um,.slice Za za ua,.slice Zb zb ub]),(some g2,38,[.slice Xm xm ym,.slice Xa xa ya,.slice Xb xb yb])]∧Sl ε [(2,.pointer (some ⟨g2,0,none⟩)),(3,.pointer (some ⟨g3,0,none⟩)),(5,.int .i64 k)]) (μ:=(c.buf.length)) ⟨rfl,0,by omega,n8b.zero,j0,rfl⟩ ?_);rintro μk D ε w ⟨rfl,k,_,he,S,eZ⟩;refine wK eZ (wB S.k [.o 1] rfl ⟨rfl,⟨⟩⟩ (fun R1=>?_) fun R1=>?_)
   ·refine lC0 rfl ⟨⟩ (v0a b0a [0,1,2,3,4,5,6,7,8,9,10,11,12] [] [] (by kernel_rfl) rfl (Cl _ _ _ _) (Cl.start S) ?_);obtain⟨b,E1,Y1,_,g0,D0,_,_,Q0,b1⟩:=RdS.get (e0) (k) (by omega);obtain⟨_,_,_,rfl,_,_,_⟩:=F3a.open_ b1;obtain⟨b',F1,Z1,_,b0,E0,_,_,R0,d1⟩:=RdS.get (h0) (k) (by omega);obtain⟨_,_,_,rfl,_,_,_⟩:=F3a.open_ d1;refine qB ((S.q.a R0).a Q0) [.o 1,.x E1 Y1,.f 0 0,.o 0,.x F1 Z1,.f 1 0] rfl ⟨rfl,⟨E0,by omega⟩,rfl,rfl,⟨D0,by omega⟩,rfl,⟨⟩⟩ (fun T1=>?_) fun T1=>?_
    ·refine qD rfl ⟨⟩ ?_;rintro q2 ⟨y0,D1⟩;refine lR0 rfl ⟨⟩ (o0a rfl (by conv=>lhs;whnf) ?_);exact⟨by rw[decide_eq_false (fun e:c=d=>G7b g0 b0 (T0c (by omega)) (by rw[e]))],y0.fin⟩
    refine qD rfl ⟨⟩ ?_;rintro q2 ⟨y0,D1⟩;refine lC0 rfl ⟨⟩ (wL (fun μj D ε w=>D=[]∧∃j:Nat,(j+μj=(b.length))∧(n8b b b' j)∧St [] w0 w [(some g3,38,[.slice Zm zm um,.slice Za za ua,.slice Zb zb ub]),(some g2,38,[.slice Xm xm ym,.slice Xa xa ya,.slice Xb xb yb])]∧Sl ε [(2,.pointer (some ⟨g2,0,none⟩)),(3,.pointer (some ⟨g3,0,none⟩)),(5,.int .i64 k),(6,.int .i64 j)]) (μ:=(b.length)) ⟨rfl,0,by omega,n8b.zero,y0,rfl⟩ ?_);rintro μj D ε w ⟨rfl,j,_,A1,S,eZ⟩;refine wK eZ ?_;obtain⟨_,G1,a2,_,q1,F0,_,_,S0,f1⟩:=RdS.get (e0) (k) (by omega);obtain rfl:=Option.some.inj (g0.symm.trans q1);obtain⟨_,_,_,rfl,_,_,_⟩:=F3a.open_ f1;refine wB (S.k.a S0) [.o 1,.x G1 a2,.f 0 0] rfl ⟨rfl,⟨F0,by omega⟩,rfl,⟨⟩⟩ (fun U1=>?_) fun U1=>?_
    ·refine lC0 rfl ⟨⟩ (v0a b0a [0,1,2,3,4,5,6,7,8,9,10,11,12,13,14,15,16,17,18,19,20,21,22,23,24,25,26,27,28,29,30,31,32,33,34,35,36,37,38,39,40,41] [] [] (by kernel_rfl) rfl (Cl _ _ _ _) (Cl.start S) ?_);obtain⟨_,H1,b2,_,r1,G0,_,_,T0,g1⟩:=RdS.get (e0) (k) (by omega);obtain rfl:=Option.some.inj (g0.symm.trans r1);obtain⟨_,_,_,rfl,o0,_,_⟩:=F3a.open_ g1;obtain⟨en,I1,d2,_,f0,H0,_,_,U0,h1⟩:=RdS.get (o0) (j) (by omega);obtain⟨_,_,_,_,_,_,rfl,s0,_,_,_,_,_⟩:=I0a.open_ h1;obtain⟨_,J1,f2,_,s1,I0,_,_,V0,i1⟩:=RdS.get (h0) (k) (by omega);obtain rfl:=Option.some.inj (b0.symm.trans s1);obtain⟨_,_,_,rfl,p0,_,_⟩:=F3a.open_ i1;obtain⟨z1,K1,h2,_,a0,J0,_,_,W0,j1⟩:=RdS.get (p0) (j) (by omega);obtain⟨_,_,_,_,_,_,rfl,t0,_,_,_,_,_⟩:=I0a.open_ j1;refine qO ((((S.q.a W0).a V0).a U0).a T0) [.o 1,.x H1 b2,.f 0 0,.x I1 d2,.f 1 0,.o 0,.x J1 f2,.f 2 0,.x K1 h2,.f 3 0] rfl ⟨rfl,⟨J0,by omega⟩,rfl,⟨I0,by omega⟩,rfl,rfl,⟨H0,by omega⟩,rfl,⟨G0,by omega⟩,rfl,⟨⟩⟩ (Y1a e7b rfl rfl (fun w1 S1 X1=>V7a en.cells z1.cells M _ _ _ (s0.keep (S1.keep0 M)) (t0.keep (S1.keep0 M))) (fun B0=>?_) fun B0=>?_)
     ·obtain⟨_,M1,i2,_,t1,K0,_,_,X0,m1⟩:=RdS.get (e0) (k) (by omega);obtain rfl:=Option.some.inj (g0.symm.trans t1);obtain⟨_,_,_,rfl,q0,_,_⟩:=F3a.open_ m1;obtain⟨_,N1,j2,_,u1,L0,_,_,Y0,n1⟩:=RdS.get (q0) (j) (by omega);obtain rfl:=Option.some.inj (f0.symm.trans u1);obtain⟨_,_,_,_,_,_,rfl,_,u0,_,_,_,_⟩:=I0a.open_ n1;obtain⟨_,O1,m2,_,v1,N0,_,_,Z0,o1⟩:=RdS.get (h0) (k) (by omega);obtain rfl:=Option.some.inj (b0.symm.trans v1);obtain⟨_,_,_,rfl,r0,_,_⟩:=F3a.open_ o1;obtain⟨_,P1,n2,_,x1,O0,_,_,a1,p1⟩:=RdS.get (r0) (j) (by omega);obtain rfl:=Option.some.inj (a0.symm.trans x1);obtain⟨_,_,_,_,_,_,rfl,_,v0,_,_,_,_⟩:=I0a.open_ p1;refine qO ((((S.q.a a1).a Z0).a Y0).a X0) [.o 1,.x M1 i2,.f 0 0,.x N1 j2,.f 1 1,.o 0,.x O1 m2,.f 2 0,.x P1 n2,.f 3 1] rfl ⟨rfl,⟨O0,by omega⟩,rfl,⟨N0,by omega⟩,rfl,rfl,⟨L0,by omega⟩,rfl,⟨K0,by omega⟩,rfl,⟨⟩⟩ (Y1a e7b rfl rfl (fun w1 S1 X1=>V7a en.values z1.values M _ _ _ (u0.keep (S1.keep0 M)) (v0.keep (S1.keep0 M))) (fun C0=>?_) fun C0=>?_)
      ·refine qD rfl ⟨⟩ ?_;rintro x0 ⟨d0,n0⟩;refine lP0 rfl ⟨by omega,⟨⟩⟩ ⟨μj-1,by omega,rfl,(j+1),(by omega),(A1.succ f0 a0 (E0a.ext' (of_decide_eq_true B0) (of_decide_eq_true C0))),d0,rfl⟩
      refine qD rfl ⟨⟩ ?_;rintro x0 ⟨d0,n0⟩;refine lR0 rfl ⟨⟩ (o0a rfl (by conv=>lhs;whnf) ?_);exact⟨by rw[decide_eq_false (fun e:c=d=>G7b g0 b0 (G7b f0 a0 (fun e'=>of_decide_eq_false C0 (by rw[e']))) (by rw[e]))],d0.fin⟩
     refine qD rfl ⟨⟩ ?_;rintro x0 ⟨d0,n0⟩;refine lR0 rfl ⟨⟩ (o0a rfl (by conv=>lhs;whnf) ?_);exact⟨by rw[decide_eq_false (fun e:c=d=>G7b g0 b0 (G7b f0 a0 (fun e'=>of_decide_eq_false B0 (by rw[e']))) (by rw[e]))],d0.fin⟩
    refine lP0 rfl ⟨by omega,⟨⟩⟩ ⟨μk-1,by omega,rfl,(k+1),(by omega),(he.succ g0 b0 (A1.all (by omega) (by omega))),S,rfl⟩
   refine lR0 rfl ⟨⟩ (o0a rfl (by conv=>lhs;whnf) ?_);exact⟨by rw[decide_eq_true (q0a.ext' (of_decide_eq_true z0) (of_decide_eq_true A0) (he.all (by omega) (by omega)))],S.fin⟩
  refine lR0 rfl ⟨⟩ (o0a rfl (by conv=>lhs;whnf) ?_);exact⟨by rw[decide_eq_false (fun e=>of_decide_eq_false A0 (by rw[e]))],j0.fin⟩
 refine lR0 rfl ⟨⟩ (o0a rfl (by conv=>lhs;whnf) ?_);exact⟨by rw[decide_eq_false (fun e=>of_decide_eq_false z0 (by rw[e]))],i0.fin⟩
theorem r5a(n:Int)(w0:World)(G:Option Nat)(cs:List Value)(v:Value)(l:List Int)(b0:U7b w0 G cs v l)(h0:G=none→cs=[])(n0:∀g,G=some g→p0a w0 (g,5,cs))(hl:l.length≤100000):
 M0a Tryz.prog 37 #[v,.int .i64 n] w0 fun r w'=>∃G' e0,U7b w' G' e0 r (l++two n)∧(G'=none→e0=[])∧(∀g,G'=some g→p0a w' (g,5,e0))∧F0a G.toList w0 w'∧∀g∈G'.toList,g∈G.toList∨w0.heap.size≤g:=by
 have S:St G.toList w0 w0 [(G,5,cs)]:=(St.base _ w0).pushO h0 n0 (fun g hg=>by rw[hg];simp) (fun g hg b hb=>by simp at hb);obtain⟨_,_,rfl⟩:=b0.form;have m1:0≤n % 256∧n % 256≤255:=by omega
 have m2:0≤n / 256 % 256∧n / 256 % 256≤255:=by omega
 have b1:s0b n 255=n % 256:=by simpa[a3a] using A4a n 8 (by omega)
 have b2:s0b (n / ((2 ^ 8:Nat):Int)) 255=n / 256 % 256:=by simpa[a3a] using A4a (n / 256) 8 (by omega)
 refine a0a Tryz.func37 rfl Tryz.ntmps37 rfl ?_;refine wO0 rfl ⟨⟩ ?_;rw[b1];refine s6a Tryz.underlying3 Tryz.underlying5 rfl (a:=n % 256) m1 rfl ?_;refine lO0 rfl ⟨⟩ (c9c (n:=8) rfl rfl (by omega) rfl ?_);refine lO0 rfl ⟨⟩ ?_;rw[b2];refine s6a Tryz.underlying3 Tryz.underlying5 rfl (a:=n / 256 % 256) m2 rfl ?_;refine u0a S p5a (vs:=[.int .u8 _,.int .u8 _]) (cs:=[_,_]) (by rfl) rfl rfl rfl rfl rfl rfl ?_;intro r0 t0 d0 p0 o0;have v0:=d0.size;refine t0b E0b (k:=1) (M2:=[]) (e1:=n % 256) (e2:=n / 256 % 256) d0 p5a (by decide) rfl (b0.keep E0b (d0.keepM.mono (fun g hg=>by simpa using hg))) rfl rfl (d0.cells 0 rfl) rfl rfl (by omega) rfl ?_;intro s0 j0 f0 u0 g0 a0 q0 i0;obtain⟨_,_,rfl⟩:=a0.form;refine lR0 rfl ⟨⟩ (o0a rfl (by conv=>lhs;whnf) ?_);exact⟨j0,f0,a0,fun h=>by subst h;exact absurd (o2b a0) (by simp),fun g hg=>g0.blk 1 (by rw[hg];rfl),g0.below,fun g hg=>(i0 g hg).imp id (fun h=>by omega)⟩
theorem s5b(p:f0a)(hp:d1a p)(c:q0a)(hf:c3a p c)(M:List Nat)(w0:World)(ys:List Value)(hX:t0a M w0 c ys):
 M0a Tryz.prog 11 #[.agg ys.toArray] w0 fun v w'=>(v=.string (d1b c)∧(p5b c).length≤20000)∧Below w0.heap.size w0 w':=by
 obtain⟨Xm,xm,ym,Xa,xa,ya,Xb,xb,yb,rfl,m1,J2,j0,_,_,_,_,_,_⟩:=hX.open_;have n1:=hp.ncells;have n2:=hp.nthreads;have f1:=hf.mem.len;have f2:=hf.nat;have f3:=hf.nbuf;have S:=(St.refl w0).nilEnt 5;refine a0a Tryz.func11 rfl Tryz.ntmps11 rfl ?_;refine wO0 rfl ⟨⟩ (h0a S (by conv=>lhs;whnf) rfl ?_);intro g1 w1 S1 X1 G1;refine lC0 rfl ⟨⟩ (wL (fun μk D ε w=>D=[]∧∃k:Nat,∃G:Option Nat,∃d0:List Value,∃v:Value,∃l:List Int,(k+μk=(c.mem.length))∧(l.length≤2*k)∧(l=(c.mem.take k).flatMap two)∧(U7b w0 G d0 v l)∧(G=none→d0=[])∧St [] w0 w [(some g1,38,[.slice Xm xm ym,.slice Xa xa ya,.slice Xb xb yb]),(G,5,d0)]∧Sl ε [(1,.pointer (some ⟨g1,0,none⟩)),(3,v),(4,.int .i64 k)]) (μ:=(c.mem.length)) ⟨rfl,0,none,[],.slice none 0 0,[],by omega,by simp,by simp,B1a.nil,fun _=>rfl,S1,rfl⟩ ?_);rintro μk D ε w ⟨rfl,k,G,d0,v,l,hk,_,hq,b0,h0,S,eZ⟩;refine wK eZ (wB S.k [.o 0] rfl ⟨rfl,⟨⟩⟩ (fun D2=>?_) fun D2=>?_)
 ·refine lOn 8 S.k [] rfl ⟨⟩ (Z0a (by conv=>lhs;whnf) rfl ?_);obtain⟨n,w2,K2,_,E0,Z0,_,_,t1,D1⟩:=RdS.get (m1) (k) (by omega);obtain⟨rfl,_⟩:=id D1;refine lO (S.k.a t1) [.o 0,.x w2 K2,.f 0 0] rfl ⟨rfl,⟨Z0,by omega⟩,rfl,⟨⟩⟩ ?_;refine c2a q1b rfl rfl (r5a n _ _ _ _ _ b0 h0 (fun g hg=>S.blk 1 (by rw[hg];rfl)) (by omega)) ?_;rintro W2 Z2 ⟨_,_,n0,U0,o1,a2,i2⟩;have s2:=S.callRow (k:=1) rfl a2 o1 i2;refine P0a (by conv=>lhs;whnf) rfl ?_;refine lP0 rfl ⟨by omega,⟨⟩⟩ ?_;refine⟨μk-1,by omega,rfl,(k+1),(_),(_),(_),(l++two n),(by omega),(by simp[two];omega),(by rw[hq,H0a E0];simp),(n0),(U0),s2,rfl⟩
 have C1:l=c.mem.flatMap two:=by rw[hq,List.take_of_length_le (by omega)]
 clear hq;refine lC0 rfl ⟨⟩ (wL (fun μk D ε w=>D=[]∧∃k:Nat,∃G:Option Nat,∃d0:List Value,∃v:Value,∃l2:List Int,(k+μk=(c.at_.length))∧(l2.length≤80+2*k)∧(l2=(c.mem++c.at_.take k).flatMap two)∧(U7b w0 G d0 v l2)∧(G=none→d0=[])∧St [] w0 w [(some g1,38,[.slice Xm xm ym,.slice Xa xa ya,.slice Xb xb yb]),(G,5,d0)]∧Sl ε [(1,.pointer (some ⟨g1,0,none⟩)),(3,v),(5,.int .i64 k)]) (μ:=(c.at_.length)) ⟨rfl,0,G,d0,v,l,by omega,by omega,by simp[C1],b0,h0,S,rfl⟩ ?_);rintro μk D ε w ⟨rfl,k,G,d0,v,l2,hk,_,hq,b0,h0,S,eZ⟩;refine wK eZ (wB S.k [.o 0] rfl ⟨rfl,⟨⟩⟩ (fun E2=>?_) fun E2=>?_)
 ·refine lOn 8 S.k [] rfl ⟨⟩ (Z0a (by conv=>lhs;whnf) rfl ?_);obtain⟨n,x2,L2,_,E0,a1,_,_,u1,E1⟩:=RdS.get (J2) (k) (by omega);obtain⟨rfl,_⟩:=id E1;refine lO (S.k.a u1) [.o 0,.x x2 L2,.f 0 0] rfl ⟨rfl,⟨a1,by omega⟩,rfl,⟨⟩⟩ ?_;refine c2a q1b rfl rfl (r5a n _ _ _ _ _ b0 h0 (fun g hg=>S.blk 1 (by rw[hg];rfl)) (by omega)) ?_;rintro X2 a3 ⟨_,_,o0,V0,p1,b2,j2⟩;have t2:=S.callRow (k:=1) rfl b2 p1 j2;refine P0a (by conv=>lhs;whnf) rfl ?_;refine lP0 rfl ⟨by omega,⟨⟩⟩ ?_;refine⟨μk-1,by omega,rfl,(k+1),(_),(_),(_),(l2++two n),(by omega),(by simp[two];omega),(by rw[hq,H0a E0];simp),(o0),(V0),t2,rfl⟩
 have C1:l2=(c.mem++c.at_).flatMap two:=by rw[hq,List.take_of_length_le (by omega)]
 clear hq;refine lC0 rfl ⟨⟩ (wL (fun μk D ε w=>D=[]∧∃k:Nat,∃G:Option Nat,∃d0:List Value,∃v:Value,∃l3:List Int,(k+μk=(c.buf.length))∧(l3.length≤200+4000*k)∧(l3=(c.mem++(c.at_++(c.buf.take k).flatMap P2a)).flatMap two)∧(U7b w0 G d0 v l3)∧(G=none→d0=[])∧St [] w0 w [(some g1,38,[.slice Xm xm ym,.slice Xa xa ya,.slice Xb xb yb]),(G,5,d0)]∧Sl ε [(1,.pointer (some ⟨g1,0,none⟩)),(3,v),(6,.int .i64 k)]) (μ:=(c.buf.length)) ⟨rfl,0,G,d0,v,l2,by omega,by omega,by simp[C1],b0,h0,S,rfl⟩ ?_);rintro μk D ε w ⟨rfl,k,G,d0,v,l3,hk,_,hq,b0,h0,S,eZ⟩;refine wK eZ (wB S.k [.o 0] rfl ⟨rfl,⟨⟩⟩ (fun F2=>?_) fun F2=>?_)
 ·refine lOn 9 S.k [] rfl ⟨⟩ (Z0a (by conv=>lhs;whnf) rfl ?_);obtain⟨b,y2,N2,_,I0,b1,_,_,v1,F1⟩:=RdS.get (j0) (k) (by omega);obtain⟨_,s0,_,rfl,_,_,_⟩:=F3a.open_ F1;have q3:=hf.bufs k b I0;refine lO (S.k.a v1) [.o 0,.x y2 N2,.f 0 0] rfl ⟨rfl,⟨b1,by omega⟩,rfl,⟨⟩⟩ ?_;refine c2a q1b rfl rfl (r5a (s0:Int) _ _ _ _ _ b0 h0 (fun g hg=>S.blk 1 (by rw[hg];rfl)) (by omega)) ?_;rintro T2 b3 ⟨q2,R0,p0,W0,q1,d2,m2⟩;have u2:=S.callRow (k:=1) rfl d2 q1 m2;refine P0a (by conv=>lhs;whnf) rfl ?_;refine lC0 rfl ⟨⟩ ?_;refine wL (fun μj D ε w=>D=[]∧∃j:Nat,∃G4:Option Nat,∃G0:List Value,∃v4:Value,∃l4:List Int,(j+μj=(b.length))∧(l4.length≤202+4000*k+130*j)∧(l4=l3++((b.length:Int)::(b.take j).flatMap X4a).flatMap two)∧(U7b w0 G4 G0 v4 l4)∧(G4=none→G0=[])∧St [] w0 w [(some g1,38,[.slice Xm xm ym,.slice Xa xa ya,.slice Xb xb yb]),(G4,5,G0)]∧Sl ε [(1,.pointer (some ⟨g1,0,none⟩)),(3,v4),(6,.int .i64 k),(7,.int .i64 j)]) (μ:=(b.length)) ⟨rfl,0,q2,R0,T2,l3++two (s0:Int),by omega,by simp[two];omega,by rw[show(b.length:Int)=s0 by omega];simp,p0,W0,u2,rfl⟩ ?_;rintro μj D ε w ⟨rfl,j,G4,G0,v4,l4,_,_,V1,g0,R1,S,eZ⟩;refine wK eZ ?_;obtain⟨_,z2,O2,_,M1,d1,_,_,x1,H1⟩:=RdS.get (j0) (k) (by omega);obtain rfl:=Option.some.inj (I0.symm.trans M1);obtain⟨_,_,_,rfl,_,_,_⟩:=F3a.open_ H1;refine wB (S.k.a x1) [.o 0,.x z2 O2,.f 0 0] rfl ⟨rfl,⟨d1,by omega⟩,rfl,⟨⟩⟩ (fun G2=>?_) fun G2=>?_
  ·obtain⟨_,A2,P2,_,N1,h1,_,_,y1,I1⟩:=RdS.get (j0) (k) (by omega);obtain rfl:=Option.some.inj (I0.symm.trans N1);obtain⟨_,_,_,rfl,v0,_,_⟩:=F3a.open_ I1;obtain⟨en,B2,Q2,_,D0,i1,_,B1,z1,J1⟩:=RdS.get (v0) (j) (by omega);obtain⟨J0,f0,Q0,K0,O1,T0,rfl,x0,y0,_,_,_,_⟩:=I0a.open_ J1;refine lO ((S.k.a z1).a y1) [.o 0,.x A2 P2,.f 0 0,.x B2 Q2,.v 1] rfl ⟨⟨rfl,B1⟩,⟨i1,by omega⟩,rfl,⟨h1,by omega⟩,rfl,⟨⟩⟩ (m0a S W7a rfl rfl ?_);intro g8 w8 S8 X8 G8;refine e0a (kk:=0) (vs:=[_,_]) S8 y9a rfl rfl rfl rfl rfl rfl rfl ?_;intro Z1 a0 Q1;dsimp only[k0a,List.set] at a0;refine lOn 4 a0.k [] rfl ⟨⟩ (Z0a (by conv=>lhs;whnf) rfl ?_);have q4:=q3.2.1 en (c0a D0);have q5:=q4.len;have q6:en.values.length=en.cells.length:=q4.even;refine lO a0.k [.o 0] rfl ⟨rfl,⟨⟩⟩ ?_;refine c2a q1b rfl rfl (r5a (f0:Int) _ _ _ _ _ g0 R1 (fun g hg=>a0.blk 2 (by rw[hg];rfl)) (by omega)) ?_;rintro U2 d3 ⟨r2,S0,q0,X0,r1,g2,o2⟩;have v2:=a0.callRow (k:=2) rfl g2 r1 o2;refine P0a (by conv=>lhs;whnf) rfl ?_;refine lC0 rfl ⟨⟩ ?_;refine wL (fun μi D ε w=>D=[]∧∃i:Nat,∃G5:Option Nat,∃H0:List Value,∃v5:Value,∃l5:List Int,(i+μi=(en.cells.length))∧(l5.length≤204+4000*k+130*j+4*i)∧(l5=l4++((en.cells.length:Int)::((en.cells.zip en.values).take i).flatMap fun x=>[x.1,x.2]).flatMap two)∧(U7b w0 G5 H0 v5 l5)∧(G5=none→H0=[])∧St [] w0 w [(some g8,88,[.slice J0 f0 Q0,.slice K0 O1 T0]),(some g1,38,[.slice Xm xm ym,.slice Xa xa ya,.slice Xb xb yb]),(G5,5,H0)]∧Sl ε [(1,.pointer (some ⟨g1,0,none⟩)),(3,v5),(6,.int .i64 k),(7,.int .i64 j),(8,.pointer (some ⟨g8,0,none⟩)),(9,.int .i64 i)]) (μ:=(en.cells.length)) ⟨rfl,0,r2,S0,U2,l4++two (f0:Int),by omega,by simp[two];omega,by rw[show(en.cells.length:Int)=f0 by omega];simp,q0,X0,v2,rfl⟩ ?_;rintro μi D ε w ⟨rfl,i,G5,H0,v5,l5,_,_,W1,i0,T1,S,eZ⟩;refine wK eZ (wB S.k [.o 0] rfl ⟨rfl,⟨⟩⟩ (fun H2=>?_) fun H2=>?_)
   ·refine lB S.k [.o 0] rfl ⟨rfl,⟨⟩⟩ (fun I2=>?_) (fun I2=>by exfalso;omega);refine lOn 10 S.k [] rfl ⟨⟩ (Z0a (by conv=>lhs;whnf) rfl ?_);obtain⟨n,C2,R2,_,E0,j1,_,_,A1,K1⟩:=RdS.get (x0) (i) (by omega);obtain⟨rfl,_⟩:=id K1;refine lO (S.k.a A1) [.o 0,.x C2 R2,.f 0 0] rfl ⟨rfl,⟨j1,by omega⟩,rfl,⟨⟩⟩ ?_;refine c2a q1b rfl rfl (r5a n _ _ _ _ _ i0 T1 (fun g hg=>S.blk 2 (by rw[hg];rfl)) (by omega)) ?_;rintro Y2 e3 ⟨_,_,r0,Y0,s1,h2,p2⟩;have F0:=S.callRow (k:=2) rfl h2 s1 p2;refine P0a (by conv=>lhs;whnf) rfl ?_;refine lOn 3 F0.k [] rfl ⟨⟩ ?_;obtain⟨u,Y1⟩:∃u,en.values[i]?=some u:=⟨en.values[i]'(by omega),List.getElem?_eq_getElem _⟩;refine Z0a (by conv=>lhs;whnf) rfl ?_;obtain⟨_,P0,P1,_,C0,u0,_,_,A0,B0⟩:=RdS.get (y0) (i) (by omega);obtain rfl:=Option.some.inj (Y1.symm.trans C0);obtain⟨rfl,_⟩:=id B0;refine lO (F0.k.a A0) [.o 0,.x P0 P1,.f 0 0] rfl ⟨rfl,⟨u0,by omega⟩,rfl,⟨⟩⟩ ?_;refine c2a q1b rfl rfl (r5a u _ _ _ _ _ r0 Y0 (fun g hg=>F0.blk 2 (by rw[hg];rfl)) (by simp[two];omega)) ?_;rintro S2 V2 ⟨_,_,e0,t0,z0,L0,N0⟩;have O0:=F0.callRow (k:=2) rfl L0 z0 N0;refine P0a (by conv=>lhs;whnf) rfl ?_;refine lP0 rfl ⟨by omega,⟨⟩⟩ ?_;refine⟨μi-1,by omega,rfl,(i+1),(_),(_),(_),((l5++two n)++two u),(by omega),(by simp[two];omega),(by rw[W1,H0a (T2b E0 Y1)];simp),(e0),(t0),O0,rfl⟩
   refine lP0 rfl ⟨by omega,⟨⟩⟩ ?_;refine⟨μj-1,by omega,rfl,(j+1),(_),(_),(_),(l5),(by omega),(by omega),(by rw[W1,List.take_of_length_le (show(en.cells.zip en.values).length≤i by simp;omega),V1,H0a D0];simp[X4a]),(i0),(T1),S.tail,rfl⟩
  refine lP0 rfl ⟨by omega,⟨⟩⟩ ?_;refine⟨μk-1,by omega,rfl,(k+1),(_),(_),(_),(l4),(by omega),(by omega),(by rw[V1,List.take_of_length_le (show b.length≤j by omega),hq,H0a I0];simp[P2a]),(g0),(R1),S,rfl⟩
 refine lOn 7 S.k [] rfl ⟨⟩ (Z0a (by conv=>lhs;whnf) rfl ?_);refine g1c S (k:=1) Tryz.underlying84 Tryz.underlying5 Tryz.underlying9 rfl b0 rfl rfl ?_;refine lR0 rfl ⟨⟩ (o0a rfl (by conv=>lhs;whnf) ?_);rw[List.take_of_length_le (by omega)] at hq;have U1:l3=p5b c:=hq;refine⟨⟨?_,?_⟩,S.fin⟩
 ·rw[U1];rfl
 ·rw[←U1];omega
theorem InP.grow{p:f0a}{Bs0 M0 N:List Nat}{w0 w:World}{cs:List Value}(h:InP p (Bs0++M0) w0 cs)(hK:y0a Bs0 w0 w)(hN:∀g∈N,g∈Bs0++M0∨w0.heap.size≤g)(a0:∀g∈N,g<w.heap.size):InP p N w cs:=by
 have hm:∀g∈Bs0++N,g∈Bs0++M0∨w0.heap.size≤g:=fun g hg=>by
  rcases List.mem_append.1 hg with h|h
  ·exact .inl (List.mem_append_left _ h)
  ·exact hN g h
 have hk:y0a (Bs0++N) w0 w:=hK.mono fun g hg=>List.mem_append_left _ hg;exact⟨((h.rd.more hm).keep hk).less fun g hg=>List.mem_append_right _ hg,h.ok,⟨fun hh=>((h.msk.more hm).keep hk).1 (List.mem_append_right _ hh),((h.msk.more hm).keep hk).2⟩,a0⟩
theorem m6b{p:f0a}{m:Int}{c:q0a}(h:y6a (Z5a p m) (T0a p) c)(h0:m=0):t3a c:=by
 subst h0;intro b hb;obtain⟨_,h2⟩:=i7c h;obtain⟨t,ht,rfl⟩:=List.getElem_of_mem hb;have:=h2 t
 rwa [List.getD_eq_getElem?_getD,List.getElem?_eq_getElem ht] at this
theorem B5a{p:f0a}{m:Int}{c:q0a}(hm:m=0∨m=1∨m=2)(h:y6a (Z5a p m) (T0a p) c):(m=0∧t3a c)∨m=1∨m=2:=by
 rcases hm with h0|h0|h0
 ·exact .inl ⟨h0,m6b h h0⟩
 ·exact .inr (.inl h0)
 ·exact .inr (.inr h0)
theorem v7b{A A' M0:List Nat}{n:Nat}(hA:∀g∈A',g∈A∨n≤g):∀g∈A++(A'++M0),g∈A++M0∨n≤g:=fun g hg=>by
 rcases List.mem_append.1 hg with h|h
 ·exact .inl (List.mem_append_left _ h)
 ·rcases List.mem_append.1 h with h|h
  ·rcases hA g h with h|h
   ·exact .inl (List.mem_append_left _ h)
   ·exact .inr h
  ·exact .inl (List.mem_append_right _ h)
theorem t0a.wide{A A' M0:List Nat}{w w':World}{c:q0a}{ys:List Value}(h:t0a (A++M0) w c ys)(hk:y0a A w w')(hA:∀g∈A',g∈A∨w.heap.size≤g):t0a (A'++M0) w' c ys :=
 ((h.more (v7b hA)).keep (hk.mono (fun _ hg=>List.mem_append_left _ hg))).less (fun _ hg=>List.mem_append_right _ hg)
theorem Q8b.wide{A A' M0:List Nat}{w w':World}{l:List A0a}{v:Value}(h:Q8b (A++M0) w v l)(hk:y0a A w w')(hA:∀g∈A',g∈A∨w.heap.size≤g):Q8b (A'++M0) w' v l :=
 ((RdS.more h (by omega) (v7b hA)).keep (hk.mono (fun _ hg=>List.mem_append_left _ hg))).less (fun _ hg=>List.mem_append_right _ hg)
theorem InP.wide{p:f0a}{A A' M0:List Nat}{w w':World}{cs:List Value}(h:InP p (A++M0) w cs)(hk:y0a A w w')(hA:∀g∈A',g∈A∨w.heap.size≤g)(a0:∀g∈A',g<w'.heap.size):InP p (A'++M0) w' cs :=
 h.grow hk (fun g hg=>by
  rcases List.mem_append.1 hg with h|h
  ·rcases hA g h with h|h
   ·exact .inl (List.mem_append_left _ h)
   ·exact .inr h
  ·exact .inl (List.mem_append_right _ h)) (fun g hg=>by
  rcases List.mem_append.1 hg with h1|h1
  ·exact a0 g h1
  ·exact Nat.lt_of_lt_of_le (h.lt g (List.mem_append_right _ h1)) hk.size)
abbrev N9a(gS gmap:Nat)(G:Option Nat)(Bs:List Nat):List Nat:=gS::gmap::(G.toList++Bs)
structure t3b (p:f0a) (m:Int) (gseen gmap gP gY gS l:Nat) (c0 c1 c2 c3:Value) (Bs0 M0:List Nat) (B:Nat) (w0:World) (J:Nat→List Nat→List Nat→World→Prop) (V:List K2a) (Bs:List Nat) (G:Option Nat) (cs:List Value) (v:Value) (w:World):Prop where
 srch:P8b m gseen gmap gP gY gS l c0 c1 c2 c3 Bs M0 w V G cs v
 j:J V.length Bs (gS::gmap::G.toList) w
 le:V.length≤B
 gnew:∀g∈gmap::G.toList,w0.heap.size≤g
 bnew:∀g∈Bs,g∈Bs0∨w0.heap.size≤g
 prog:InP p (N9a gS gmap G Bs++M0) w [c0,c1,c2,c3]
 vis:X3a p m V
 old:w0.heap.size≤w.heap.size
 m0:∀g∈M0,g<w0.heap.size
section
variable {p:f0a} {m:Int} {gseen gmap gP gY gS l:Nat} {c0 c1 c2 c3:Value} {Bs0 M0:List Nat} {B:Nat} {w0:World} {J:Nat→List Nat→List Nat→World→Prop} {Q:World→Prop} {V:List K2a} {Bs:List Nat} {G:Option Nat} {cs:List Value} {v:Value} {w w':World}
theorem t3b.ts(h:t3b p m gseen gmap gP gY gS l c0 c1 c2 c3 Bs0 M0 B w0 J V Bs G cs v w):∀g∈gS::gmap::G.toList,g∉Bs∧(g=gS∨w0.heap.size≤g):=fun g hg=>⟨h.srch.ne g (by simp at hg ⊢;grind),by
 rcases List.mem_cons.1 hg with rfl|hg
 ·exact .inl rfl
 ·exact .inr (h.gnew g hg)⟩
theorem t3b.later(h:t3b p m gseen gmap gP gY gS l c0 c1 c2 c3 Bs0 M0 B w0 J V Bs G cs v w)(hJ:a9b p m l gS c0 c1 c2 c3 B M0 w0 J Q)(hB:F0a [] w w'):t3b p m gseen gmap gP gY gS l c0 c1 c2 c3 Bs0 M0 B w0 J V Bs G cs v w' :=
 have hk:y0a [] w w':=⟨hB.size,hB.block⟩
 ⟨h.srch.keep hk.of_nil (fun _ hg=>.inl hg),hJ.own _ _ _ _ _ _ h.j h.ts (fun _ hg=>.inl hg) ⟨hB.os,hB.tape,hB.output,hB.size,fun k a0 _=>hB.block k a0 (by simp)⟩,h.le,h.gnew,h.bnew,h.prog.keep hk.of_nil,h.vis,Nat.le_trans h.old hB.size,h.m0⟩
theorem t3b.good(h:t3b p m gseen gmap gP gY gS l c0 c1 c2 c3 Bs0 M0 B w0 J V Bs G cs v w):∀y∈V,c3a p y.conf:=fun _ hy=>E4a h.prog.ok (q0b h.vis hy)
theorem t3b.rd(h:t3b p m gseen gmap gP gY gS l c0 c1 c2 c3 Bs0 M0 B w0 J V Bs G cs v w)(hB:B≤100000):RdS (gS::gmap::(Bs++M0)) w 7 (g6a (N9a gS gmap G Bs++M0) w) v V:=by
 refine(fun hh:RdS (gS::gmap::(Bs++M0)) w 7 (g6a (G.toList++(gS::gmap::(Bs++M0))) w) v V=>hh.mono fun _ _ hr=>hr.more (fun g hg=>.inl (by simp only[N9a,List.mem_cons,List.mem_append] at hg ⊢;grind))) ?_;refine B1a.rdG h.srch.row h.srch.st (k:=1) rfl (fun g hg hh=>?_) (by have:=h.le;omega);have hb:=h.srch.rowb g hg;simp only[List.mem_cons,List.mem_append] at hh;rcases hh with rfl|rfl|hh|hh
 ·exact a6a hb h.srch.blk (by decide) rfl
 ·exact h.srch.map.ne hb rfl
 ·exact h.srch.ne g (by simp[hg]) hh
 ·have h1:=h.m0 g hh;have h2:=h.gnew g (by simp[hg]);omega
theorem t7b{a0:List Nat}{G':Option Nat}{n:Nat}(hB:∀g∈a0,g∈Bs∨n≤g)(hG:∀g∈G'.toList,g∈G.toList∨n≤g):∀g∈N9a gS gmap G' a0,g∈N9a gS gmap G Bs∨n≤g:=fun g hg=>by
 simp only[N9a,List.mem_cons,List.mem_append] at hg ⊢;rcases hg with rfl|rfl|hg|hg
 ·simp
 ·simp
 ·rcases hG g hg with h|h
  ·simp[h]
  ·exact .inr h
 ·rcases hB g hg with h|h
  ·simp[h]
  ·exact .inr h
theorem t3b.next(h:t3b p m gseen gmap gP gY gS l c0 c1 c2 c3 Bs0 M0 B w0 J V Bs G cs v w)(hJ:a9b p m l gS c0 c1 c2 c3 B M0 w0 J Q){V':List K2a}{a0:List Nat}{G':Option Nat}{b0:List Value}{v':Value}(hS:P8b m gseen gmap gP gY gS l c0 c1 c2 c3 a0 M0 w' V' G' b0 v')(hj:J V'.length a0 (gS::gmap::G'.toList) w')(hK:y0a (N9a gS gmap G Bs) w w')(hB:∀g∈a0,g∈Bs∨w.heap.size≤g)(hG:∀g∈G'.toList,g∈G.toList∨w.heap.size≤g)(d0:V'.length≤B)(hv:X3a p m V'):
 t3b p m gseen gmap gP gY gS l c0 c1 c2 c3 Bs0 M0 B w0 J V' a0 G' b0 v' w' where
 srch:=hS
 j:=hj
 le:=d0
 gnew:=fun g hg=>by
  rcases List.mem_cons.1 hg with rfl|hg
  ·exact h.gnew _ (by simp)
  ·rcases hG g hg with h1|h1
   ·exact h.gnew g (List.mem_cons_of_mem _ h1)
   ·exact Nat.le_trans h.old h1
 bnew:=fun g hg=>by
  rcases hB g hg with h1|h1
  ·exact h.bnew g h1
  ·exact .inr (Nat.le_trans h.old h1)
 prog:=h.prog.wide hK (t7b hB hG) (fun g hg=>by
  simp only[N9a,List.mem_cons,List.mem_append] at hg;rcases hg with rfl|rfl|hg|hg
  ·exact hS.lt _ (by simp)
  ·exact hS.lt _ (by simp)
  ·exact hS.lt _ (by simp only[List.mem_append];exact .inr hg)
  ·exact hJ.lt _ _ _ _ hj g hg)
 vis:=hv
 old:=Nat.le_trans h.old hK.size
 m0:=h.m0
theorem t3b.found(h:t3b p m gseen gmap gP gY gS l c0 c1 c2 c3 Bs0 M0 B w0 J V Bs G cs v w)(hJ:a9b p m l gS c0 c1 c2 c3 B M0 w0 J Q)(d0:B≤100000){x:K2a}{xs:List Value}(hX:g6a (N9a gS gmap G Bs++M0) w xs x)(hx:c3a p x.conf)(hv:X3a p m (M2a V x)):
 M0a Tryz.prog 111 #[.agg xs.toArray,.pointer (some ⟨gseen,0,none⟩),.pointer (some ⟨gP,0,none⟩),.pointer (some ⟨gY,0,none⟩)] w fun r w'=>(r=.bool true∧∃a0 G' b0 v',t3b p m gseen gmap gP gY gS l c0 c1 c2 c3 Bs0 M0 B w0 J (M2a V x) a0 G' b0 v' w'∧y0a (N9a gS gmap G Bs) w w'∧∀g∈N9a gS gmap G' a0,g∈N9a gS gmap G Bs∨w.heap.size≤g)∨(r=.bool false∧Q w') :=
 (e2c p m h.prog.ok gseen gmap gP gY gS l c0 c1 c2 c3 Bs M0 B d0 w0 w J Q hJ V G cs v x xs h.srch h.j (hX.more (fun g hg=>.inl (by simpa[N9a,List.append_assoc] using hg))) h.good hx hv h.le (fun g hg=>by
   rcases List.mem_cons.1 hg with rfl|hg
   ·exact .inl rfl
   ·exact .inr (h.gnew g hg)) h.old (fun g hg=>⟨Nat.lt_of_lt_of_le (h.m0 g hg) h.old,fun hh=>by have h1:=h.m0 g hg;have h2:=h.gnew g (by simp[hh]);omega⟩)).mono fun r w' hr=>by
   rcases hr with⟨rfl,a0,G',b0,v',h1,h2,h3,h4,h5,h6⟩|hr
   ·exact .inl ⟨rfl,a0,G',b0,v',h.next hJ h1 h2 h3 h4 h5 h6 hv,h3,t7b h4 h5⟩
   ·exact .inr hr
end
theorem M8a{w:World}{gS:Nat}{c0 c1 c2 c3 u v:Value}(h:p0a w (gS,80,[c0,c1,c2,c3,u,v])):t1a w gS 0 [c0,c1,c2,c3]:=fun j v hj=>by
 rw[Nat.zero_add];refine h.cell (o:=j) ?_
 match j,hj with
 | 0,hj=>exact hj
 | 1,hj=>exact hj
 | 2,hj=>exact hj
 | 3,hj=>exact hj
 | j+4,hj=>simp at hj
theorem B0b(p:f0a)(c:q0a)(m:Int)(x:A0a)(hm:(m=0∧t3a c)∨m=1∨m=2)(hx:x∈G0a p m c)(M:List Nat)(w0:World)(cs xs:List Value)(hI:InP p M w0 cs)(hX:t0a M w0 c xs)(hf:c3a p c):
 M0a Tryz.prog 115 #[.agg cs.toArray,.int .i64 m,.agg xs.toArray,.agg #[.int .i64 x.thread,.int .i64 x.step,.int .i64 x.cell]] w0 fun v w'=>(∃ys,v=.tuple #[.agg ys.toArray,.int .i64 0]∧t0a M w' (doC p m c x) ys)∧Below w0.heap.size w0 w':=by
 have:=M7b p c m x hm M w0 cs xs hI hX hf;rw[m4a hx] at this;exact this
theorem A6c(p:f0a)(m:Int)(hm:m=0∨m=1∨m=2)(gP gS l:Nat)(c0 c1 c2 c3:Value)(Bs0 M0:List Nat)(B:Nat)(T0:B≤100000)(w0:World)(J:Nat→List Nat→List Nat→World→Prop)(Q:World→Prop)(hI:InP p (gS::(Bs0++M0)) w0 [c0,c1,c2,c3])
 (J0:p0a w0 (gP,77,[.pointer (some ⟨gS,0,none⟩)])) (C0:p0a w0 (gS,80,[c0,c1,c2,c3,.int .i64 m,.slice none 0 0])) (f2:gP∉Bs0) (C1:gS∉Bs0) (hJ:a9b p m l gS c0 c1 c2 c3 B M0 w0 J Q) (A1:J 0 Bs0 [gS] w0) :
 M0a Tryz.prog 110 #[.func (.yield l) #[] #[],.pointer (some ⟨gP,0,none⟩)] w0 fun _ w'=>(∃N Bs,(e3a p m N).length≤N∧(e3a p m N).length≤B∧∃Ts,(∀g∈Ts,g∉Bs∧(g=gS∨w0.heap.size≤g))∧J (e3a p m N).length Bs Ts w')∨Q w':=by
 have S:=St.refl w0;have hp:=hI.ok;have k1:=J0.cell (o:=0) rfl;have d2:=M8a C0;have a2:∀g∈Bs0,g<w0.heap.size:=hJ.lt _ _ _ _ A1;refine a0a Tryz.func110 rfl Tryz.ntmps110 rfl ?_;refine wO0 rfl ⟨⟩ (Z6a S (v:=.func _ _ _) rfl rfl rfl ?_);intro g2 w2 S2 X2 G2;refine lO0 rfl ⟨⟩ (G4a (k:=9) S2 rfl ?_);intro p0 D2 Q1 x2 P1 h0;refine m0a Q1 O9c rfl rfl ?_;intro g3 w3 S3 X3 G3;replace h0:=h0.keep X3 (List.not_mem_nil);refine B0a (kk:=0) S3 z9c rfl (by conv=>lhs;whnf) rfl rfl (by exact Nat.le_of_ble_eq_true rfl) ?_;intro n1 s0 Q0;replace h0:=h0.keep Q0 (fun hh=>by rw[List.mem_singleton] at hh;exact h0.ne (S3.blk 0 rfl) hh);refine lO0 rfl ⟨⟩ (N1a rfl rfl ?_);refine lO0 rfl ⟨⟩ (s0a O4a rfl (by exact s0.old k1) rfl ?_);refine lO0 rfl ⟨⟩ (w1a b5a rfl (d2.keep (s0.keep0 []) (by simp)) (by rfl) rfl ?_);have E0:w0.heap.size≤p0:=Nat.le_trans S2.size P1;have z1:InP p (N9a gS p0 none Bs0++M0) n1 [c0,c1,c2,c3]:=InP.grow (Bs0:=[]) (M0:=gS::(Bs0++M0)) hI (s0.keep0 []) (fun g hg=>by
  simp only[N9a,Option.toList_none,List.nil_append,List.cons_append,List.mem_cons] at hg ⊢;rcases hg with rfl|rfl|hg
  ·simp
  ·exact .inr E0
  ·exact .inl (.inr hg)) (fun g hg=>by
  simp only[N9a,Option.toList_none,List.nil_append,List.cons_append,List.mem_cons] at hg;have:=s0.size;rcases hg with rfl|rfl|hg
  ·have:=C0.lt;simp at this;omega
  ·exact h0.lt
  ·have:=hI.lt g (List.mem_cons_of_mem _ hg);omega)
 refine x0a s0 p8c rfl rfl (B4b p _ _ _ z1) ?_;rintro z2 q2 ⟨xs,rfl,hx⟩ q0 p1;replace h0:=h0.keep p1 (List.not_mem_nil);obtain⟨Ym,u2,zm,Ya,s2,za,Yb,t2,zb,rfl,-⟩:=hx.open_;refine f1a C9b (vs:=[(0,.agg _),(1,.int .i64 _)]) (cs:=[_,_,_,_,_,_,_]) rfl rfl rfl rfl ?_;have O1:t3b p m g3 p0 gP g2 gS l c0 c1 c2 c3 Bs0 M0 B w0 J [] Bs0 none [] (.slice none 0 0) q2:=by
  refine⟨⟨q0.blk 0 rfl,h0,x1a (q0.keep0 []) (by simp) J0,q0.blk 1 rfl,x1a (q0.keep0 []) (by simp) C0,B1a.nil,fun _=>rfl,fun g hg=>(by cases hg),fun g hg hh=>?_⟩,hJ.own 0 Bs0 [gS] _ w0 _ A1 (fun g hg=>by rw[List.mem_singleton] at hg;subst hg;exact⟨C1,.inl rfl⟩) (fun g hg=>by simp only[Option.toList_none,List.mem_cons,List.not_mem_nil,or_false] at hg ⊢;rcases hg with rfl|rfl;exact .inl rfl;exact .inr E0) ⟨q0.below.os,q0.below.tape,q0.below.output,q0.below.size,fun k hk _=>q0.below.block k hk (by simp)⟩,Nat.zero_le _,fun g hg=>?_,fun g hg=>.inl hg,z1.keep (p1.of_nil),⟨0,List.nil_prefix⟩,q0.size,fun g hg=>hI.lt g (by simp[hg])⟩
  ·have h1:=a2 g hh;have h2:w0.heap.size≤g3:=by simpa using q0.new 0 rfl
   have h3:w0.heap.size≤g2:=by simpa using q0.new 1 rfl
   simp only[List.mem_append,List.mem_cons,List.not_mem_nil,or_false,Option.toList_none] at hg;rcases hg with rfl|rfl|rfl|rfl|rfl
   ·omega
   ·omega
   ·exact f2 hh
   ·omega
   ·exact C1 hh
  ·simp only[Option.toList_none,List.mem_cons,List.not_mem_nil,or_false] at hg;subst hg;exact E0
 have E1:M2a [] (⟨T0a p,-1,⟨0,0,0⟩⟩:K2a)=e3a p m 0:=by simp[M2a,e3a,s0d]
 have i0:i64 0:=by unfold i64;omega
 refine e5a u1c rfl rfl rfl (O1.found hJ T0 (x:=⟨T0a p,-1,⟨0,0,0⟩⟩) (xs:=[.slice Ym u2 zm,.slice Ya s2 za,.slice Yb t2 zb,.int .i64 (-1),.int .i64 0,.int .i64 0,.int .i64 0]) ⟨_,rfl,hx,by unfold i64;simp only;omega,M1a.of i0 i0 i0⟩ (y5a hp) (by rw[E1];exact⟨0,List.prefix_refl _⟩)) ?_;rw[E1];rintro A2 E2 (⟨rfl,M1,G1,W1,v1,O2,K2,F2⟩|⟨rfl,V0⟩)
 ·refine lC0 rfl ⟨⟩ (wL (fun μo D ε w=>D=[]∧∃i:Nat,∃V:List K2a,∃Bs:List Nat,∃G:Option Nat,∃cs:List Value,∃v:Value,(i+μo=B)∧(V=e3a p m i)∧(t3b p m g3 p0 gP g2 gS l c0 c1 c2 c3 Bs0 M0 B w0 J V Bs G cs v w)∧ε 1=.pointer (some ⟨gP,0,none⟩)∧ε 4=.func (.func 111) #[] #[.pointer (some ⟨g3,0,none⟩),.pointer (some ⟨gP,0,none⟩),.pointer (some ⟨g2,0,none⟩)]∧ε 5=.int .i64 i) (μ:=B) ⟨rfl,0,_,M1,G1,W1,v1,by omega,rfl,O2,rfl,rfl,rfl⟩ ?_);rintro μo D ε w ⟨rfl,i,V,Bs,G,cs,v,_,hV,hO,e1,e4,e5⟩;refine r0a 1 e1 (r0a 4 e4 (r0a 5 e5 ?_));clear e1 e4 e5;replace S:=St.refl w;obtain⟨_,_,rfl⟩:=hO.srch.row.form;have nP:gP∉([]:List Nat):=by simp
  have nS:gS∉([]:List Nat):=by simp
  have cP:=hO.srch.ptr.cell (o:=0) rfl;have cM:=hO.srch.blk.cell (o:=4) rfl;have cV:=hO.srch.blk.cell (o:=5) rfl;have cR:t1a w gS 0 [c0,c1,c2,c3]:=M8a hO.srch.blk;have i2:=hO.le;refine wO0 rfl ⟨⟩ (s0a O4a rfl (by exact S.oldM nP cP) rfl ?_);refine lO0 rfl ⟨⟩ (s0a k8a rfl (by exact S.oldM nS cV) rfl ?_);refine lB0 rfl ⟨⟩ (fun Y1=>?_) fun Y1=>?_
  ·refine lO0 rfl ⟨⟩ (s0a O4a rfl (by exact S.oldM nP cP) rfl ?_);refine lO0 rfl ⟨⟩ (s0a k8a rfl (by exact S.oldM nS cV) rfl ?_);obtain⟨y,U1,n2,_,m1,R0,_,_,a1,i1⟩:=RdS.get ((hO.rd T0)) (i) (by omega);obtain⟨_,rfl,B0,-,-⟩:=i1;obtain⟨Xm,xm,ym,Xa,xa,ya,Xb,xb,yb,rfl,-⟩:=B0.open_;refine lO S.k [.x U1 n2] rfl ⟨⟨R0,by omega⟩,⟨⟩⟩ (w1a a1a rfl (t1a.sub a1 0 3) rfl rfl ?_);refine m0a S Q3a rfl rfl ?_;intro g6 w6 S6 X6 G6
   first|refine e0a (kk:=0) (vs:=[_,_,_]) S6 e2a rfl rfl rfl rfl rfl rfl rfl ?_
   intro r2 G0 T1;dsimp only[k0a,List.set] at G0;refine lC0 rfl ⟨⟩ (K1c b0a (fun i=>[0,1,2,3,4,5,6,7,8,11].contains i) [0,1,2,3,4,5,6,7,8,9,10,11] (by kernel_rfl) (by kernel_rfl) (Cl _ _ _ _) (Cl.start G0) ?_);rintro J2 ⟨o0,u0⟩;refine z1a ⟨o0,u0⟩ rfl rfl rfl ?_;refine j0a O4a rfl (fun w1 hw=>by exact hw.1.oldM nP cP) rfl ?_;refine d0a ?_;refine z1a ⟨o0,u0⟩ rfl rfl rfl ?_;refine o3a rfl rfl ?_;refine d0a ?_;refine z1a ⟨o0,u0⟩ rfl rfl rfl ?_;refine z0a I2b rfl rfl ?_;refine d0a ?_;refine z1a ⟨o0,u0⟩ rfl rfl rfl ?_;refine J1a b5a rfl (fun w1 hw=>cR.keep hw.1.keepM (by simp)) (by rfl) rfl ?_;refine d0a ?_;refine z1a ⟨o0,u0⟩ rfl rfl rfl ?_;refine j0a O4a rfl (fun w1 hw=>by exact hw.1.oldM nP cP) rfl ?_;refine d0a ?_;refine z1a ⟨o0,u0⟩ rfl rfl rfl ?_;refine o3a rfl rfl ?_;refine d0a ?_;refine z1a ⟨o0,u0⟩ rfl rfl rfl ?_;refine z0a e2b rfl rfl ?_;refine d0a ?_;refine z1a ⟨o0,u0⟩ rfl rfl rfl ?_;refine j0a K0a rfl (fun w1 hw=>by exact hw.1.oldM nS cM) rfl ?_;refine d0a ?_;refine z1a ⟨o0,u0⟩ rfl rfl rfl ?_;refine J1a a1a rfl (fun w1 hw=>hw.1.cells 0 rfl) rfl rfl ?_;refine d0a ?_;refine q8a ⟨o0,u0⟩ rfl rfl rfl rfl ?_;have A0:=q0b hO.vis (c0a m1);refine x0a o0 P7c rfl rfl (x9a p y.conf m (B5a hm A0) (N9a gS p0 G Bs++M0) _ _ _ (hO.prog.keep (o0.keep0 _)) (B0.keep (o0.keep0 _)) (E4a hp A0)) ?_;rintro B2 H2 hE y0 R1;have t0:=u0.trans R1;obtain⟨Ae,ne,ce,rfl⟩:=hE.form;obtain⟨_,-,_⟩:=hE.len;refine L0a ⟨rfl,?_⟩;refine q8a ⟨y0,t0⟩ rfl rfl rfl rfl ?_;refine N7c W2a.slT rfl rfl ?_;refine L0a ⟨rfl,?_⟩;refine z1a ⟨y0,t0⟩ rfl rfl rfl ?_;refine h1a (v:=.int .i64 _) rfl rfl ?_;refine d0a ?_;refine j5a ⟨y0,t0⟩ ?_;refine fC0 rfl ⟨⟩ ?_;refine wL (fun μ D ε w=>D=[]∧∃j:Nat,∃V2:List K2a,∃v0:List Nat,∃G2:Option Nat,∃cs2:List Value,∃v2:Value,(j+μ=(G0a p m y.conf).length)∧(V2=i1b p m i y.conf V ((G0a p m y.conf).take j))∧(t3b p m g3 p0 gP g2 gS l c0 c1 c2 c3 Bs0 M0 B w0 J V2 v0 G2 cs2 v2 w)∧(p0a w (g6,38,[.slice Xm xm ym,.slice Xa xa ya,.slice Xb xb yb]))∧(g6∉N9a gS p0 G2 v0)∧(t0a (N9a gS p0 G2 v0++M0) w y.conf [.slice Xm xm ym,.slice Xa xa ya,.slice Xb xb yb])∧(Q8b (N9a gS p0 G2 v0++M0) w (.slice Ae ne ce) (G0a p m y.conf))∧ε 1=.pointer (some ⟨gP,0,none⟩)∧ε 4=.func (.func 111) #[] #[.pointer (some ⟨g3,0,none⟩),.pointer (some ⟨gP,0,none⟩),.pointer (some ⟨g2,0,none⟩)]∧ε 5=.int .i64 i∧ε 6=.pointer (some ⟨g6,0,none⟩)∧ε 48=.slice Ae ne ce∧ε 49=.int .i64 ne∧ε 50=.int .i64 j) (μ:=(G0a p m y.conf).length) ⟨rfl,0,_,Bs,G,cs,_,by omega,rfl,hO.later hJ y0.below,y0.blk 0 rfl,fun hh=>(by have:=hO.prog.lt g6 (List.mem_append_left _ hh);omega),B0.keep (y0.keep0 _),hE,rfl,rfl,rfl,rfl,rfl,rfl,rfl⟩ ?_;rintro μ D ε w ⟨rfl,j,V2,v0,G2,cs2,v2,_,B1,x0,Z0,n6,X0,y1,e1,e4,e5,e6,s1,t1,u1⟩;refine r0a 1 e1 (r0a 4 e4 (r0a 5 e5 (r0a 6 e6 (r0a 48 s1 (r0a 49 t1 (r0a 50 u1 ?_))))));clear e1 e4 e5 e6 s1 t1 u1;obtain⟨wb,m2⟩:∃wb,wb=w:=⟨_,rfl⟩;subst m2;replace y0:St [g6] wb wb [(some g6,38,[.slice Xm xm ym,.slice Xa xa ya,.slice Xb xb yb])]:=St.borrow1 Z0;have L0:gP∉[g6]:=fun hh=>a6a x0.srch.ptr Z0 (by decide) (List.mem_singleton.1 hh);have N0:gS∉[g6]:=fun hh=>a6a x0.srch.blk Z0 (by decide) (List.mem_singleton.1 hh);have K0:=x0.srch.ptr.cell (o:=0) rfl;have q1:=x0.srch.blk.cell (o:=4) rfl;have r1:=M8a x0.srch.blk;have KW:=y0a.refl [] wb;have g1:∀g∈N9a gS p0 G2 v0++M0,g<wb.heap.size:=x0.prog.lt;refine wB0 rfl ⟨⟩ (fun Z1=>?_) fun Z1=>?_
   ·obtain⟨x,V1,o2,_,D0,S0,_,f1,b1,j1⟩:=RdS.get ((RdS.keepW y1 (KW.mono (by simp)) (fun _ _ h=>h))) (j) (by omega);obtain⟨rfl,H1,I1,J1⟩:=j1;refine lO (y0.k.b b1) [.x V1 o2,.v 0] rfl ⟨⟨rfl,f1⟩,⟨S0,by omega⟩,⟨⟩⟩ (m0a y0 H2c rfl rfl ?_);intro g8 w8 S8 X8 G8;have O0:=Nat.le_trans KW.size G8;replace KW:=KW.trans X8;refine e0a (kk:=0) (vs:=[_,_,_]) S8 i4b rfl rfl rfl rfl rfl rfl rfl ?_;intro f0 j0 H0;dsimp only[k0a,List.set] at j0;replace KW:=KW.fresh H0 (by first|exact O0);refine lCn 2 j0.k [] rfl ⟨⟩ (wX (fun D ε w=>D=[]∧∃g9:Nat,∃g8:Nat,∃zs:List Value,∃x:A0a,(y0a [] wb w)∧((G0a p m y.conf)[j]?=some x)∧(t0a (N9a gS p0 G2 v0++M0) w (doC p m y.conf x) zs)∧(i64 x.thread∧i64 x.step∧i64 x.cell)∧St [g6] wb w [(some g9,38,zs),(some g8,44,[.int .i64 x.thread,.int .i64 x.step,.int .i64 x.cell]),(some g6,38,[.slice Xm xm ym,.slice Xa xa ya,.slice Xb xb yb])]∧Sl ε [(1,.pointer (some ⟨gP,0,none⟩)),(4,.func (.func 111) #[] #[.pointer (some ⟨g3,0,none⟩),.pointer (some ⟨gP,0,none⟩),.pointer (some ⟨g2,0,none⟩)]),(5,.int .i64 i),(6,.pointer (some ⟨g6,0,none⟩)),(8,.pointer (some ⟨g8,0,none⟩)),(9,.pointer (some ⟨g9,0,none⟩)),(10,.int .i64 0),(48,.slice Ae ne ce),(49,.int .i64 ne),(50,.int .i64 j)]) ?_ ?_)
    ·have D1:=c0a D0;refine E9c b0a (fun i=>[0,1,2,3,4,5,6,7,8,9,11,12,13,16].contains i) 14 10 [14,0,1,2,3,4,5,6,7,8,9,10,11,12,13,15,16] [0,1,2,3,4,5,6,7,8,9,10,14,11,12,13,15,16] (by kernel_rfl) (G1d j0) ?_ ?_
     ·have d0:=j0.drew;have n0:y0a [] f0 f0.drew:=s2a _ _;generalize f0.drew=o1 at d0 n0 ⊢;replace KW:=KW.trans n0;have a0:=n0;refine o7b ⟨d0,a0⟩ rfl rfl rfl ?_;refine m0a d0 Q3a rfl rfl ?_;intro g9 w9 S9 X9 G9;have r0:=Nat.le_trans KW.size G9;have g0:=Nat.le_trans a0.size G9;replace KW:=KW.trans X9;replace a0:=a0.trans X9;refine L0a ⟨rfl,?_⟩;refine b4a ⟨S9.tail,a0⟩ rfl rfl rfl ?_;refine j0a O4a rfl (fun w1 hw=>by exact hw.1.oldM L0 K0) rfl ?_;refine d0a ?_;refine b4a ⟨S9.tail,a0⟩ rfl rfl rfl ?_;refine o3a rfl rfl ?_;refine d0a ?_;refine b4a ⟨S9.tail,a0⟩ rfl rfl rfl ?_;refine z0a I2b rfl rfl ?_;refine d0a ?_;refine b4a ⟨S9.tail,a0⟩ rfl rfl rfl ?_;refine J1a b5a rfl (fun w1 hw=>r1.keep hw.1.keepM N0) (by rfl) rfl ?_;refine d0a ?_;refine b4a ⟨S9.tail,a0⟩ rfl rfl rfl ?_;refine j0a O4a rfl (fun w1 hw=>by exact hw.1.oldM L0 K0) rfl ?_;refine d0a ?_;refine b4a ⟨S9.tail,a0⟩ rfl rfl rfl ?_;refine o3a rfl rfl ?_;refine d0a ?_;refine b4a ⟨S9.tail,a0⟩ rfl rfl rfl ?_;refine z0a e2b rfl rfl ?_;refine d0a ?_;refine b4a ⟨S9.tail,a0⟩ rfl rfl rfl ?_;refine j0a K0a rfl (fun w1 hw=>by exact hw.1.oldM N0 q1) rfl ?_;refine d0a ?_;refine b4a ⟨S9.tail,a0⟩ rfl rfl rfl ?_;refine J1a a1a rfl (fun w1 hw=>hw.1.cells 1 rfl) rfl rfl ?_;refine d0a ?_;refine b4a ⟨S9.tail,a0⟩ rfl rfl rfl ?_;refine J1a e6a rfl (fun w1 hw=>hw.1.cells 0 rfl) rfl rfl ?_;refine d0a ?_;refine o7b ⟨S9.tail,a0⟩ rfl rfl rfl ?_;refine x0a S9 Y8b rfl rfl (B0b p y.conf m x (B5a hm A0) D1 (g9::(N9a gS p0 G2 v0++M0)) _ _ _ (InP.grow (Bs0:=[]) x0.prog KW (fun g hg=>by rcases List.mem_cons.1 hg with rfl|hg;exact .inr r0;exact .inl hg) (fun g hg=>by rcases List.mem_cons.1 hg with rfl|hg;exact S9.lt 0 rfl;have:=g1 g hg;have:=KW.size;omega)) ((X0.more (fun g hg=>by rcases List.mem_cons.1 hg with rfl|hg;exact .inr r0;exact .inl hg)).keep KW.of_nil) (E4a hp A0)) ?_;rintro p2 K1 ⟨zs,rfl,hz⟩ z0 I0;replace KW:=KW.trans I0;replace a0:=a0.trans I0;obtain⟨Ua,ua,va,Ub,ub,vb,Uc,uc,vc,rfl,-⟩:=hz.open_;refine L0a ⟨rfl,?_⟩;refine b4a ⟨z0.tail,a0⟩ rfl rfl rfl ?_;refine h1a (v:=.tuple _) rfl rfl ?_;refine d0a ?_;refine b4a ⟨z0.tail,a0⟩ rfl rfl rfl ?_;refine B2a rfl rfl rfl ?_;refine d0a ?_;refine b4a ⟨z0.tail,a0⟩ rfl rfl rfl ?_;refine B2a rfl rfl rfl ?_;refine d0a ?_;refine o7b ⟨z0.tail,a0⟩ rfl rfl rfl ?_;refine e0a (kk:=0) (vs:=[_,_,_]) z0 e2a rfl rfl rfl rfl rfl rfl rfl ?_;intro F0 b0 e0;dsimp only[k0a,List.set] at b0;replace KW:=KW.fresh e0 (by exact r0);replace a0:=a0.fresh e0 (by exact g0);replace hz:=hz.keep (e0.mono (by simp));refine L0a ⟨rfl,?_⟩;refine b4a ⟨b0.tail,a0⟩ rfl rfl rfl ?_;refine z3a (v:=.int .i64 _) rfl rfl ?_;refine d0a ?_;refine M6b ⟨b0.tail,a0⟩ ?_;refine fP0 rfl ⟨⟩ ⟨rfl,(g9),(g8),(_),(x),(KW),(D0),((by exact hz.less (fun _ hg=>List.mem_cons_of_mem _ hg))),(⟨H1,I1,J1⟩),b0,rfl⟩
     have d0:=j0.drew;have n0:y0a [] f0 f0.drew:=s2a _ _;generalize f0.drew=o1 at d0 n0 ⊢;replace KW:=KW.trans n0;have a0:=n0;refine b4a ⟨d0,a0⟩ rfl rfl rfl ?_;refine j0a O4a rfl (fun w1 hw=>by exact hw.1.oldM L0 K0) rfl ?_;refine d0a ?_;refine b4a ⟨d0,a0⟩ rfl rfl rfl ?_;refine o3a rfl rfl ?_;refine d0a ?_;refine b4a ⟨d0,a0⟩ rfl rfl rfl ?_;refine z0a I2b rfl rfl ?_;refine d0a ?_;refine b4a ⟨d0,a0⟩ rfl rfl rfl ?_;refine J1a b5a rfl (fun w1 hw=>r1.keep hw.1.keepM N0) (by rfl) rfl ?_;refine d0a ?_;refine b4a ⟨d0,a0⟩ rfl rfl rfl ?_;refine j0a O4a rfl (fun w1 hw=>by exact hw.1.oldM L0 K0) rfl ?_;refine d0a ?_;refine b4a ⟨d0,a0⟩ rfl rfl rfl ?_;refine o3a rfl rfl ?_;refine d0a ?_;refine b4a ⟨d0,a0⟩ rfl rfl rfl ?_;refine z0a e2b rfl rfl ?_;refine d0a ?_;refine b4a ⟨d0,a0⟩ rfl rfl rfl ?_;refine j0a K0a rfl (fun w1 hw=>by exact hw.1.oldM N0 q1) rfl ?_;refine d0a ?_;refine b4a ⟨d0,a0⟩ rfl rfl rfl ?_;refine J1a a1a rfl (fun w1 hw=>hw.1.cells 1 rfl) rfl rfl ?_;refine d0a ?_;refine b4a ⟨d0,a0⟩ rfl rfl rfl ?_;refine J1a e6a rfl (fun w1 hw=>hw.1.cells 0 rfl) rfl rfl ?_;refine d0a ?_;refine o7b ⟨d0,a0⟩ rfl rfl rfl ?_;refine x0a d0 Y8b rfl rfl (B0b p y.conf m x (B5a hm A0) D1 (N9a gS p0 G2 v0++M0) _ _ _ (x0.prog.keep (KW.mono (by simp))) (X0.keep (KW.mono (by simp))) (E4a hp A0)) ?_;rintro p2 K1 ⟨zs,rfl,hz⟩ z0 I0;replace KW:=KW.trans I0;replace a0:=a0.trans I0;obtain⟨Ua,ua,va,Ub,ub,vb,Uc,uc,vc,rfl,-⟩:=hz.open_;have KZ:=y0a.refl [] K1;refine L0a ⟨rfl,?_⟩;refine o7b ⟨z0,a0⟩ rfl rfl rfl ?_;refine m0a z0 Q3a rfl rfl ?_;intro g9 w9 S9 X9 G9;have r0:=Nat.le_trans KW.size G9;have g0:=Nat.le_trans a0.size G9;have P0:=Nat.le_trans KZ.size G9;replace KW:=KW.trans X9;replace a0:=a0.trans X9;replace KZ:=KZ.trans X9;refine L0a ⟨rfl,?_⟩;refine b4a ⟨S9.tail,a0⟩ rfl rfl rfl ?_;refine h1a (v:=.tuple _) rfl rfl ?_;refine d0a ?_;refine b4a ⟨S9.tail,a0⟩ rfl rfl rfl ?_;refine B2a rfl rfl rfl ?_;refine d0a ?_;refine b4a ⟨S9.tail,a0⟩ rfl rfl rfl ?_;refine B2a rfl rfl rfl ?_;refine d0a ?_;refine o7b ⟨S9.tail,a0⟩ rfl rfl rfl ?_;refine e0a (kk:=0) (vs:=[_,_,_]) S9 e2a rfl rfl rfl rfl rfl rfl rfl ?_;intro F0 b0 e0;dsimp only[k0a,List.set] at b0;replace KW:=KW.fresh e0 (by exact r0);replace a0:=a0.fresh e0 (by exact g0);replace KZ:=KZ.fresh e0 (by exact P0);refine L0a ⟨rfl,?_⟩;refine b4a ⟨b0.tail,a0⟩ rfl rfl rfl ?_;refine z3a (v:=.int .i64 _) rfl rfl ?_;refine d0a ?_;refine M6b ⟨b0.tail,a0⟩ ?_;refine fP0 rfl ⟨⟩ ⟨rfl,(g9),(g8),(_),(x),(KW),(D0),((by exact hz.keep KZ.of_nil)),(⟨H1,I1,J1⟩),b0,rfl⟩
    rintro D ε w ⟨rfl,g9,g8,zs,x,KW,D0,hz,ih,S,eZ⟩;refine wK eZ ?_;obtain⟨Ua,ua,va,Ub,ub,vb,Uc,uc,vc,rfl,-⟩:=hz.open_;refine wB0 rfl ⟨⟩ (fun x1=>?_) (fun x1=>by exact absurd rfl x1);refine lO S.k [.w 0,.w 1] rfl ⟨⟨rfl,rfl⟩,⟨rfl,by rfl⟩,⟨⟩⟩ (f1a C9b (vs:=[(0,.agg _),(1,.int .i64 _),(2,.agg _)]) (cs:=[_,_,_,_,_,_,_]) rfl rfl rfl rfl ?_);refine lO0 rfl ⟨⟩ ?_;have d1:=c0a D0;have y2:=(List.getElem?_eq_some_iff.1 D0).1;have O3:=x0.later hJ (S.below.nilK KW);have b2:=hV▸m1;have F1:M2a V2 ⟨doC p m y.conf x,i,x⟩=i1b p m i y.conf V ((G0a p m y.conf).take (j+1)):=by rw[H0a D0,x9b,B1]
    have j2:X3a p m (M2a V2 ⟨doC p m y.conf x,i,x⟩):=⟨i+1,by rw[F1,hV];exact c0c b2 (j+1)⟩;have Zb:=KW.size;refine e5a u1c rfl rfl rfl (O3.found hJ T0 (x:=⟨doC p m y.conf x,i,x⟩) (xs:=[.slice Ua ua va,.slice Ub ub vb,.slice Uc uc vc,.int .i64 i,.int .i64 x.thread,.int .i64 x.step,.int .i64 x.cell]) ⟨_,rfl,hz,by unfold i64;simp only;omega,M1a.of ih.1 ih.2.1 ih.2.2⟩ (R4b hp (E4a hp A0) d1) j2) ?_;rintro C2 I2 (⟨rfl,N1,G4,X1,v4,O4,K4,F4⟩|⟨rfl,W0⟩)
    ·refine lP0 rfl ⟨by omega,⟨⟩⟩ ?_;have U0:=Q8b.wide (RdS.keep y1 (KW.mono (by simp))) K4 F4;have Y0:=(X0.keep (KW.mono (by simp))).wide K4 F4;exact⟨μ-1,by omega,rfl,j+1,_,N1,G4,X1,v4,by omega,F1,O4,x1a K4 n6 (S.blk 2 rfl),fun hh=>(by
      rcases F4 g6 hh with h|h
      ·exact n6 h
      ·have:=S.lt 2 rfl;omega),Y0,U0,rfl,rfl,rfl,rfl,rfl,rfl,rfl⟩
    refine lR0 rfl ⟨⟩ (T1a rfl ?_);exact .inr W0
   refine lP0 rfl ⟨by omega,⟨⟩⟩ ⟨μo-1,by omega,rfl,i+1,V2,v0,G2,cs2,v2,by omega,?_,x0,rfl,rfl,rfl⟩;rw[B1,List.take_of_length_le (by omega),hV,Q4b (hV▸m1)]
  refine lF0 rfl ⟨⟩ (T1a rfl ?_);exact .inl ⟨i,Bs,by rw[←hV];omega,by rw[←hV];exact i2,_,hO.ts,by rw[←hV];exact hO.j⟩
 refine lR0 rfl ⟨⟩ (T1a rfl ?_);exact .inr V0
section
variable {P:Program} {r:Option Nat} {N:Nat} {D:List Deferred} {e:Env} {w:World}
theorem Y6c{l p N:Nat}{rc:Loop}{x:Value}{a0 body:Code}{R:Value→World→Prop}(hl:w.heap[l]?=some (.loop rc))(hr:rc.state=.ready)(hN:rc.tmps.size=N)(f0:W0a { tmps:=rc.tmps,defers:=[] }=e)(b0:rc.params=#[p])(has:rc.assign=a0)(e0:rc.body=body)(hp:Nat.ble (p+1) N=true)
 (h:W P (some l) N a0 ⟨fun D e w1=>w1.heap[l]?=some (.loop rc) ∧
   W P (some l) N body ⟨fun _ _ w3=>n5a l none R w3,fun id _ _ w3=>n5a l (some (.exit id)) R w3,fun _ _ w3=>n5a l (some .ret) R w3⟩ D e (w1.putObj l (.loop { rc with state:=.busy })),
   fun _ _ _ _=>False,fun _ _ _=>False⟩ [] (upd e p x) w):Yld P l #[x] w R:=by
 subst f0 has e0;have h0:=Nat.le_of_ble_eq_true hp;refine⟨rc,hl,by simp[b0],?_⟩;have hz:(rc.params.zip #[x]).foldl (fun tmps (t,a)=>tmps.setIfInBounds t a) rc.tmps=rc.tmps.setIfInBounds p x:=by rw[b0];simp
 rw[hz];refine roundIn_of_wpIn (F:=Fence.wide) trivial ?_;unfold W at h;have he:W0a { tmps:=rc.tmps.setIfInBounds p x,defers:=[] }=upd (W0a { tmps:=rc.tmps,defers:=[] }) p x:=by
  have h1:=e1a (a:={ tmps:=rc.tmps,defers:=[] }) (d:=p) x (by simp;omega);simp only[Act.put] at h1;rw[←h1]
 refine wpIn_mono (h { tmps:=rc.tmps.setIfInBounds p x,defers:=[] } (by simp[hN]) rfl he) fun ex a w1 hq=>?_;cases ex with
 | normal =>
   obtain⟨hs,g0,hb⟩:=hq;refine⟨_,run_beginRound g0 hr,wpIn_mono (hb a hs rfl rfl) fun ex a w3 hq=>?_⟩;cases ex with
   | normal=>obtain⟨_,d0,h3,hR⟩:=hq;exact⟨_,_,run_endRound none h3,_,rfl,hR⟩
   | ret=>obtain⟨_,d0,h3,hR⟩:=hq;exact⟨_,_,run_endRound (some .ret) h3,_,rfl,hR⟩
   | exit id=>obtain⟨_,d0,h3,hR⟩:=hq;exact⟨_,_,run_endRound (some (.exit id)) h3,_,rfl,hR⟩
   | goto l=>exact hq.elim
   | panic c=>exact hq.elim
   | outgrown=>exact hq.elim
 | exit id=>exact hq.2
 | ret=>exact hq.2
 | goto l=>exact hq.elim
 | panic c=>exact hq.elim
 | outgrown=>exact hq.elim
end
end Go.Fw
