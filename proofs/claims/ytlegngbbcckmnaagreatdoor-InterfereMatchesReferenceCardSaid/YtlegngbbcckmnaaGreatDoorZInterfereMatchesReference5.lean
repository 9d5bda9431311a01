/-
  Part 5 of 9 of the proof of InterfereMatchesReference: what it leans on. No conditions.
-/
import Derived.Test.YtlegngbbcckmnaaGreatDoorZInterfereMatchesReference4
set_option maxRecDepth 100000
set_option maxHeartbeats 4000000
namespace Go.Proofs.YtlegngbbcckmnaaGreatDoor
end Go.Proofs.YtlegngbbcckmnaaGreatDoor
namespace Go.Fw
open Go.Proofs.YtlegngbbcckmnaaGreatDoor Go.Proofs Go.RowKit Go.Sort Tryz
inductive Clo (R:Nat→Nat→Prop) (n:Nat):Nat→Nat→Prop where
 | refl {x:Nat} (h:x<n):Clo R n x x
 | tail {x y z:Nat} (h:Clo R n x y) (h2:R y z) (h3:z<n):Clo R n x z
theorem Clo.lt{R:Nat→Nat→Prop}{n x y:Nat}(h:Clo R n x y):x<n∧y<n:=by
 induction h with
 | refl h=>exact⟨h,h⟩
 | tail _ _ h3 ih=>exact⟨ih.1,h3⟩
theorem Clo.trans{R:Nat→Nat→Prop}{n x y z:Nat}(h:Clo R n x y)(h2:Clo R n y z):Clo R n x z:=by
 induction h2 with
 | refl _=>exact h
 | tail _ h3 h4 ih=>exact .tail ih h3 h4
theorem Clo.mono{R R':Nat→Nat→Prop}{n x y:Nat}(h:Clo R n x y)(hr:∀a b,R a b→R' a b):Clo R' n x y:=by
 induction h with
 | refl h=>exact .refl h
 | tail _ h2 h3 ih=>exact .tail ih (hr _ _ h2) h3
structure U3b (R:Nat→Nat→Prop) (n k:Nat) (V:Nat→Nat→Prop):Prop where
 snd:∀x y,V x y→Clo R n x y
 base:∀x y,x<n→y<n→R x y→V x y
 rfl_:∀x,x<n→V x x
 thr:∀x y z,y<k→V x y→V y z→V x z
theorem U3b.succ{R:Nat→Nat→Prop}{n k:Nat}{V:Nat→Nat→Prop}(h:U3b R n k V):U3b R n (k+1) fun a b=>V a b∨(V a k∧V k b):=by
 refine⟨fun x y hh=>?_,fun x y hx hy hr=>.inl (h.base x y hx hy hr),fun x hx=>.inl (h.rfl_ x hx),fun x y z hy h1 h2=>?_⟩
 ·rcases hh with h1|⟨h1,h2⟩
  ·exact h.snd _ _ h1
  ·exact(h.snd _ _ h1).trans (h.snd _ _ h2)
 ·by_cases d0:y=k
  ·subst d0;exact .inr ⟨h1.elim id fun h=>h.1,h2.elim id fun h=>h.2⟩
  ·have a0:y<k:=by omega
   rcases h1 with h1|⟨h1,c0⟩<;>rcases h2 with h2|⟨h2,b0⟩
   ·exact .inl (h.thr x y z a0 h1 h2)
   ·exact .inr ⟨h.thr x y k a0 h1 h2,b0⟩
   ·exact .inr ⟨h1,h.thr k y z a0 c0 h2⟩
   ·exact .inr ⟨h1,b0⟩
theorem U3b.fin{R:Nat→Nat→Prop}{n:Nat}{V:Nat→Nat→Prop}(h:U3b R n n V)(x y:Nat):V x y↔Clo R n x y:=by
 refine⟨h.snd x y,fun hc=>?_⟩
 induction hc with
 | refl hx=>exact h.rfl_ _ hx
 | tail hc h2 h3 ih=>exact h.thr _ _ _ hc.lt.2 ih (h.base _ _ hc.lt.2 h3 h2)
theorem U3b.start{R:Nat→Nat→Prop}{n:Nat}(hR:∀x y,R x y→x<n∧y<n):U3b R n 0 fun a b=>R a b∨(a=b∧a<n):=by
 refine⟨fun x y hh=>?_,fun x y _ _ hr=>.inl hr,fun x hx=>.inr ⟨Z,hx⟩,fun x y z hy=>by omega⟩;rcases hh with h|⟨rfl,h⟩
 ·exact .tail (.refl (hR _ _ h).1) h (hR _ _ h).2
 ·exact .refl h
theorem E6b(M:List Nat)(w0:World)(v u i:Value)(C W:List Int)(l:List (Int×Int))(a0 gA tA:Nat)(hA:p0a w0 (gA,tA,[v,u,i]))(hC:RdI M w0 v C)(hW:RdI M w0 u W)(hL:V7a M w0 i l)(h:V9a C W)(hb:c2a W=a0)(X0:a0≤6)(hl:∀x∈l,0≤x.1∧x.1<(2 ^ a0:Nat)∧0≤x.2∧x.2<(2 ^ a0:Nat)):
 A0a prog 132 #[.pointer (some ⟨gA,0,none⟩)] w0 fun v w'=>(∃a b c m,v=.agg #[a,b,c]∧X3a w0 w' a C∧X3a w0 w' b W∧j4b w0 w' c (G1b m 64)∧z5a m (Clo (fun x y=>((x:Int),(y:Int))∈l) (2 ^ a0)))∧Bw w0 w':=by
 obtain⟨A,n,c,rfl⟩:=hC.form;obtain⟨A',n',c',rfl⟩:=hW.form;obtain⟨Al,nl,cl,rfl⟩:=hL.form;have W0:=h.clen;have N0:=h.len;have a1:2 ^ a0≤64:=Nat.pow_le_pow_right (n:=2) (j:=6) (by omega) (by omega);have s0:∀x∈l,0≤x.1∧x.1<64∧0≤x.2∧x.2<64:=fun x hx=>by have:=hl x hx;omega
 have J0:∀x y:Nat,((x:Int),(y:Int))∈l→x<2 ^ a0∧y<2 ^ a0:=fun x y hh=>by have:=hl _ hh;simp only at this;omega
 have S:=St.refl w0;have r0:Cells w0 gA 0 [.slice A n c,.slice A' n' c',.slice Al nl cl]:=fun j u hj=>by rw[Nat.zero_add];exact hA.cell hj
 have L0:[Value.slice A n c,.slice A' n' c',.slice Al nl cl].length=3:=Z;refine a0a func132 Z ntmps132 Z ?_;refine wO1 Z (g0a S J3a Z Z ?_);intro g1 w1 S1 X1 G1;refine lO (S1.k.a r0) [.v 0] Z ⟨⟨Z,L0⟩,U⟩ (h0a S1 W7c Z Z (g1d M _ _ _ _ l ⟨_,_,_,_,_,_,Z,Z⟩ (hL.keep (S1.keep0 M)) s0) ?_);rintro v8 w8 ⟨g2,m0,rfl,G2,K0,O0⟩ S8 X8;have i0:=S8.push_new S1 K0 G2;refine lO (i0.k.a r0) [.f 0 1] Z ⟨Z,U⟩ (r0a i0 w7a Z Z ((d6a M _ _ _ (hW.keep (i0.keep0 M)) h.wid).mono (fun v w' h=>⟨h.1.trans (by rw[hb]),h.2⟩)) ?_);intro d1 D0 U0;refine F2b (n:=a0) Z Z ?_;refine lC1 Z (wL (fun μk D ε w=>D=[]∧∃k:Nat,∃m:List Nat,(k+μk=((2 ^ a0)))∧(z5a m (fun a b=>((a:Int),(b:Int))∈l∨(a=b∧a<k)))∧St [] w0 w [(some g2,173,mW m),(some g1,41,[.slice none 0 0,.slice none 0 0,.slice none 0 0])]∧Sl ε [(0,.pointer (some ⟨gA,0,none⟩)),(1,.pointer (some ⟨g1,0,none⟩)),(2,.pointer (some ⟨g2,0,none⟩)),(3,.int .i64 ((2 ^ a0:Nat):Int)),(13,.int .i64 ((2 ^ a0:Nat):Int)),(14,.int .i64 k)]) (μ:=((2 ^ a0))) ⟨Z,0,m0,by omega,O0.congr (fun x y _ _=>⟨.inl,fun h=>h.elim id fun h=>by omega⟩),D0,Z⟩ ?_);rintro μk D ε w ⟨rfl,k,m,_,hm,S,eZ⟩;refine wK eZ (wB1 Z (fun G0=>?_) fun G0=>?_)
 ·have Y0:=(hm.at_ (x:=k) (by omega)).2;have b1:(2:Nat) ^ k<2 ^ 64:=Nat.pow_lt_pow_right (by omega) (by omega);have Q0:=hm.cell0 (x:=k) (by omega);refine lC1 Z (y0a b0a [0,1,2,3,4,5,6,7,8,9] [] [10] Z (Cl _ _ _ _) (Cl.start S) ?_);refine qO1 Z (v0a Z3a Z Z Z ?_);refine j0a O4a Z (fun w1 hw=>by exact hw.1.cell 0 Z Q0) Z ?_;refine qO1 Z (C8b (n:=k) Z Z ?_);refine C5c Z Z (by assumption) (by assumption) Z ?_;refine qO1 Z (v0a Z3a Z Z Z ?_);refine lV Z ?_;rintro f1 ⟨F0,_⟩;refine X0a (hy:=Z) (kk:=0) (v:=uV (m.getD k 0 ||| 2 ^ k)) F0 z2b Z Z Z (by rw[a6b,hm.len];simp;omega) ?_;intro C0 d0 v0;rw[T4b,show 0+(k:Int).toNat*1=k by simp] at d0;refine lP1 Z ⟨μk-1,by omega,Z,k+1,(m.set k (m.getD k 0 ||| 2 ^ k)),by omega,?_,d0,Z⟩;refine(hm.bit1 (x:=k) (y:=k) (by omega) (by omega)).congr fun x y _ _=>?_;rw[or_assoc];exact or_congr Iff.rfl ⟨fun h=>by omega,fun h=>by omega⟩
 refine lC1 Z (wL (fun μy D ε w=>D=[]∧∃y:Nat,∃m:List Nat,∃V:Nat→Nat→Prop,(y+μy=((2 ^ a0)))∧(z5a m V)∧(U3b (fun a b=>((a:Int),(b:Int))∈l) (2 ^ a0) y V)∧St [] w0 w [(some g2,173,mW m),(some g1,41,[.slice none 0 0,.slice none 0 0,.slice none 0 0])]∧Sl ε [(0,.pointer (some ⟨gA,0,none⟩)),(1,.pointer (some ⟨g1,0,none⟩)),(2,.pointer (some ⟨g2,0,none⟩)),(3,.int .i64 ((2 ^ a0:Nat):Int)),(28,.int .i64 ((2 ^ a0:Nat):Int)),(29,.int .i64 y)]) (μ:=((2 ^ a0))) ⟨Z,0,m,(fun a b=>((a:Int),(b:Int))∈l∨(a=b∧a<2 ^ a0)),by omega,(show k=2 ^ a0 by omega)▸hm,U3b.start J0,S,Z⟩ ?_);rintro μy D ε w ⟨rfl,y,m,V,_,hm,hV,S,eZ⟩;refine wK eZ (wB1 Z (fun H0=>?_) fun H0=>?_)
 ·refine lC1 Z (wL (fun μx D ε w=>D=[]∧∃x:Nat,∃m:List Nat,(x+μx=((2 ^ a0)))∧(z5a m (fun a b=>V a b∨(a<x∧V a y∧V y b)))∧St [] w0 w [(some g2,173,mW m),(some g1,41,[.slice none 0 0,.slice none 0 0,.slice none 0 0])]∧Sl ε [(0,.pointer (some ⟨gA,0,none⟩)),(1,.pointer (some ⟨g1,0,none⟩)),(2,.pointer (some ⟨g2,0,none⟩)),(3,.int .i64 ((2 ^ a0:Nat):Int)),(5,.int .i64 y),(28,.int .i64 ((2 ^ a0:Nat):Int)),(29,.int .i64 y),(32,.int .i64 ((2 ^ a0:Nat):Int)),(33,.int .i64 x)]) (μ:=((2 ^ a0))) ⟨Z,0,m,by omega,hm.congr (fun a b _ _=>⟨.inl,fun h=>h.elim id fun h=>by omega⟩),S,Z⟩ ?_);rintro μx D ε w ⟨rfl,x,m,hx,hm,S,eZ⟩;refine wK eZ (wB1 Z (fun I0=>?_) fun I0=>?_)
  ·refine lO1 Z (w2a Z3a Z Z Z ?_);have P0:=(hm.at_ (x:=x) (by omega)).2;have Z0:=(hm.at_ (x:=y) (by omega)).2;have t0:=hm.cell0 (x:=x) (by omega);have A0:=hm.cell0 (x:=y) (by omega);refine G0a O4a Z (S.cell 0 Z t0) Z ?_;refine lO1 Z (w6c (n:=y) Z Z ?_);refine W2c (n:=m.getD x 0 >>> y) (m:=1) Z Z (Nat.lt_of_le_of_lt (Nat.shiftRight_le _ _) P0) Z ?_;refine y0d Z Z Z (fun p0=>?_) fun p0=>?_
   ·have R0:=And.intro t0 A0;refine lC1 Z (y0a b0a [0,1,2,3,4,5,6,7,8,9,10,11,12] [] [13] Z (Cl _ _ _ _) (Cl.start S) ?_);refine qO1 Z (v0a Z3a Z Z Z ?_);refine j0a O4a Z (fun w1 hw=>by exact hw.1.cell 0 Z t0) Z ?_;refine qO1 Z (v0a Z3a Z Z Z ?_);refine j0a O4a Z (fun w1 hw=>by exact hw.1.cell 0 Z A0) Z ?_;refine C5c Z Z (by assumption) (by assumption) Z ?_;refine qO1 Z (v0a Z3a Z Z Z ?_);refine lV Z ?_;rintro T0 ⟨j0,_⟩;refine X0a (hy:=Z) (kk:=0) (v:=uV (m.getD x 0 ||| m.getD y 0)) j0 z2b Z Z Z (by rw[a6b,hm.len];simp;omega) ?_;intro u0 b0 n0;rw[T4b,show 0+(x:Int).toNat*1=x by simp] at b0;dsimp only[List.set] at b0;refine lP1 Z ⟨μx-1,by omega,Z,x+1,_,by omega,?_,b0,Z⟩;refine(hm.row (x:=x) (y:=y) (by omega) (by omega)).congr fun a b ha hb=>?_;have h1:=(hm.bit x y (by omega) (by omega)).1 ((B3b _ _).1 p0);constructor
    ·rintro((h|h)|⟨rfl,h⟩)
     ·exact .inl h
     ·exact .inr ⟨by omega,h.2⟩
     ·exact .inr ⟨by omega,h1.elim id fun h=>h.2.1,h.elim id fun h=>h.2.2⟩
    ·rintro(h|⟨h,h2,h3⟩)
     ·exact .inl (.inl h)
     ·by_cases q0:a=x
      ·exact .inr ⟨q0,.inl h3⟩
      ·exact .inl (.inr ⟨by omega,h2,h3⟩)
   refine lP1 Z ⟨μx-1,by omega,Z,x+1,_,by omega,?_,S,Z⟩;refine hm.congr fun a b ha hb=>?_;constructor
   ·exact fun h=>h.imp id fun h=>⟨by omega,h.2⟩
   ·rintro(h|⟨h,h2,h3⟩)
    ·exact .inl h
    ·by_cases q0:a=x
     ·subst q0;exact absurd ((B3b _ _).2 ((hm.bit a y (by omega) (by omega)).2 (.inl h2))) p0
     ·exact .inr ⟨by omega,h2,h3⟩
  refine lP1 Z ?_;refine⟨μy-1,by omega,Z,y+1,(m),((fun a b=>V a b∨(V a y∧V y b))),by omega,(hm.congr (fun a b ha hb=>⟨fun h=>h.elim .inl fun h=>.inr h.2,fun h=>h.elim .inl fun h=>.inr ⟨by have:=(hV.snd _ _ h.1).lt.1;omega,h⟩⟩)),(hV.succ),S,Z⟩
 refine lO (S.k.a r0) [.f 0 0,.f 0 1] Z ⟨Z,Z,U⟩ ?_;have o0:w0.heap.size≤w.heap.size:=S.size;have e0:∀g∈[g1],g<w.heap.size:=fun g hg=>by rw[List.mem_singleton.1 hg];exact S.lt 1 Z
 obtain rfl:y=2 ^ a0:=by omega
 refine h0a S h6b Z Z (S6a C W m _ hm M _ _ _ g2 (hC.keep (S.keep0 M)) (hW.keep (S.keep0 M)) (S.blk 0 Z)) ?_;rintro c1 S0 ⟨_,_,_,rfl,x0,y0,z0⟩ E0 V0;obtain⟨_,_,_,rfl⟩:=x0.form;obtain⟨_,_,_,rfl⟩:=y0.form;obtain⟨_,_,_,rfl⟩:=z0.form;have f0:=x0a.refl [g1] S0;refine d0a (kk:=1) (vs:=[_,_,_]) E0 B2a Z Z Z Z Z Z Z ?_;intro B0 c0 g0;dsimp only[e0a,List.set] at c0;replace f0:=f0.fresh2 g0 (by first  | exact .inr (by simp));exact lR1 Z (t0a (n:=3) Z x1a Z (c0.cells 1 Z) Z ⟨⟨_,_,_,m,Z,x0.later f0 e0 o0,y0.later f0 e0 o0,z0.later f0 e0 o0,hm.congr fun x y _ _=>hV.fin x y⟩,c0.fin⟩)
structure D5b (w0 w:World) (v:Value) (C W:List Int) (R:Nat→Nat→Prop) (n:Nat):Prop where
 get:∃a b c l,v=.agg #[a,b,c]∧X3a w0 w a C∧X3a w0 w b W∧j4b w0 w c l∧l.Pairwise lt2∧l.length≤4096∧∀p,p∈l↔∃x y,Clo R n x y∧p=((x:Int),(y:Int))
theorem D5b.later{w0 w1 w w':World}{v:Value}{C W:List Int}{R:Nat→Nat→Prop}{n:Nat}{G:List Nat}(h:D5b w1 w v C W R n)(hk:x0a G w w')(hG:∀g∈G,g<w1.heap.size)(h0:w0.heap.size≤w1.heap.size):D5b w0 w' v C W R n:=by
 obtain⟨a,b,c,l,h1,h2,h3,h4,h5⟩:=h.get;exact⟨a,b,c,l,h1,h2.later hk hG h0,h3.later hk hG h0,h4.later hk hG h0,h5⟩
theorem D5b.set3{w0 w:World}{v:Value}{C W:List Int}{R:Nat→Nat→Prop}{n:Nat}(h:D5b w0 w v C W R n):h4c v:=by
 obtain⟨_,_,c,_,rfl,h2,h3,h4,-⟩:=h.get;obtain⟨_,n,c,rfl⟩:=h2.form;obtain⟨_,_,_,rfl⟩:=h3.form;obtain⟨_,_,_,rfl⟩:=h4.form;exact⟨_,_,_,_,_,_,_,_,_,Z⟩
theorem g5b(M:List Nat)(w0:World)(v u i:Value)(C W:List Int)(l:List (Int×Int))(a0 gA tA:Nat)(hA:p0a w0 (gA,tA,[v,u,i]))(hC:RdI M w0 v C)(hW:RdI M w0 u W)(hL:V7a M w0 i l)(h:V9a C W)(hb:c2a W=a0)(b0:a0≤6)(hl:∀x∈l,0≤x.1∧x.1<(2 ^ a0:Nat)∧0≤x.2∧x.2<(2 ^ a0:Nat)):
 A0a prog 132 #[.pointer (some ⟨gA,0,none⟩)] w0 fun v w'=>D5b w0 w' v C W (fun x y=>((x:Int),(y:Int))∈l) (2 ^ a0)∧Bw w0 w':=by
 have c0:2 ^ a0≤64:=Nat.pow_le_pow_right (n:=2) (j:=6) (by omega) (by omega);refine(E6b M w0 v u i C W l a0 gA tA hA hC hW hL h hb b0 hl).mono fun v w' hh=>?_;obtain⟨⟨a,b,c,m,rfl,h1,h2,h3,h4⟩,hB⟩:=hh;refine⟨⟨a,b,c,_,Z,h1,h2,h3,U2c m 64,by have:=G4a m 64;omega,fun p=>?_⟩,hB⟩;rw[h4.mem];constructor
 ·rintro⟨x,y,-,-,h5,rfl⟩;exact⟨x,y,h5,Z⟩
 ·rintro⟨x,y,h5,rfl⟩;exact⟨x,y,by have:=h5.lt;omega,by have:=h5.lt;omega,h5,Z⟩
theorem F9b(w0:World)(gA:Nat)(C W:List Int)(R:Nat→Nat→Prop)(n:Nat)(hc:∀w,x0a [] w0 w→A0a prog 132 #[.pointer (some ⟨gA,0,none⟩)] w fun v w'=>D5b w w' v C W R n∧Below w.heap.size w w'):
 A0a prog 130 #[.bool true,.func (.func 132) #[] #[.pointer (some ⟨gA,0,none⟩)]] w0 fun v w'=>(∃u,v=.tuple #[u,.int .i64 0]∧D5b w0 w' u C W R n)∧Bw w0 w':=by
 have S:=St.refl w0;refine a0a func130 Z ntmps130 Z ?_;refine wO1 Z (g0a S J3a Z Z ?_);intro g4 w4 S4 X4 G4;refine lO1 Z ?_;have e0:w0.heap.size≤w4.heap.size:=S4.size;have c0:∀g∈[g4],g<w4.heap.size:=fun g hg=>by rw[List.mem_singleton.1 hg];exact S4.lt 0 Z
 refine q8a (caps:=#[.pointer (some ⟨gA,0,none⟩)]) S4 T0d Z Z Z (hc _ (S4.keep0 [])) ?_;rintro j0 f0 hr d0 i0;have KQ:=x0a.refl [g4] f0;obtain⟨_,_,_,_,_,_,_,_,_,rfl⟩:=hr.set3
 first|refine d0a (kk:=0) (vs:=[_,_,_]) d0 B2a Z Z Z Z Z Z Z ?_
 intro g0 a0 b0;dsimp only[e0a,List.set] at a0;replace KQ:=KQ.fresh2 b0 (by first  | exact .inr (by simp));exact lR1 Z (L0a (n:=3) Z x1a Z (a0.cells 0 Z) Z Z ⟨⟨_,Z,hr.later KQ c0 e0⟩,a0.fin⟩)
theorem o7b(M:List Nat)(w0:World)(v u i:Value)(C W:List Int)(l:List (Int×Int))(a0:Nat)(hC:RdI M w0 v C)(hW:RdI M w0 u W)(hL:V7a M w0 i l)(h:V9a C W)(hb:c2a W=a0)(d0:a0≤6)(hl:∀x∈l,0≤x.1∧x.1<(2 ^ a0:Nat)∧0≤x.2∧x.2<(2 ^ a0:Nat))(f0:l.Pairwise lt2):
 A0a prog 72 #[.agg #[v,u,i]] w0 fun v w'=>(∃u,v=.tuple #[u,.int .i64 0]∧D5b w0 w' u C W (fun x y=>((x:Int),(y:Int))∈l) (2 ^ a0))∧Bw w0 w':=by
 obtain⟨_,n,_,rfl⟩:=hC.form;obtain⟨_,_,_,rfl⟩:=hW.form;obtain⟨_,_,_,rfl⟩:=hL.form;have i0:2 ^ a0≤64:=Nat.pow_le_pow_right (n:=2) (j:=6) (by omega) (by omega);have S:=St.refl w0;refine a0a func72 Z ntmps72 Z ?_;refine wO1 Z (o0a S Z ?_);intro g1 w1 S1 X1 G1;refine g0a S1 J3a Z Z ?_;intro g2 w2 S2 X2 G2;refine lO S2.k [.w 1] Z ⟨⟨Z,Z⟩,U⟩ (r0a S2 v1d Z Z (C9b M _ _ _ _ C W l a0 (hC.keep (S2.keep0 M)) (hW.keep (S2.keep0 M)) (hL.keep (S2.keep0 M)) h hb d0 hl f0) ?_);intro w5 S5 X5;refine B1a Z Z ?_;have Z7:w0.heap.size≤w5.heap.size:=S5.size;have e0:∀g∈[g2],g<w5.heap.size:=fun g hg=>by rw[List.mem_singleton.1 hg];exact S5.lt 0 Z
 refine h0a S5 R7c Z Z (F9b _ g1 C W (fun x y=>((x:Int),(y:Int))∈l) (2 ^ a0) (fun w hK=>g5b M w _ _ _ C W l a0 g1 _ (c1a hK (S5.blk 1 Z)) (hC.keep ((S5.keep0 M).trans hK.of_nil)) (hW.keep ((S5.keep0 M).trans hK.of_nil)) (hL.keep ((S5.keep0 M).trans hK.of_nil)) h hb d0 hl)) ?_;rintro v7 w7 ⟨_,rfl,hr⟩ S7 X7;have KQ:=x0a.refl [g2] w7;obtain⟨_,_,_,_,_,_,_,_,_,rfl⟩:=hr.set3;refine lO1 Z (d0a (kk:=0) (vs:=[_,_,_]) S7 B2a Z Z Z Z Z Z Z ?_);intro g0 b0 c0;dsimp only[e0a,List.set] at b0;replace KQ:=KQ.fresh2 c0 (by first  | exact .inr (by simp));exact lR1 Z (L0a (n:=3) Z x1a Z (b0.cells 0 Z) Z Z ⟨⟨_,Z,hr.later KQ e0 Z7⟩,b0.fin⟩)
def RIs(M:List Nat)(w:World)(cs:LV)(l:List Int):Prop:=∃A n c,cs=[.slice A n c]∧RdI M w (.slice A n c) l
theorem y3b:D7a RIs 1 where
 len h:=by obtain⟨_,_,_,rfl,_⟩:=h;rfl
 one h u hu:=by obtain⟨_,_,_,rfl,_⟩:=h;simp at hu;subst hu;rfl
 keep hk h:=by obtain⟨A,n,c,rfl,h1⟩:=h;exact⟨A,n,c,Z,h1.keep hk⟩
 more hM h:=by obtain⟨A,n,c,rfl,h1⟩:=h;exact⟨A,n,c,Z,h1.more (by decide) hM⟩
def M5c(C W:List Int)(n:Nat):List (List Int):=(List.range n).map fun k=>stZ C W k R1a
theorem H2c(C W:List Int)(n:Nat):M5c C W (n+1)=M5c C W n++[stZ C W n R1a]:=by
 unfold M5c;rw[List.range_succ,List.map_append];rfl
theorem e0b(C W:List Int)(n:Nat):(M5c C W n).length=n:=by simp[M5c]
theorem f3c{C W:List Int}{n k:Nat}{s:List Int}(h:(M5c C W n)[k]?=some s):s=stZ C W k R1a:=by
 unfold M5c at h;rw[List.getElem?_map] at h;have hk:k<n:=by
  rcases Nat.lt_or_ge k n with h1|h1
  ·exact h1
  ·rw[List.getElem?_eq_none (by simpa using h1)] at h;cases h
 rw[List.getElem?_range hk] at h;simpa using h.symm
def ofR(e:E)(C W:List Int)(n:Nat)(x y:Nat):Prop:=x<n∧y<n∧e.evl (stZ C W x R1a) (stZ C W y R1a)=1
theorem s5d{M:List Nat}{w:World}{g:Nat}{A B:Option Addr}{n c m d:Nat}{a b:List Int}(h1:w.cell? ⟨g,0,none⟩=some (.slice A n c))(h2:w.cell? ⟨g,1,none⟩=some (.slice B m d))(ha:RdI M w (.slice A n c) a)(hb:RdI M w (.slice B m d) b):∀(k:Nat) (h:k<[a,b].length),∃A n c,w.cell? ⟨g,0+k*1,none⟩=some (.slice A n c)∧RdI M w (.slice A n c) [a,b][k]:=fun k hk=>by
 rcases(show k=0∨k=1 by simp at hk;omega) with rfl|rfl
 ·exact⟨_,_,_,h1,ha⟩
 ·exact⟨_,_,_,h2,hb⟩
theorem n5d{M:List Nat}{w:World}{g:Nat}{A B D:Option Addr}{n c m d i f:Nat}{a b q:List Int}(h1:w.cell? ⟨g,0,none⟩=some (.slice A n c))(h2:w.cell? ⟨g,1,none⟩=some (.slice B m d))(h3:w.cell? ⟨g,2,none⟩=some (.slice D i f))(ha:RdI M w (.slice A n c) a)(hb:RdI M w (.slice B m d) b)(hq:RdI M w (.slice D i f) q):∀(k:Nat) (h:k<[a,b,q].length),∃A n c,w.cell? ⟨g,0+k*1,none⟩=some (.slice A n c)∧RdI M w (.slice A n c) [a,b,q][k]:=fun k hk=>by
 rcases(show k=0∨k=1∨k=2 by simp at hk;omega) with rfl|rfl|rfl
 ·exact⟨_,_,_,h1,ha⟩
 ·exact⟨_,_,_,h2,hb⟩
 ·exact⟨_,_,_,h3,hq⟩
theorem s1d(p:List g1a)(C:List Int)(e:E)(M:List Nat)(w0:World)(vc vl:Value)(es:LV)(hP:i0b M w0 vc p)(hC:RdI M w0 vl C)(hE:RdE M w0 e es)(hr:t1a C)(hc:∀c∈C,0≤c∧c<p.length)(hp:p.length≤32)(hw:∀c∈p,1≤c.w∧c.w≤8)(a0:Nat)(hb:c2a (wdL p C)=a0)(d3:a0≤6)(hK:W1a M w0)(hM:∀g∈M,g<w0.heap.size)(E2:e.valid p true=true)(e3:e.w=1)(H2:∀x∈e.sup 3,x∈C)(G2:∀x∈e.sup 2,x∈C):
 A0a prog 69 #[vc,vl,.agg es.toArray] w0 fun v w'=>(∃a b c m,v=.tuple #[.agg #[a,b,c],.int .i64 0]∧X3a w0 w' a C∧X3a w0 w' b (wdL p C)∧j4b w0 w' c (G1b m 64)∧z5a m (ofR e C (wdL p C) (2 ^ a0)))∧Bw w0 w':=by
 obtain⟨_,_,_,rfl⟩:=hP.form;obtain⟨A,n,c,rfl⟩:=hC.form;obtain⟨Ae,ne,ce,rfl,_⟩:=hE.cells;have ho:=j4a hr hc hp hw;have b3:=ho.clen;have F2:=ho.len;have j3:2 ^ a0≤64:=Nat.pow_le_pow_right (n:=2) (j:=6) (by omega) (by omega);have p3:=p9a e 3;have o3:=p9a e 2;have b1:∀l∈[e.sup 3,e.sup 2],l.length≤1000:=fun l hl=>by
  simp only[List.mem_cons,List.not_mem_nil,or_false] at hl;rcases hl with rfl|rfl<;>omega
 have B0:∀x∈[e.sup 3,e.sup 2].flatten,x∈C:=fun x hx=>by
  simp only[List.flatten_cons,List.flatten_nil,List.append_nil,List.mem_append] at hx;exact hx.elim (H2 x) (G2 x)
 have a1:∀x∈[e.sup 3,e.sup 2].flatten,i64 x:=fun x hx=>hC.i64s x (B0 x hx);have Y0:[e.sup 3,e.sup 2].flatten.length≤140737488355328:=by simp;omega
 have S:=(St.refl w0).nilEnt 28;refine a0a func69 Z ntmps69 Z ?_;refine wO1 Z (o0a S Z ?_);intro g5 w5 S5 X5 G5;refine g0a S5 J3a Z Z ?_;intro g6 w6 S6 X6 G6;refine lO1 Z ?_;have Z2:w0.heap.size≤w6.heap.size:=S6.size;have d0:∀g∈[g6],g<w6.heap.size:=fun g hg=>by rw[List.mem_singleton.1 hg];exact S6.lt 0 Z
 refine h0a S6 e4b Z Z (c2b p C M _ _ _ (hP.keep (S6.keep0 M)) (hC.keep (S6.keep0 M)) hr hc hp hw (hK.keep (S6.keep0 M))) ?_;rintro q3 q0 ⟨a,b,rfl,ha,F0⟩ Q1 a2;obtain⟨A1,n1,c1,rfl⟩:=ha.form;obtain⟨A2,n2,c2,rfl⟩:=F0.form;have KQ:=x0a.refl [g6] q0;refine lO1 Z (g0a Q1 D5a Z Z ?_);intro g8 w8 S8 X8 G8;have H0:=Nat.le_trans KQ.size G8;replace KQ:=KQ.trans (X8.of_nil);refine d0a (kk:=0) (vs:=[_,_,_]) S8 i5a Z Z Z Z Z Z Z ?_;intro S2 c0 L0;dsimp only[e0a,List.set] at c0;replace KQ:=KQ.fresh2 L0 (by exact .inl H0);refine lB1 Z (fun x2=>by exfalso;omega) fun x2=>?_;refine lO c0.k [.w 2] Z ⟨⟨Z,Z⟩,U⟩ (r0a c0 b6a Z Z ((N2a e M _ _ _ p true (RdE.keep (c0.keep0 M) _ _ hE) (hP.keep (c0.keep0 M)) (hK.keep (c0.keep0 M))).mono (fun v w' h=>⟨h.1.trans (by rw[E2]),h.2⟩)) ?_);intro T2 p0 b2;replace KQ:=KQ.trans (b2.of_nil);refine lB p0.k [.o 2] Z ⟨Z,U⟩ (fun y2=>by exfalso;omega) fun y2=>?_;refine lO p0.k [.w 2] Z ⟨⟨Z,Z⟩,U⟩ ?_;have j2:∀g∈M,g<T2.heap.size:=fun g hg=>Nat.lt_of_lt_of_le (hM g hg) p0.size;refine h0a p0 X8b Z Z (j5a e M _ _ (RdE.keep (p0.keep0 M) _ _ hE) (hK.keep (p0.keep0 M)) j2) ?_;rintro r3 U2 ⟨_,_,rfl,y0,A0⟩ R1 d2;replace KQ:=KQ.trans (d2.of_nil);obtain⟨A3,n3,c3,rfl⟩:=y0.form;obtain⟨A4,n4,c4,rfl⟩:=A0.form;have KS:=x0a.refl M U2;refine lO1 Z (k0a R1 v1b (vs:=[.slice _ _ _,.slice _ _ _]) (cs:=[_,_]) Z Z Z Z Z Z ?_);intro v0 V2 D0 C1 o1;have r1:=Nat.le_trans KQ.size o1;have x1:=Nat.le_trans KS.size o1;replace KQ:=KQ.trans (C1.of_nil);replace KS:=KS.trans (C1.of_nil);have m2:∀g∈M,g<V2.heap.size:=fun g hg=>Nat.lt_of_lt_of_le (hM g hg) D0.size;refine h0a D0 G7c Z Z (e9b (hbig:=Y0) (M:=M) (t5b M _ v0 [e.sup 3,e.sup 2] b1 (by simp) (s5d (D0.cell 0 Z Z) (D0.cell 0 Z Z) (y0.keep KS) (A0.keep KS))) m2 a1) ?_;rintro s3 N1 X0 T1 e2;replace KQ:=KQ.trans (e2.of_nil);obtain⟨A5,n5,c5,rfl⟩:=X0.form;obtain⟨_,-,_⟩:=X0.len;have KC:=x0a.refl M N1;refine lC1 Z (wL (fun μk D ε w=>D=[]∧∃k:Nat,(k+μk=(([e.sup 3,e.sup 2].flatten).length))∧(x0a [g6] q0 w)∧(x0a M N1 w)∧St [] w0 w [(some v0,28,[.slice A3 n3 c3,.slice A4 n4 c4]),(some g8,89,[.slice A1 n1 c1,.slice A2 n2 c2,.slice none 0 0]),(some g6,41,[.slice none 0 0,.slice none 0 0,.slice none 0 0]),(some g5,37,[.int .i64 e.op,.int .i64 e.w,.int .i64 e.n,.slice Ae ne ce]),(none,28,[])]∧Sl ε [(1,.slice A n c),(5,.pointer (some ⟨g5,0,none⟩)),(6,.pointer (some ⟨g6,0,none⟩)),(8,.pointer (some ⟨g8,0,none⟩)),(48,.slice A5 n5 c5),(49,.int .i64 n5),(50,.int .i64 k)]) (μ:=(([e.sup 3,e.sup 2].flatten).length)) ⟨Z,0,by omega,KQ,KC,T1,Z⟩ ?_);rintro μk D ε w ⟨rfl,k,hk,KQ,KC,S,eZ⟩;refine wK eZ (wB1 Z (fun z2=>?_) fun z2=>?_)
 ·obtain⟨x,p2,O2,_,L2,P0,_,_,U0,d1⟩:=RdS.get ((X0.keep KC)) (k) (by omega);obtain⟨rfl,_⟩:=id d1;have I2:x∈C:=B0 x (c0a L2);refine lO (S.k.b U0) [.x p2 O2,.f 0 0] Z ⟨Z,⟨P0,by omega⟩,U⟩ (r0a S k1c Z Z ((M9a M _ _ C x (hC.keep (S.keep0 M))).mono (fun v w' h=>⟨h.1.trans (by rw[decide_eq_true I2]),h.2⟩)) ?_);intro u3 U1 D1;replace KQ:=KQ.trans (D1.of_nil);replace KC:=KC.trans (D1.of_nil);refine lP1 Z ⟨μk-1,by omega,Z,k+1,by omega,(KQ),(KC),U1,Z⟩
 refine lO1 Z (s7a (n:=32) (c:=32) S R0a Z Z Z Z ?_);intro E0 v3 J0 f2 P1;have s1:=Nat.le_trans KQ.size P1;replace KQ:=KQ.trans (f2.of_nil);refine lOn 5 J0.k [] Z U (B0a Z ?_);refine lO J0.k [.o 2] Z ⟨Z,U⟩ (r0a J0 w7a Z Z ((d6a [] _ _ _ (F0.at_ KQ d0) ho.wid).mono (fun v w' h=>⟨h.1.trans (by rw[hb]),h.2⟩)) ?_);intro w3 V1 g2;replace KQ:=KQ.trans (g2.of_nil);refine F2b (n:=a0) Z Z ?_;refine lC1 Z (wL (fun μk D ε w=>D=[]∧∃k:Nat,∃G:Option Nat,∃u0:LV,∃v:Value,(k+μk=((2 ^ a0)))∧(T1a RIs 1 [g6] w G u0 v (M5c C (wdL p C) k))∧(∀g∈G.toList,q0.heap.size≤g)∧(x0a [g6] q0 w)∧St [] w0 w [(some E0,3,(List.replicate 32 (.int .i64 0))),(some v0,28,[.slice A3 n3 c3,.slice A4 n4 c4]),(some g8,89,[.slice A1 n1 c1,.slice A2 n2 c2,.slice none 0 0]),(some g6,41,[.slice none 0 0,.slice none 0 0,.slice none 0 0]),(some g5,37,[.int .i64 e.op,.int .i64 e.w,.int .i64 e.n,.slice Ae ne ce]),(G,28,u0)]∧Sl ε [(5,.pointer (some ⟨g5,0,none⟩)),(6,.pointer (some ⟨g6,0,none⟩)),(8,.pointer (some ⟨g8,0,none⟩)),(14,.slice (some ⟨E0,0,none⟩) 32 32),(15,v),(64,.int .i64 ((2 ^ a0:Nat):Int)),(65,.int .i64 k)]) (μ:=((2 ^ a0))) ⟨Z,0,none,[],.slice none 0 0,by omega,T1a.nil,(by simp),KQ,V1,Z⟩ ?_);rintro μk D ε w ⟨rfl,k,G,u0,v,hk,n0,Z0,KQ,S,eZ⟩;refine wK eZ ?_;have KR:=x0a.refl (G.toList++[g6]) w;refine wB1 Z (fun B2=>?_) fun B2=>?_
 ·refine lOn 15 S.k [] Z U (J0a Z ?_);refine lO S.k [.w 2] Z ⟨⟨Z,Z⟩,U⟩ ?_;have S0:∀g∈G.toList++[g6],g<w.heap.size:=fun g hg=>by
   rcases List.mem_append.1 hg with h|h
   ·obtain⟨t,cs,hh⟩:=f3b S 5 Z g h;exact hh.lt
   ·rw[List.mem_singleton.1 h];exact S.lt 3 Z
  refine h0a S i6b Z Z (R8a C (wdL p C) R1a k [] _ _ _ _ _ (ha.at_ KQ d0) (F0.at_ KQ d0) ho (by omega) (k6a (hg:=List.not_mem_nil) (S.blk 0 Z)) W2a i3a) ?_;rintro v72 W2 J1 W1 E1;replace KQ:=KQ.trans (E1.of_nil);replace KR:=KR.trans (E1.of_nil);obtain⟨_,_,_,rfl⟩:=J1.form;have KT:=x0a.refl (G.toList++[g6]) W2;refine k0a W1 v1b (vs:=[.slice _ _ _]) (cs:=[_]) Z Z Z Z Z Z ?_;intro a3 x3 z1 N0 G0;have t1:=Nat.le_trans KQ.size G0;have v1:=Nat.le_trans KR.size G0;have y1:=Nat.le_trans KT.size G0;replace KQ:=KQ.trans (N0.of_nil);replace KR:=KR.trans (N0.of_nil);replace KT:=KT.trans (N0.of_nil);have C0:=n0.keep y3b KR;have o2:=KQ.size;refine r1a y3b (k:=6) (M2:=[g6]) (e1:=stZ C (wdL p C) k R1a) z1 v1b Z C0 Z Z (z1.cells 0 Z) ⟨_,_,_,Z,(J1 _ S0).keep KT⟩ (by rw[e0b];omega) Z ?_;intro t3 Y2 u2 y3 Y1 o0 i2 O1;replace KQ:=KQ.freshL i2 (fun g hg=>.inl (Z0 g hg));refine B0a Z ?_;refine lP1 Z ?_;refine⟨μk-1,by omega,Z,k+1,_,_,_,by omega,((by rw[H2c];exact o0)),((fun g hg=>by rcases O1 g hg with h|h;exact Z0 g h;exact Nat.le_trans o2 h)),(KQ),Y1.tail,Z⟩
 obtain rfl:k=2 ^ a0:=by omega
 obtain⟨wa,KA,z0⟩:∃wa,x0a [g6] wa w∧RdS [g6] wa 1 (RIs [g6] wa) v (M5c C (wdL p C) (2 ^ a0)):=⟨w,x0a.refl _ _,n0.rd y3b S (k:=5) Z (fun g hg hm=>by have h1:=Z0 g (by rw[hg];simp);have h2:=d0 g hm;have h3:=a2.size;omega) (by rw[e0b];omega)⟩;obtain⟨Aa,ca,K1⟩:=n0.form;rw[e0b] at K1;subst K1;have g3:=e0b C (wdL p C) (2 ^ a0);refine lO1 Z (s0a (vs:=[]) (cs:=mW x8a) I4d Z Z Z Z ?_);refine o0a (hv:=Z) (cs:=mW x8a) S Z ?_;intro x0 z3 B1 F1 p1;have u1:=Nat.le_trans KQ.size p1;have q1:=Nat.le_trans KA.size p1;replace KQ:=KQ.trans F1.of_nil;replace KA:=KA.trans F1.of_nil;refine lOn 6 B1.k [] Z U (J0a Z ?_);refine lC1 Z (wL (fun μx D ε w=>D=[]∧∃x:Nat,∃m:List Nat,(x+μx=((2 ^ a0)))∧(z5a m (fun a b=>a<x∧ofR e C (wdL p C) (2 ^ a0) a b))∧(x0a [g6] q0 w)∧(x0a [g6] wa w)∧St [] w0 w [(some x0,173,mW m),(some E0,3,(List.replicate 32 (.int .i64 0))),(some v0,28,[.slice A3 n3 c3,.slice A4 n4 c4]),(some g8,89,[.slice A1 n1 c1,.slice A2 n2 c2,.slice none 0 0]),(some g6,41,[.slice none 0 0,.slice none 0 0,.slice none 0 0]),(some g5,37,[.int .i64 e.op,.int .i64 e.w,.int .i64 e.n,.slice Ae ne ce]),(G,28,u0)]∧Sl ε [(5,.pointer (some ⟨g5,0,none⟩)),(6,.pointer (some ⟨g6,0,none⟩)),(8,.pointer (some ⟨g8,0,none⟩)),(15,.slice Aa (2 ^ a0) ca),(17,.pointer (some ⟨x0,0,none⟩)),(79,.int .i64 ((2 ^ a0:Nat):Int)),(80,.int .i64 x)]) (μ:=((2 ^ a0))) ⟨Z,0,x8a,by omega,z5a.zero.congr (fun a b _ _=>⟨fun h=>h.elim,fun h=>by omega⟩),KQ,KA,B1,Z⟩ ?_);rintro μx D ε w ⟨rfl,x,m,hx,hm,KQ,KA,S,eZ⟩;refine wK eZ (wB1 Z (fun C2=>?_) fun C2=>?_)
 ·refine lC1 Z (wL (fun μy D ε w=>D=[]∧∃y:Nat,∃m:List Nat,(y+μy=((2 ^ a0)))∧(z5a m (fun a b=>(a<x∨(a=x∧b<y))∧ofR e C (wdL p C) (2 ^ a0) a b))∧(x0a [g6] q0 w)∧(x0a [g6] wa w)∧St [] w0 w [(some x0,173,mW m),(some E0,3,(List.replicate 32 (.int .i64 0))),(some v0,28,[.slice A3 n3 c3,.slice A4 n4 c4]),(some g8,89,[.slice A1 n1 c1,.slice A2 n2 c2,.slice none 0 0]),(some g6,41,[.slice none 0 0,.slice none 0 0,.slice none 0 0]),(some g5,37,[.int .i64 e.op,.int .i64 e.w,.int .i64 e.n,.slice Ae ne ce]),(G,28,u0)]∧Sl ε [(5,.pointer (some ⟨g5,0,none⟩)),(6,.pointer (some ⟨g6,0,none⟩)),(8,.pointer (some ⟨g8,0,none⟩)),(15,.slice Aa (2 ^ a0) ca),(17,.pointer (some ⟨x0,0,none⟩)),(18,.int .i64 x),(79,.int .i64 ((2 ^ a0:Nat):Int)),(80,.int .i64 x),(84,.int .i64 ((2 ^ a0:Nat):Int)),(85,.int .i64 y)]) (μ:=((2 ^ a0))) ⟨Z,0,m,by omega,hm.congr (fun a b _ _=>⟨fun h=>⟨.inl h.1,h.2⟩,fun h=>⟨by omega,h.2⟩⟩),KQ,KA,S,Z⟩ ?_);rintro μy D ε w ⟨rfl,y,m,_,hm,KQ,KA,S,eZ⟩;refine wK eZ (wB1 Z (fun D2=>?_) fun D2=>?_)
  ·refine lC1 Z (y0a b0a [0,1,2,3,4,5,6,7,8,9,10] [] [] Z (Cl _ _ _ _) (Cl.start S) ?_);obtain⟨_,q2,P2,s2,J2,Q0,_,_,V0,f1⟩:=RdS.get ((z0.keep KA)) (x) (by omega);obtain⟨Ax,nx,cx,v2,hX⟩:=f1;obtain rfl:s2=[Value.slice Ax nx cx]:=v2;obtain rfl:=f3c J2;obtain⟨t,r2,Q2,t2,K2,R0,_,_,W0,g1⟩:=RdS.get ((z0.keep KA)) (y) (by omega);obtain⟨Ay,ny,cy,w2,hY⟩:=g1;obtain rfl:t2=[Value.slice Ay ny cy]:=w2;obtain rfl:=f3c K2;refine qO ((S.q.b W0).b V0) [.w 5,.x q2 P2,.f 0 0,.x r2 Q2,.f 1 0] Z ⟨Z,⟨R0,by omega⟩,Z,⟨Q0,by omega⟩,⟨Z,Z⟩,U⟩ (k1a O6c Z Z (fun w1 S1 X1=>z2c e [] _ _ _ _ _ _ (RdE.less (by simp) _ _ (RdE.keep (S1.keep0 M) _ _ hE)) ⟨List.not_mem_nil,(hK.keep (S1.keep0 M)).2⟩ ((hX.keep (KA.trans X1.of_nil)).less (by simp)) ((hY.keep (KA.trans X1.of_nil)).less (by simp))) ?_);refine qB1 Z (fun O0=>?_) fun O0=>?_
   ·refine lV Z ?_;rintro m1 ⟨j0,g0⟩;replace KQ:=KQ.trans (g0.of_nil);replace KA:=KA.trans (g0.of_nil);have i3:=(hm.at_ (x:=x) (by omega)).2;have m3:(2:Nat) ^ y<2 ^ 64:=Nat.pow_lt_pow_right (by omega) (by omega);have N2:=hm.cell0 (x:=x) (by omega);refine lC1 Z (y0a b0a [0,1,2,3,4,5,6,7,8,9] [] [10] Z (Cl _ _ _ _) (Cl.start j0) ?_);refine qO1 Z (v0a Z3a Z Z Z ?_);refine j0a O4a Z (fun w1 hw=>by exact hw.1.cell 0 Z N2) Z ?_;refine qO1 Z (C8b (n:=y) Z Z ?_);refine C5c Z Z (by assumption) (by assumption) Z ?_;refine qO1 Z (v0a Z3a Z Z Z ?_);refine lV Z ?_;rintro X2 ⟨K0,t0⟩;replace KQ:=KQ.trans (t0.of_nil);replace KA:=KA.trans (t0.of_nil);refine X0a (hy:=Z) (kk:=0) (v:=uV (m.getD x 0 ||| 2 ^ y)) K0 z2b Z Z Z (by rw[a6b,hm.len];simp;omega) ?_;intro j1 b0 f0;rw[T4b,show 0+(x:Int).toNat*1=x by simp] at b0;dsimp only[List.set] at b0;replace KQ:=KQ.fresh2 f0 (.inl (by assumption));replace KA:=KA.fresh2 f0 (.inl (by assumption));refine lP1 Z ⟨μy-1,by omega,Z,y+1,_,by omega,?_,(KQ),(KA),b0,Z⟩;refine(hm.bit1 (x:=x) (y:=y) (by omega) (by omega)).congr fun a b _ _=>?_;constructor
    ·rintro(h|⟨rfl,rfl⟩)
     ·exact⟨by omega,h.2⟩
     ·exact⟨by omega,by omega,by omega,O0⟩
    ·intro h;by_cases T0:a=x∧b=y
     ·exact .inr T0
     ·exact .inl ⟨by omega,h.2⟩
   refine lV Z ?_;rintro m1 ⟨j0,g0⟩;replace KQ:=KQ.trans (g0.of_nil);replace KA:=KA.trans (g0.of_nil);refine lP1 Z ⟨μy-1,by omega,Z,y+1,_,by omega,?_,(KQ),(KA),j0,Z⟩;refine hm.congr fun a b _ _=>?_;constructor
   ·exact fun h=>⟨by omega,h.2⟩
   ·intro h;by_cases T0:a=x∧b=y
    ·obtain⟨rfl,rfl⟩:=T0;exact absurd h.2.2.2 O0
    ·exact⟨by omega,h.2⟩
  refine lP1 Z ⟨μx-1,by omega,Z,x+1,(m),by omega,?_,(KQ),(KA),S,Z⟩;exact hm.congr fun a b _ _=>⟨fun h=>⟨by omega,h.2⟩,fun h=>⟨by have:=h.2.2.1;omega,h.2⟩⟩
 refine lO S.k [.o 3,.o 3] Z ⟨Z,Z,U⟩ ?_;have m0:w0.heap.size≤w.heap.size:=S.size;have i0:∀g∈[g6],g<w.heap.size:=fun g hg=>by rw[List.mem_singleton.1 hg];exact S.lt 4 Z
 refine h0a S h6b Z Z (S6a C (wdL p C) m _ hm [] _ _ _ x0 (ha.at_ KQ d0) (F0.at_ KQ d0) (S.blk 0 Z)) ?_;rintro R2 i1 ⟨_,_,_,rfl,G1,H1,I1⟩ I0 Z1;obtain⟨_,_,_,rfl⟩:=G1.form;obtain⟨_,_,_,rfl⟩:=H1.form;obtain⟨_,_,_,rfl⟩:=I1.form;have r0:=x0a.refl [g6] i1;refine d0a (kk:=4) (vs:=[_,_,_]) I0 B2a Z Z Z Z Z Z Z ?_;intro M1 e0 s0;dsimp only[e0a,List.set] at e0;replace r0:=r0.fresh2 s0 (by exact .inr (by simp));refine lR1 Z ?_;exact L0a (n:=3) Z x1a Z (e0.cells 4 Z) Z Z ⟨⟨_,_,_,m,Z,G1.later r0 i0 m0,H1.later r0 i0 m0,I1.later r0 i0 m0,hm.congr fun a b _ _=>⟨fun h=>h.2,fun h=>⟨by have:=h.1;omega,h⟩⟩⟩,e0.fin⟩
theorem r5c(p:List g1a)(C:List Int)(e:E)(er:Int)(he:ErL p C 6 er)(M:List Nat)(w0:World)(vc vl:Value)(es:LV)(hP:i0b M w0 vc p)(hC:RdI M w0 vl C)(hE:RdE M w0 e es)(hp:p.length≤32)(hw:∀c∈p,1≤c.w∧c.w≤8)(hK:W1a M w0):
 A0a prog 69 #[vc,vl,.agg es.toArray] w0 fun v w'=>v=.tuple #[.agg #[.slice none 0 0,.slice none 0 0,.slice none 0 0],.int .i64 er]∧Bw w0 w':=by
 obtain⟨_,_,_,rfl⟩:=hP.form;obtain⟨_,n,c,rfl⟩:=hC.form;obtain⟨_,_,_,rfl,-⟩:=hE.cells;have m0:=he.or;have S:=St.refl w0;refine a0a func69 Z ntmps69 Z ?_;refine wO1 Z (o0a S Z ?_);intro g5 w5 S5 X5 G5;refine g0a S5 J3a Z Z ?_;intro g6 w6 S6 X6 G6;refine lO1 Z (r0a S6 e4b Z Z (S0b p C er he M _ _ _ (hP.keep (S6.keep0 M)) (hC.keep (S6.keep0 M)) hp hw (hK.keep (S6.keep0 M))) ?_);intro n0 c0 j0;refine lO1 Z (g0a c0 D5a Z Z ?_);intro g8 w8 S8 X8 G8;refine d0a (kk:=0) (vs:=[_,_,_]) S8 i5a Z Z Z Z Z Z Z ?_;intro g0 b0 d0;dsimp only[e0a,List.set] at b0;refine lB1 Z (fun f0=>?_) (fun f0=>by exfalso;omega);refine lO1 Z (s0a v3a (vs:=[]) (cs:=[_,_,_]) Z Z Z Z ?_);refine lO1 Z (d0a (kk:=1) (vs:=[_,_,_]) b0 B2a Z Z Z Z Z Z Z ?_);intro i0 a0 e0;dsimp only[e0a,List.set] at a0;exact lR1 Z (L0a (n:=3) Z x1a Z (a0.cells 1 Z) Z Z ⟨Z,a0.fin⟩)
theorem T2b(p:List g1a)(C:List Int)(e:E)(M:List Nat)(w0:World)(vc vl:Value)(es:LV)(hP:i0b M w0 vc p)(hC:RdI M w0 vl C)(hE:RdE M w0 e es)(b0:OKL p.length C)(hp:p.length≤32)(hw:∀c∈p,1≤c.w∧c.w≤8)(a0:Nat)(hb:c2a (wdL p C)=a0)(hK:W1a M w0)(c0:e.valid p true=true)(d0:e.w=1)(f0:∀x∈e.sup 3,x∈C)(e0:∀x∈e.sup 2,x∈C)(hM:∀g∈M,g<w0.heap.size:=by simp):
 A0a prog 69 #[vc,vl,.agg es.toArray] w0 fun v w'=>(∃A1 n1 c1 A2 n2 c2 A3 n3 c3 m er,v=.tuple #[.agg #[.slice A1 n1 c1,.slice A2 n2 c2,.slice A3 n3 c3],.int .i64 er]∧(er=0∧a0≤6∧X3a w0 w' (.slice A1 n1 c1) C∧X3a w0 w' (.slice A2 n2 c2) (wdL p C)∧j4b w0 w' (.slice A3 n3 c3) (G1b m 64)∧z5a m (ofR e C (wdL p C) (2 ^ a0))∨er=2∧6<a0))∧Bw w0 w':=by
 by_cases h:a0≤6
 ·exact(s1d p C e M w0 vc vl es hP hC hE b0.1 b0.2 hp hw a0 hb h hK hM c0 d0 f0 e0).mono fun v w' ⟨⟨a,b,c,m,hv,h1,h2,h3,h4⟩,hb⟩=>by
   obtain⟨A1,n1,c1,rfl⟩:=h1.form;obtain⟨A2,n2,c2,rfl⟩:=h2.form;obtain⟨A3,n3,c3,rfl⟩:=h3.form;exact⟨⟨_,_,_,_,_,_,_,_,_,m,0,hv,.inl ⟨Z,h,h1,h2,h3,h4⟩⟩,hb⟩
 ·exact(r5c p C e 2 (.inr ⟨Z,b0,by omega⟩) M w0 vc vl es hP hC hE hp hw hK).mono fun v w' ⟨hv,hb⟩=>⟨⟨_,_,_,_,_,_,_,_,_,[],2,hv,.inr ⟨Z,by omega⟩⟩,hb⟩
def slQ(u:Value):Prop:=∃A n c,u=.slice A n c
theorem w5c:∃u,slQ u:=⟨.slice none 0 0,none,0,0,Z⟩
def p4d(l:List Int)(u:Value)(w:World):Prop:=RdI [] w u l
theorem L1c(l:List Int):∀u w w',x0a [] w w'→p4d l u w→p4d l u w':=fun _ _ _ hk h=>RdS.keep h hk
theorem p0a.same{w w':World}{b:Blk}(h:p0a w b)(e:w'.heap[b.1]?=w.heap[b.1]?):p0a w' b:=e.trans h
def prj(Ca Wa C W:List Int)(p:Int×Int):Int×Int:=((nuZ C W (stZ Ca Wa p.1.toNat R1a):Nat),(nuZ C W (stZ Ca Wa p.2.toNat R1a):Nat))
theorem A7b{Ca Wa C W:List Int}(hw:∀x∈W,1≤x∧x≤8){a0:Nat}(hb:c2a W=a0)(p:Int×Int):0≤(prj Ca Wa C W p).1∧(prj Ca Wa C W p).1<(2 ^ a0:Nat)∧0≤(prj Ca Wa C W p).2∧(prj Ca Wa C W p).2<(2 ^ a0:Nat):=by
 have h1:=P8b C W (stZ Ca Wa p.1.toNat R1a) hw;have h2:=P8b C W (stZ Ca Wa p.2.toNat R1a) hw;rw[hb,Int.toNat_natCast] at h1 h2;unfold prj;simp only;omega
theorem X9b(A1 A2 A3 B1 B2 B3:Option Addr)(n1 c1 n2 c2 n3 c3 m1 d1 m2 d2 m3 d3:Nat)(w0:World):A0a prog 71 #[.agg #[.slice A1 n1 c1,.slice A2 n2 c2,.slice A3 n3 c3],.agg #[.slice B1 m1 d1,.slice B2 m2 d2,.slice B3 m3 d3]] w0 fun v w'=>(∃ga gb,v=.func (.func 127) #[] #[.pointer (some ⟨ga,0,none⟩),.pointer (some ⟨gb,0,none⟩)]∧w0.heap.size≤ga∧w0.heap.size≤gb∧p0a w' (ga,41,[.slice A1 n1 c1,.slice A2 n2 c2,.slice A3 n3 c3])∧p0a w' (gb,89,[.slice B1 m1 d1,.slice B2 m2 d2,.slice B3 m3 d3]))∧Bw w0 w':=by
 have S:=St.refl w0;refine a0a func71 Z ntmps71 Z ?_;refine wO1 Z (o0a S Z ?_);intro g2 w2 S2 X2 G2;refine o0a S2 Z ?_;intro g3 w3 S3 X3 G3;refine lO1 Z (B1a Z Z ?_);refine lR1 Z (w0a Z ?_);exact⟨⟨g2,g3,Z,by simpa using S3.new 1 Z,by simpa using S3.new 0 Z,S3.blk 1 Z,S3.blk 0 Z⟩,S3.fin⟩
theorem a1c(Ca Wa C W:List Int)(n:Nat)(gp gw gb tp tw tb gz tz:Nat)(w0:World)(v u i v' u' i':Value)(hp:p0a w0 (gp,tp,[v,u,i]))(hw:p0a w0 (gw,tw,[v',u',i']))(hb:p0a w0 (gb,tb,[.slice (some ⟨gz,0,none⟩) 32 32]))(hz:p0a w0 (gz,tz,List.replicate 32 (.int .i64 0)))
 (hC:RdI [] w0 v C) (hW:RdI [] w0 u W) (e0:RdI [] w0 v' Ca) (f0:RdI [] w0 u' Wa) (ho:V9a C W) (i0:V9a Ca Wa) (p0:c2a Wa≤12) (hi:slQ i) (n0:slQ i') (hn:n<4096:=by omega) (hs:c2a W≤12:=by omega) :
 A0a prog 128 #[.int .i64 n,.pointer (some ⟨gp,0,none⟩),.pointer (some ⟨gw,0,none⟩),.pointer (some ⟨gb,0,none⟩)] w0 fun x w'=>x=.int .i64 (nuZ C W (stZ Ca Wa n R1a):Nat)∧Bw w0 w':=by
 obtain⟨A,nc,c,rfl⟩:=hC.form;obtain⟨A',nw,c',rfl⟩:=hW.form;obtain⟨B,mc,d,rfl⟩:=e0.form;obtain⟨B',mw,d',rfl⟩:=f0.form;obtain⟨I,ni,ci,rfl⟩:=hi;obtain⟨I',j0,d0,rfl⟩:=n0;have S:=St.refl w0;have cp:Cells w0 gp 0 [.slice A nc c,.slice A' nw c',.slice I ni ci]:=fun j v hj=>by rw[Nat.zero_add];exact hp.cell hj
 have cw:Cells w0 gw 0 [.slice B mc d,.slice B' mw d',.slice I' j0 d0]:=fun j v hj=>by rw[Nat.zero_add];exact hw.cell hj
 have cb:w0.cell? ⟨gb,0,none⟩=some (.slice (some ⟨gz,0,none⟩) 32 32):=hb.cell Z;have q0:=k6a (hg:=List.not_mem_nil) (M:=[]) hz;have b0:=fun x hx=>(y1b Ca Wa n R1a i0.wid i3a x hx).1;have o0:(stZ Ca Wa n R1a).length=32:=by rw[a1b,W2a]
 refine a0a func128 Z ntmps128 Z ?_;refine wC1 Z (G7b b0a [0,1,2,3,4] 5 (Cl _ _ _ _) (Cl.start S) (fun i=>if i=4 then some (126,#[.agg #[.slice B mc d,.slice B' mw d',.slice I' j0 d0],.int .i64 n,.slice (some ⟨gz,0,none⟩) 32 32],slQ,p4d (stZ Ca Wa n R1a)) else none) ?_ _ Z ?_)
 ·intro i f a Qp Qw hi;by_cases g0:i=4
  ·subst g0;cases hi;exact⟨w5c,L1c _,fun w hC=>(R8a (hn:=hn) Ca Wa R1a n [] w _ _ _ _ (e0.keep hC.2) (f0.keep hC.2) i0 p0 (q0.keep hC.2) W2a i3a).mono (fun u w' hr=>⟨⟨hr.1.form,hr.1 [] (by simp)⟩,hC.later hr.2⟩)⟩
  ·simp only[g0,if_false] at hi;cases hi
 refine y0c Z Z ?_;refine z1a A2a Z (fun w1 hw=>cp.keep (hw.1.keep0 []) List.not_mem_nil) (by rfl) Z ?_;refine n0a ?_;refine y0c Z Z ?_;refine z1a A2a Z (fun w1 hw=>cw.keep (hw.1.keep0 []) List.not_mem_nil) (by rfl) Z ?_;refine n0a ?_;refine y0c Z Z ?_;refine i1a (hv:=Z) (v:=.int .i64 _) Z ?_;refine n0a ?_;refine y0c Z Z ?_;refine j0a o6a Z (fun w1 hw=>by first|exact hw.2.cell (List.not_mem_nil) cb) Z ?_;refine n0a ?_;refine Z8b (caps:=#[]) i6b Z Z Z Z Z Z ?_;rintro s0 ⟨_,_,_,rfl⟩;refine y3c ?_;rintro u0 ⟨a0,_⟩ ⟨-,c0⟩;refine x7a ?_;refine r0a a0 P0d Z Z (n6b C W (stZ Ca Wa n R1a) [] _ _ _ _ _ (hC.keep (a0.keep0 [])) (hW.keep (a0.keep0 [])) ho hs c0 o0 b0) ?_;intro t0 m0 r0;refine S0a ⟨Z,?_⟩;refine x7a ?_;refine B0a (hv:=Z) (v:=.int .i64 _) Z ?_;refine S0a ⟨Z,?_⟩;refine K0c ?_;refine fR0 Z U (w0a Z ?_);exact⟨Z,m0.fin⟩
structure F2d (l:Nat) (Bs:List Nat) (w0:World) (J:List Nat→List (Int×Int)→World→Prop):Prop where
 start:∀Ps w,Below w0.heap.size w0 w→(∀g∈Ps,w0.heap.size≤g∧g<w.heap.size)→J Ps [] w
 own:∀Ps k w w',J Ps k w→Below w.heap.size w w'→J Ps k w'
 keep:∀Ps k w,J Ps k w→x0a Bs w0 w
 each:∀Ps k w a,J Ps k w→k.length+1≤4096→(0≤a.1∧a.1<64∧0≤a.2∧a.2<64)→Yld prog l #[.agg #[.int .i64 a.1,.int .i64 a.2]] w fun u w'=>u=.bool true∧J Ps (k++[a]) w'∧∀g∈Ps,w'.heap[g]?=w.heap[g]?
theorem k7b(Ca Wa C W:List Int)(li:List (Int×Int))(b0 l ga gb ta tb:Nat)(Bs:List Nat)(w0:World)(J:List Nat→List (Int×Int)→World→Prop)(v u i v' u' i':Value)(ha:p0a w0 (ga,ta,[v',u',i']))(hb:p0a w0 (gb,tb,[v,u,i]))(_:ga∉Bs)(a1:gb∉Bs)
 (hC:RdI Bs w0 v C) (hW:RdI Bs w0 u W) (G0:RdI Bs w0 v' Ca) (I0:RdI Bs w0 u' Wa) (hL:V7a Bs w0 i' li) (ho:V9a C W) (L0:V9a Ca Wa) (hs:c2a W=b0) (p1:b0≤6) (O0:c2a Wa≤12) (hi:slQ i) (b1:∀x∈li,0≤x.1∧x.1<4096∧0≤x.2∧x.2<4096) (n1:li.length≤4096) (hJ:F2d l Bs w0 J) :
 A0a prog 127 #[.func (.yield l) #[] #[],.pointer (some ⟨ga,0,none⟩),.pointer (some ⟨gb,0,none⟩)] w0 fun _ w'=>∃Ps,J Ps (li.map (prj Ca Wa C W)) w':=by
 obtain⟨A,nc,c,rfl⟩:=G0.form;obtain⟨A',nw,c',rfl⟩:=I0.form;obtain⟨I',q0,r0,rfl⟩:=hL.form;obtain⟨_,-,_⟩:=hL.len;have o1:2 ^ b0≤64:=Nat.pow_le_pow_right (n:=2) (j:=6) (by omega) (by omega);have S:=St.refl w0;have cA:Cells w0 ga 0 [.slice A nc c,.slice A' nw c',.slice I' q0 r0]:=fun j v hj=>by rw[Nat.zero_add];exact ha.cell hj
 have m1:[Value.slice A nc c,.slice A' nw c',.slice I' q0 r0].length=3:=Z;refine a0a func127 Z ntmps127 Z ?_;refine wO (S.k.a cA) [.f 0 0,.f 0 1] Z ⟨Z,Z,U⟩ (s0a r7a (vs:=[(0,.slice _ _ _),(1,.slice _ _ _)]) (cs:=[_,_,_]) Z Z Z Z ?_);refine g0a S D5a Z Z ?_;intro g4 w4 S4 X4 G4
 first|refine d0a (kk:=0) (vs:=[_,_,_]) S4 i5a Z Z Z Z Z Z Z ?_
 intro d1 i0 R0;dsimp only[e0a,List.set] at i0;refine lO1 Z (s7a (n:=32) (c:=32) i0 R0a Z Z Z Z ?_);intro c0 r1 Q0 j1 i1;refine g0a Q0 q4d Z Z ?_;intro g5 w5 S5 X5 G5;refine X0a (kk:=0) S5 Y1d Z Z Z (by exact Nat.le_of_ble_eq_true Z) ?_;intro f1 a0 S0;refine lO1 Z (B1a Z Z ?_);refine lCn 4 a0.k [] Z U ?_;have Y0:=hJ.start [g4,c0,g5] _ a0.fin (fun g hg=>by
  simp only[List.mem_cons,List.not_mem_nil,or_false] at hg;rcases hg with rfl|rfl|rfl
  ·exact⟨by simpa using a0.new 2 Z,a0.lt 2 Z⟩
  ·exact⟨by simpa using a0.new 1 Z,a0.lt 1 Z⟩
  ·exact⟨by simpa using a0.new 0 Z,a0.lt 0 Z⟩)
 refine wC (a0.k.a cA) [.f 0 2] Z ⟨Z,U⟩ (wL (fun μ D ε w=>D=[]∧∃k:Nat,(k+μ=li.length)∧(J [g4,c0,g5] ((li.take k).map (prj Ca Wa C W)) w)∧(p0a w (g4,89,[.slice A nc c,.slice A' nw c',.slice none 0 0]))∧(p0a w (c0,3,List.replicate 32 (.int .i64 0)))∧(p0a w (g5,28,[.slice (some ⟨c0,0,none⟩) 32 32]))∧ε 0=.func (.yield l) #[] #[]∧ε 6=.func (.func 128) #[] #[.pointer (some ⟨gb,0,none⟩),.pointer (some ⟨g4,0,none⟩),.pointer (some ⟨g5,0,none⟩)]∧ε 17=.slice I' q0 r0∧ε 18=.int .i64 q0∧ε 19=.int .i64 k) (μ:=li.length) ⟨Z,0,by omega,Y0,a0.blk 2 Z,a0.blk 1 Z,a0.blk 0 Z,Z,Z,Z,Z,Z⟩ ?_);rintro μ D ε w ⟨rfl,k,_,u0,v0,f0,y0,e0,e6,D0,E0,F0⟩;refine q0a 0 e0 (q0a 6 e6 (q0a 17 D0 (q0a 18 E0 (q0a 19 F0 ?_))));clear e0 e6 D0 E0 F0;have g0:=hJ.keep _ _ _ u0;have S:=St.refl w;have K0:=V5b g0 a1 hb;have H0:RdI [] w v C:=(hC.keep g0).less (by simp);have J0:RdI [] w u W:=(hW.keep g0).less (by simp);have m0:RdI [] w _ Ca:=(G0.keep g0).less (by simp);have n0:RdI [] w _ Wa:=(I0.keep g0).less (by simp);have Z0:=hL.keep g0;refine wB1 Z (fun X0=>?_) fun X0=>?_
 ·obtain⟨x,U0,c1,V0,P0,s0,_,B0,A0,C0⟩:=RdS.get (Z0) (k) (by omega);obtain⟨W0,_⟩:=C0;have hx:=b1 x (c0a P0);obtain⟨a,b,rfl⟩:∃a b:Nat,x=((a:Int),(b:Int)):=⟨x.1.toNat,x.2.toNat,Prod.ext (Int.toNat_of_nonneg hx.1).symm (Int.toNat_of_nonneg hx.2.2.1).symm⟩;obtain rfl:V0=[Value.int .i64 (a:Int),.int .i64 (b:Int)]:=W0;simp only at hx;refine lO (S.k.b A0) [.x U0 c1,.v 0] Z ⟨⟨Z,B0⟩,⟨s0,by omega⟩,U⟩ (g0a S L9b Z Z ?_);intro g8 w8 S8 X8 G8
  first|refine d0a (kk:=0) (vs:=[_,_]) S8 J6b Z Z Z Z Z Z Z ?_
  intro g1 j0 T0;dsimp only[e0a,List.set] at j0;refine lC1 Z (y0a b0a [0,1,2,3,4,5,6,7,8,9] [] [10,11] Z (Cl _ _ _ _) (Cl.start j0) ?_);refine qO1 Z (v0a S1a Z Z Z ?_);refine j0a E0a Z (fun w1 hw=>by exact hw.1.cell 0 Z Z) Z ?_;refine s6b (caps:=#[.pointer (some ⟨gb,0,none⟩),.pointer (some ⟨g4,0,none⟩),.pointer (some ⟨g5,0,none⟩)]) c2c Z Z Z (fun w1 hw=>H3b hw ((fun w1 S1 X1=>a1c Ca Wa C W a gb g4 g5 _ _ _ c0 _ _ _ _ _ _ _ _ (c1a (S1.keep0 []) K0) (c1a (S1.keep0 []) v0) (c1a (S1.keep0 []) y0) (c1a (S1.keep0 []) f0) (H0.keep (S1.keep0 [])) (J0.keep (S1.keep0 [])) (m0.keep (S1.keep0 [])) (n0.keep (S1.keep0 [])) ho L0 O0 hi ⟨none,0,0,Z⟩) w1 hw.1 hw.2) fun _ _ h=>h) ?_;refine qO1 Z (v0a S1a Z Z Z ?_);refine j0a E0a Z (fun w1 hw=>by exact hw.1.cell 0 Z Z) Z ?_;refine s6b (caps:=#[.pointer (some ⟨gb,0,none⟩),.pointer (some ⟨g4,0,none⟩),.pointer (some ⟨g5,0,none⟩)]) c2c Z Z Z (fun w1 hw=>H3b hw ((fun w1 S1 X1=>a1c Ca Wa C W b gb g4 g5 _ _ _ c0 _ _ _ _ _ _ _ _ (c1a (S1.keep0 []) K0) (c1a (S1.keep0 []) v0) (c1a (S1.keep0 []) y0) (c1a (S1.keep0 []) f0) (H0.keep (S1.keep0 [])) (J0.keep (S1.keep0 [])) (m0.keep (S1.keep0 [])) (n0.keep (S1.keep0 [])) ho L0 O0 hi ⟨none,0,0,Z⟩) w1 hw.1 hw.2) fun _ _ h=>h) ?_;refine R2a T3a (vs:=[(0,.int .i64 _),(1,.int .i64 _)]) (cs:=[_,_]) Z Z Z Z ?_;refine lV Z ?_;rintro t1 ⟨p0,_⟩;have N0:=A7b (Ca:=Ca) (Wa:=Wa) (C:=C) ho.wid hs ((a:Int),(b:Int));refine E3c Z Z Z (hJ.each _ _ _ (prj Ca Wa C W ((a:Int),(b:Int))) (hJ.own _ _ _ _ u0 p0.fin) (by rw[List.length_map,List.length_take];omega) ⟨N0.1,by omega,N0.2.2.1,by omega⟩) ?_;rintro q1 s1 ⟨rfl,t0,d0⟩;have x0:=(c1a (p0.keep0 []) v0).same (d0 g4 (by simp));have o0:=(c1a (p0.keep0 []) f0).same (d0 c0 (by simp));have z0:=(c1a (p0.keep0 []) y0).same (d0 g5 (by simp));refine lP1 Z ?_;exact⟨μ-1,by omega,Z,k+1,by omega,by rw[u0a P0,List.map_append];exact t0,x0,o0,z0,Z,Z,Z,Z,Z⟩
 refine lF1 Z (J1a Z ?_);exact⟨_,(show li.take k=li from List.take_of_length_le (by omega))▸u0⟩
def I4b(a b:List Int):List Int:=Lib.compact (O3a (a++b))
theorem L5b(d:Array Int):∀m,(∀i j,i≤j→j<m→d[i]! ≤ d[j]!)→(Lib.compactUpTo d m).Pairwise (·<·)∧∀x,x∈Lib.compactUpTo d m↔∃j,j<m∧d[j]! = x:=by
 intro m
 induction m with
 | zero=>intro _;simp[Lib.compactUpTo]
 | succ m ih =>
   intro a0;obtain⟨h1,h2⟩:=ih (fun i j d0 hj=>a0 i j d0 (by omega));rw[Lib.compactUpTo_succ];by_cases hk:Lib.keeps d m=true
   ·rw[if_pos hk];refine⟨List.pairwise_append.2 ⟨h1,by simp,fun x hx y hy=>?_⟩,fun x=>?_⟩
    ·simp at hy;subst hy;obtain⟨j,hj,rfl⟩:=(h2 x).1 hx;have h3:=a0 j (m-1) (by omega) (by omega);have h4:=a0 (m-1) m (by omega) (by omega);have h5:d[m]! ≠ d[m-1]! := by
      simp only[Lib.keeps,decide_eq_true_eq] at hk;rcases hk with h|h
      ·omega
      ·exact h
     omega
    ·simp only[List.mem_append,h2,List.mem_singleton];constructor
     ·rintro(⟨j,hj,rfl⟩|rfl)
      ·exact⟨j,by omega,Z⟩
      ·exact⟨m,by omega,Z⟩
     ·rintro⟨j,hj,rfl⟩;by_cases b0:j=m
      ·subst b0;exact .inr Z
      ·exact .inl ⟨j,by omega,Z⟩
   ·rw[if_neg hk];have c0:¬(m=0∨d[m]! ≠ d[m-1]!):=by simpa[Lib.keeps] using hk
    have h5:d[m]! = d[m-1]! := Classical.byContradiction fun h=>c0 (.inr h);have h6:m≠0:=fun h=>c0 (.inl h);refine⟨by simpa using h1,fun x=>?_⟩;simp only[List.append_nil,h2];constructor
    ·rintro⟨j,hj,rfl⟩;exact⟨j,by omega,Z⟩
    ·rintro⟨j,hj,rfl⟩;by_cases b0:j=m
     ·subst b0;exact⟨j-1,by omega,h5.symm⟩
     ·exact⟨j,by omega,Z⟩
theorem h6a(a b:List Int):(I4b a b).Pairwise (·<·)∧∀x,x∈I4b a b↔x∈a∨x∈b:=by
 have hs:(O3a (a++b)).Pairwise (fun x y=>x≤y):=by
  have:=List.pairwise_mergeSort (le:=fun(x y:Int)=>decide (x≤y)) (fun a b c=>by simp;omega) (fun a b=>by simp;omega) (a++b);simpa[O3a] using this
 have hm:∀x,x∈O3a (a++b)↔x∈a∨x∈b:=fun x=>by simp[O3a]
 generalize hz:O3a (a++b)=zs at hs hm;have hu:I4b a b=Lib.compactUpTo zs.toArray zs.length:=by unfold I4b Lib.compact;rw[hz]
 have hg:∀i,i<zs.length→zs.toArray[i]! = zs.getD i 0:=fun i hi=>by simp[hi]
 obtain⟨h1,h2⟩:=L5b zs.toArray zs.length (fun i j a0 hj=>by
  rw[hg i (by omega),hg j hj];by_cases he:i=j
  ·subst he;exact Int.le_refl _
  ·have:=List.pairwise_iff_getElem.1 hs i j (by omega) hj (by omega);simpa[show i<zs.length by omega,hj] using this)
 rw[hu];refine⟨h1,fun x=>?_⟩;rw[h2,←hm];constructor
 ·rintro⟨j,hj,rfl⟩;rw[hg j hj];simp[hj]
 ·intro hx;obtain⟨j,hj,rfl⟩:=List.getElem_of_mem hx;exact⟨j,hj,by rw[hg j hj];simp[hj]⟩
theorem St.changedO{M:List Nat}{w0 w w':World}{L:List Ent}{G:Option Nat}{t t':Nat}{cs a0:LV}(S:St M w0 w L)(i:Nat)(hi:L[i]?=some (G,t,cs))(hb:H0a G.toList w w')(h1:∀g,G=some g→p0a w' (g,t',a0)):St M w0 w' (L.set i (G,t',a0)):=by
 cases G with
 | some g=>exact S.changed1 i hi hb (h1 g Z)
 | none =>
   have hB:Below w.heap.size w w':=hb.nil;exact S.replace i hi (S.later hB).below (fun b b0 _=>hb.block b b0 (by simp)) (fun g hg=>by cases hg)
theorem St.pushO{M:List Nat}{w0 w w1:World}{L:List Ent}{G:Option Nat}{el:Nat}{cs:LV}(S1:St M w0 w1 L)(Sw:St M w0 w L)(h:∀g,G=some g→w.heap.size≤g∧p0a w1 (g,el,cs)):St M w0 w1 ((G,el,cs)::L):=by
 cases G with
 | none=>exact(S1.nilEnt el).changedO 0 Z (H0a.refl _ _) (fun g hg=>by cases hg)
 | some g=>exact S1.push_new Sw (h g Z).2 (h g Z).1
theorem H0a.keepO{G:List Nat}{w w':World}(h:H0a G w w'):x0a G w w':=⟨h.size,h.block⟩
theorem F5c(w:World)(G:Option Nat)(el:Nat)(cs:LV)(v:Value)(zs:List Int)(hR:S4a G 1 zs.length cs v (zs.map (Value.int .i64)))(hb:∀g,G=some g→p0a w (g,el,cs))(hz:zs.length≤1000000):
 A0a prog 68 #[v] w fun _ w'=>∃d0,H0a G.toList w w'∧(∀g,G=some g→p0a w' (g,el,d0))∧S4a G 1 (O3a zs).length d0 v ((O3a zs).map (Value.int .i64)):=by
 have b0:(O3a zs).length=zs.length:=by simp[O3a]
 obtain⟨_,⟨rfl,rfl,a0⟩|⟨g,c0,rfl,rfl,_,q2,_,q4⟩⟩:=hR
 ·refine Calls.mono (Tryz.slices_Sort_int_none none 0 w) ?_;rintro e w' ⟨rfl,rfl⟩;exact⟨_,Z,cs,H0a.refl _ _,fun g hg=>(by cases hg),by rw[b0,a0,List.length_eq_zero_iff.1 a0];simp[O3a],.inl ⟨Z,Z,by rw[b0];exact a0⟩⟩
 ·refine(z3c w g el c0 cs zs (hb g Z) (by simpa using q4) hz).mono ?_;rintro _ w' ⟨B,h1⟩;refine⟨_,B,fun g' hg=>(by cases hg;exact h1),by simp,.inr ⟨g,c0,Z,by rw[b0],by omega,q2,?_,?_⟩⟩
  ·rw[List.length_append,List.length_map,List.length_drop,b0];omega
  ·rw[Nat.mul_one];exact List.take_left' (by simp)
theorem n1b(w:World)(G:Option Nat)(el:Nat)(cs:LV)(v:Value)(zs:List Int)(hR:S4a G 1 zs.length cs v (zs.map (Value.int .i64)))(hb:∀g,G=some g→p0a w (g,el,cs))(hz:zs.length≤1000000:=by omega):
 A0a prog 70 #[v] w fun v' w'=>∃c0,H0a G.toList w w'∧(∀g,G=some g→p0a w' (g,el,c0))∧S4a G 1 (Lib.compact zs).length c0 v' ((Lib.compact zs).map (Value.int .i64)):=by
 have e0:=Lib.compact_length_le zs;obtain⟨_,⟨rfl,rfl,a0⟩|⟨g,b0,rfl,rfl,_,q2,_,q4⟩⟩:=hR
 ·have d0:=List.length_eq_zero_iff.1 a0;subst d0;refine Calls.mono (Tryz.slices_Compact_int_empty none 0 w) ?_;rintro e w' ⟨rfl,rfl⟩;exact⟨_,Z,cs,H0a.refl _ _,fun g hg=>(by cases hg),by simp[Lib.compact,Lib.compactUpTo],.inl ⟨Z,Z,by simp[Lib.compact,Lib.compactUpTo]⟩⟩
 ·refine(j0c w g el b0 cs zs (hb g Z) (by simpa using q4) (by omega) hz (by omega)).mono ?_;rintro _ w' ⟨rfl,B,h1⟩;refine⟨_,B,fun g' hg=>(by cases hg;exact h1),by simp,.inr ⟨g,b0,Z,Z,by omega,q2,?_,?_⟩⟩
  ·rw[List.length_append,List.length_map,List.length_append,List.length_replicate,List.length_drop];omega
  ·rw[Nat.mul_one,List.map_append,List.append_assoc];exact List.take_left' (by simp)
theorem S5b(w:World)(G:Option Nat)(cs:LV)(v:Value)(l:List (Int×Int))(hR:T1a r6a 2 [] w G cs v l)(hb:∀g,G=some g→p0a w (g,72,cs))(hz:l.length≤1000000):
 A0a prog 53 #[v] w fun v' w'=>∃a0,H0a G.toList w w'∧(∀g,G=some g→p0a w' (g,72,a0))∧slQ v'∧∀M,(∀g,G=some g→g∉M)→(∀x∈l,i64 x.1∧i64 x.2)→V7a M w' v' (ddP l):=by
 have e0:=j2c l;have d0:=hR.toVP;obtain⟨_,⟨rfl,rfl,_⟩|⟨g,b0,rfl,rfl,_,q2,_,q4⟩⟩:=d0
 ·refine(R9a w 0 none).mono ?_;rintro _ w' ⟨rfl,B⟩;refine⟨cs,⟨B.os,B.tape,B.output,B.size,fun k hk _=>B.block k hk⟩,fun g hg=>(by cases hg),⟨none,0,0,Z⟩,fun M _ _=>?_⟩;exact⟨none,0,0,Z,by omega,Nat.le_refl _,by unfold maxLen;omega,by omega,fun h=>absurd h (by omega)⟩
 ·refine(O9a g b0 l cs w (hb g Z) q4 (by omega) hz).mono ?_;rintro _ w' ⟨rfl,B,a0,_,h2,h3⟩;exact⟨a0,B,fun g' hg=>(by cases hg;exact h2),⟨_,_,_,Z⟩,fun M hM c0=>t8b h3 (fun x hx=>c0 x (U0b.1 hx)) q2 h2 (hM g Z)⟩
variable {e:Env} {w:World}
section
variable {P:Program} {r:Option Nat} {N:Nat} {l:List Oper} {D:List Deferred} {C:World→Prop} {K:List Deferred→Env→World→Prop} {pur:Nat→Bool}
def E9a(e:Env)(d:Option Nat)(v:Value):Env:=match d with|some d=>upd e d v|none=>e
def J1b(N:Nat)(o:Oper):Prop:=∀d,o.dst=some d→d<N
theorem K4a{a:Act}(o:Oper)(v:Value)(h:J1b a.tmps.size o):P0a (a.put o.dst v)=E9a (P0a a) o.dst v:=by
 cases hd:o.dst with
 | none=>rfl
 | some d=>exact b1a v (h d hd)
theorem m8a(a:Act)(o:Oper)(v:Value):(a.put o.dst v).tmps.size=a.tmps.size:=by
 cases o.dst<;>simp[Act.put]
theorem z3a(a:Act)(o:Oper)(v:Value):(a.put o.dst v).defers=a.defers:=by
 cases o.dst<;>simp[Act.put]
theorem T5a{e:Env}{o:Oper}{v:Value}(hN:J1b N o)(hz:∀i,N≤i→e i=undef):∀i,N≤i→E9a e o.dst v i=undef:=by
 cases hd:o.dst with
 | none=>exact hz
 | some d=>exact A1a (hN d hd) hz
theorem q2a{o:Oper}{K1:List Deferred→Env→World→Prop}{e e1:Env}{w:World}(hN:J1b N o)(j0:Op.isSelect o.op=false)(d0:∀c,o.op≠.defer c)(hz:∀i,N≤i→e1 i=undef)
 (b0:∀s∈Oper.looksAt l.toArray o,e s=e1 s) (h:WL P r N l.toArray [o] K1 D e1 w):WL P r N l.toArray [o] (fun D' e' w'=>∃v,e'=E9a e o.dst v∧K1 D' (E9a e1 o.dst v) w') D e w:=by
 unfold WL at *;intro a Q hs hD he hK;obtain⟨a1,i0,g0,e0⟩:=d7a e1 N D hz;have h1:=h a1 (fun ex a' w'=>ex=.normal∧K1 a'.defers (P0a a') w') i0 g0 e0 (fun a' w' _ hk=>⟨Z,hk⟩);have hw:Region.wanted o (yielded l.toArray a.tmps)=Region.wanted o (yielded l.toArray a1.tmps):=by rw[p1a,p1a,he,e0];exact O0a b0
 have c0:∀(v:Value) (w':World),K1 (a1.put o.dst v).defers (P0a (a1.put o.dst v)) w'→Q .normal (a.put o.dst v) w':=by
  intro v w' hk;rw[K4a o v (by rw[i0];exact hN),e0,z3a,g0] at hk;refine hK _ _ (by rw[m8a,hs]) ⟨v,by rw[K4a o v (by rw[hs];exact hN),he],?_⟩;rw[z3a,hD];exact hk
 simp only[wpListIn] at h1 ⊢;rw[hw]
 split
 ·rename_i n0;simp only[n0,if_true] at h1;refine⟨I0a _ _ _,?_⟩;have h4:=h1.2;have m0:Oper.semAt (fc r).round a.eval o=Oper.semAt (fc r).round a1.eval o:=by
   rw[Oper.semAt_eq _ _ _ d0,Oper.semAt_eq _ _ _ d0,v2a,v2a,he,e0];exact n1a j0 b0
  rw[m0]
  revert h4
  generalize (Oper.semAt (fc r).round a1.eval o).run P w=p0;intro h4;cases p0 with
  | ok x w' =>
    cases x with
    | value v=>simp only[Oper.uponIn] at h4 ⊢;exact c0 v w' h4.2
    | skip=>simp only[Oper.uponIn] at h4 ⊢;exact c0 undef w' h4.2
    | defer dd =>
      simp only[Oper.uponIn] at h4 ⊢;have hk:=h4.2;have o0:P0a ({ a1 with defers:=dd::a1.defers }:Act)=e1:=e0;have ee:P0a ({ a with defers:=dd::a.defers }:Act)=e:=he;rw[K4a (a:={ a1 with defers:=dd::a1.defers }) o undef (by rw[show({ a1 with defers:=dd::a1.defers }:Act).tmps.size=N from i0];exact hN),o0,z3a] at hk;refine hK _ _ (by rw[m8a];exact hs) ⟨undef,by rw[K4a (a:={ a with defers:=dd::a.defers }) o undef (by rw[show({ a with defers:=dd::a.defers }:Act).tmps.size=N from hs];exact hN),ee],?_⟩;rw[z3a];show K1 (dd::a.defers) _ _;rw[hD,←g0];exact hk
    | enter f args =>
      simp only[Oper.uponIn] at h4 ⊢;exact⟨h4.1,CallsIn.mono h4.2 (fun en q0 hh=>by
       cases en
       ·exact c0 _ _ hh.2
       ·exact absurd hh.1 (by simp)
       ·obtain⟨a0,w0,hh⟩:=hh;exact absurd hh.1 (by simp))⟩
    | row r0 args=>simp only[Oper.uponIn] at h4 ⊢;exact⟨h4.1,RowsIn.mono h4.2 (fun _ _ hh=>c0 _ _ hh.2)⟩
    | round l' f tmps f0 body =>
      simp only[Oper.uponIn] at h4 ⊢;exact⟨h4.1,RoundIn.mono h4.2 (fun en q0 hh=>by
       cases en
       ·exact c0 _ _ hh.2
       ·exact absurd hh.1 (by simp)
       ·obtain⟨a0,w0,hh⟩:=hh;exact absurd hh.1 (by simp))⟩
    | _=>simp only[Oper.uponIn] at h4
  | halt x w'=>cases x<;>simp only[Oper.uponIn] at h4 ⊢<;>exact absurd h4.1 (by simp)
 ·rename_i n0;simp only[n0] at h1;exact⟨I0a _ _ _,c0 undef w h1.2.2⟩
theorem W7b{o:Oper}{K1:List Deferred→Env→World→Prop}{e:Env}{w:World}(hN:J1b N o)(hz:∀i,N≤i→e i=undef)
 (h:WL P r N l.toArray [o] K1 D e w):∃D' v w',K1 D' (E9a e o.dst v) w':=by
 unfold WL at h;obtain⟨a1,e0,f0,d0⟩:=d7a e N D hz;have h1:=h a1 (fun ex a' w'=>ex=.normal∧K1 a'.defers (P0a a') w') e0 f0 d0 (fun a' w' _ hk=>⟨Z,hk⟩);have b0:∀(v:Value) (w':World),K1 (a1.put o.dst v).defers (P0a (a1.put o.dst v)) w'→∃D' v w',K1 D' (E9a e o.dst v) w':=by
  intro v w' hk;rw[K4a o v (by rw[e0];exact hN),d0] at hk;exact⟨_,v,w',hk⟩
 simp only[wpListIn] at h1
 split at h1
 ·have h4:=h1.2
  revert h4
  generalize (Oper.semAt (fc r).round a1.eval o).run P w=g0;intro h4;cases g0 with
  | ok x w' =>
    cases x with
    | value v=>simp only[Oper.uponIn] at h4;exact b0 v w' h4.2
    | skip=>simp only[Oper.uponIn] at h4;exact b0 undef w' h4.2
    | defer dd =>
      simp only[Oper.uponIn] at h4;have hk:=h4.2;rw[K4a (a:={ a1 with defers:=dd::a1.defers }) o undef (by rw[show({ a1 with defers:=dd::a1.defers }:Act).tmps.size=N from e0];exact hN),show P0a ({ a1 with defers:=dd::a1.defers }:Act)=e from d0] at hk;exact⟨_,_,_,hk⟩
    | enter f args =>
      simp only[Oper.uponIn] at h4;obtain⟨en,w2,_,hR,_⟩:=h4.2.2 [] (room_wide _);cases en
      ·exact b0 _ _ hR.2
      ·exact absurd hR.1 (by simp)
      ·obtain⟨a0,w0,hh⟩:=hR;exact absurd hh.1 (by simp)
    | row i0 args =>
      simp only[Oper.uponIn] at h4;obtain⟨v,w2,hR,_⟩:=h4.2 default [] (room_wide _);exact b0 _ _ hR.2
    | round l' f tmps c0 body =>
      simp only[Oper.uponIn] at h4;obtain⟨en,w2,hR,_⟩:=h4.2.2 default [] (room_wide _);cases en
      ·exact b0 _ _ hR.2
      ·exact absurd hR.1 (by simp)
      ·obtain⟨a0,w0,hh⟩:=hR;exact absurd hh.1 (by simp)
    | _=>simp only[Oper.uponIn] at h4
  | halt x w'=>cases x<;>simp only[Oper.uponIn] at h4<;>exact absurd h4.1 (by simp)
 ·exact b0 undef w h1.2.2
def WN(P:Program)(r:Option Nat)(N:Nat)(l:List Oper)(C:World→Prop)(pur:Nat→Bool)(K:List Deferred→Env→World→Prop)(D:List Deferred):List Nat→Env→World→Prop
 | [],e,w=>C w∧K D e w
 | i::rest,e,w=>C w∧∃o,l[i]?=some o∧J1b N o ∧
  ((pur i=true∧∃d v,o.dst=some d∧PV P l C o e v∧WN P r N l C pur K D rest (upd e d v) w) ∨
   (pur i=false∧WL P r N l.toArray [o] (fun D' e' w'=>D'=D∧WN P r N l C pur K D rest e' w') D e w))
theorem WN.inC{a0:List Nat}{e:Env}{w:World}(h:WN P r N l C pur K D a0 e w):C w:=by cases a0<;>exact h.1
def i4a(l:List Oper)(pur:Nat→Bool)(j i:Nat):Bool :=
 match l[j]?,l[i]? with
 | some p,some q=>(pur i||pur j)&&(match p.dst,q.dst with
   | some c,some d=>!(c==d)&&!(Oper.looksAt l.toArray p).contains d&&!(Oper.looksAt l.toArray q).contains c
   | some c,none=>pur j&&!(Oper.looksAt l.toArray q).contains c
   | none,some d=>pur i&&!(Oper.looksAt l.toArray p).contains d
   | _,_=>false)
 | _,_=>false
structure y5d (l:List Oper) (pur:Nat→Bool) (j i:Nat) (o1 o2:Oper):Prop where
 pur:pur i=true∨pur j=true
 dst:∀c d,o1.dst=some c→o2.dst=some d→c≠d
 p:∀d,o2.dst=some d→d∉Oper.looksAt l.toArray o1
 q:∀c,o1.dst=some c→c∉Oper.looksAt l.toArray o2
theorem b5a{j i:Nat}{p q:Oper}(h:i4a l pur j i=true)(hj:l[j]?=some p)(hi:l[i]?=some q):y5d l pur j i p q:=by
 unfold i4a at h;simp only[hj,hi,Bool.and_eq_true,Bool.or_eq_true] at h;obtain⟨h1,h2⟩:=h;cases hc:p.dst with
 | none =>
   cases hd:q.dst with
   | none=>simp[hc,hd] at h2
   | some d =>
     simp only[hc,hd,Bool.and_eq_true,Bool.not_eq_true',List.contains_eq_mem,decide_eq_false_iff_not] at h2;exact⟨h1,fun c d h=>(by rw[hc] at h;cases h),fun x hx=>(by rw[hd] at hx;cases hx;exact h2.2),fun c h=>(by rw[hc] at h;cases h)⟩
 | some c =>
   cases hd:q.dst with
   | none =>
     simp only[hc,hd,Bool.and_eq_true,Bool.not_eq_true',List.contains_eq_mem,decide_eq_false_iff_not] at h2;exact⟨h1,fun c d _ h=>(by rw[hd] at h;cases h),fun d h=>(by rw[hd] at h;cases h),fun x hx=>(by rw[hc] at hx;cases hx;exact h2.2)⟩
   | some d =>
     simp only[hc,hd,Bool.and_eq_true,Bool.not_eq_true',beq_eq_false_iff_ne,List.contains_eq_mem,decide_eq_false_iff_not] at h2;exact⟨h1,fun x y hx hy=>(by rw[hc] at hx;rw[hd] at hy;cases hx;cases hy;exact h2.1.1),fun x hx=>(by rw[hd] at hx;cases hx;exact h2.1.2),fun x hx=>(by rw[hc] at hx;cases hx;exact h2.2)⟩
theorem L4a{e:Env}{o:Oper}{u:Value}{s:Nat}{X:List Nat}(hc:∀c,o.dst=some c→c∉X)(hs:s∈X):E9a e o.dst u s=e s:=by
 cases hd:o.dst with
 | none=>rfl
 | some c=>exact o1a (hc c hd) hs
theorem B8a(e:Env){p q:Oper}(u v:Value)(h:∀c d,p.dst=some c→q.dst=some d→c≠d):E9a (E9a e p.dst u) q.dst v=E9a (E9a e q.dst v) p.dst u:=by
 cases hc:p.dst with
 | none=>rfl
 | some c =>
   cases hd:q.dst with
   | none=>rfl
   | some d=>exact r2a e u v (h c d hc hd)
theorem WN.first(a0:q3a l=true){i:Nat}{g0:List Nat}:∀(e0:List Nat) (e:Env) (w:World),(∀j∈e0,i4a l pur j i=true)→(∀i,N≤i→e i=undef)→WN P r N l C pur K D (e0++i::g0) e w →
 ∃o,l[i]?=some o∧J1b N o ∧
  ((pur i=true∧∃d v,o.dst=some d∧PV P l C o e v∧WN P r N l C pur K D (e0++g0) (upd e d v) w) ∨
   (pur i=false∧WL P r N l.toArray [o] (fun D' e' w'=>D'=D∧∃v,e'=E9a e o.dst v∧WN P r N l C pur K D (e0++g0) e' w') D e w)):=by
 intro e0
 induction e0 with
 | nil =>
   intro e w _ hz h;obtain⟨hC,o,ho,hN,h⟩:=h;refine⟨o,ho,hN,?_⟩;rcases h with h|⟨hp,h⟩
   ·exact .inl h
   ·refine .inr ⟨hp,?_⟩;have h2:=q2a (e:=e) (e1:=e) hN (z0a a0 ho).1 (z0a a0 ho).2 hz (fun _ _=>rfl) h;unfold WL at *;exact fun a Q hs hD he hK=>h2 a Q hs hD he (fun a' w' m0 ⟨v,h1,h3,h4⟩=>hK a' w' m0 ⟨h3,v,h1,by rw[h1];exact h4⟩)
 | cons q e0 ih =>
   intro e w i0 hz h;obtain⟨hC,p,hp,d0,h⟩:=h;have hq:=i0 q (by simp);have b0:∀j∈e0,i4a l pur j i=true:=fun j hj=>i0 j (by simp[hj]);rcases h with⟨j0,c,u,hc,hu,h⟩|⟨j0,h⟩
   ·obtain⟨o,ho,hN,h2⟩:=ih (upd e c u) w b0 (A1a (d0 c hc) hz) h;have hI:=b5a hq hp ho;refine⟨o,ho,hN,?_⟩;rcases h2 with⟨f0,d,v,hd,hv,h2⟩|⟨f0,h2⟩
    ·refine .inl ⟨f0,d,v,hd,hv.congr (z0a a0 ho).1 (fun s hs=>o1a (hI.q c hc) hs),hC,p,hp,d0,.inl ⟨j0,c,u,hc,hu.congr (z0a a0 hp).1 (fun s hs=>(o1a (hI.p d hd) hs).symm),?_⟩⟩;rw[←r2a _ _ _ (hI.dst c d hc hd)];exact h2
    ·refine .inr ⟨f0,?_⟩;have h3:=q2a (e:=e) (e1:=upd e c u) hN (z0a a0 ho).1 (z0a a0 ho).2 (A1a (d0 c hc) hz) (fun s hs=>(o1a (hI.q c hc) hs).symm) h2;unfold WL at *;refine fun a Q hs hD he hK=>h3 a Q hs hD he (fun a' w' m0 hh=>hK a' w' m0 ?_);obtain⟨v,h1,h4,_,h5,h6⟩:=hh;refine⟨h4,v,h1,?_⟩;rw[h1];refine⟨h6.inC,p,hp,d0,.inl ⟨j0,c,u,hc,hu.congr (z0a a0 hp).1 (fun s hs=>(L4a hI.p hs).symm),?_⟩⟩;have e1:E9a (upd e c u) o.dst v=upd (E9a e o.dst v) c u:=by
      have:=B8a e (p:=p) (q:=o) u v hI.dst;rw[hc] at this;exact this
     rw[←e1];exact h6
   ·have h0:=q2a (e:=e) (e1:=e) d0 (z0a a0 hp).1 (z0a a0 hp).2 hz (fun _ _=>rfl) h;obtain⟨_,u1,w1,_,r0,_,h1⟩:=W7b d0 hz h0;rw[←r0] at h1;obtain⟨o,ho,hN,h2⟩:=ih (E9a e p.dst u1) w1 b0 (T5a d0 hz) h1;have hI:=b5a hq hp ho;have f0:pur i=true:=by
     rcases hI.pur with h|h
     ·exact h
     ·rw[j0] at h;cases h
    rcases h2 with⟨_,d,v0,hd,s0,_⟩|⟨c0,_⟩
    ·have n0:PV P l C o e v0:=s0.congr (z0a a0 ho).1 (fun s hs=>L4a hI.q hs);refine⟨o,ho,hN,.inl ⟨f0,d,v0,hd,n0,hC,p,hp,d0,.inr ⟨j0,?_⟩⟩⟩;have h3:=q2a (e:=upd e d v0) (e1:=e) d0 (z0a a0 hp).1 (z0a a0 hp).2 hz (fun s hs=>o1a (hI.p d hd) hs) h;unfold WL at *;refine fun a Q hs hD he hK=>h3 a Q hs hD he (fun a' w' m0 hh=>hK a' w' m0 ?_);obtain⟨u,hu,o0,h4⟩:=hh;refine⟨o0,?_⟩;obtain⟨o',q0,_,h5⟩:=ih (E9a e p.dst u) w' b0 (T5a d0 hz) h4;obtain rfl:o'=o:=Option.some.inj (q0.symm.trans ho);rcases h5 with⟨_,d',v,p0,hv,h5⟩|⟨c0,_⟩
     ·obtain rfl:d'=d:=Option.some.inj (p0.symm.trans hd);have hv':PV P l C o' e v:=hv.congr (z0a a0 ho).1 (fun s hs=>L4a hI.q hs);obtain rfl:v=v0:=PV.uniq hC hv' n0;have e1:upd (E9a e p.dst u) d' v=E9a (upd e d' v) p.dst u:=by
       have:=B8a e (p:=p) (q:=o') u v hI.dst;rw[hd] at this;exact this
      rw[hu,←e1];exact h5
     ·rw[f0] at c0;cases c0
    ·rw[f0] at c0;cases c0
def n5c(l:List Oper)(pur:Nat→Bool)(x y:Nat):List Nat→List Nat→Bool
 | _,[]=>true
 | acc,i::rest=>(acc.all fun j=>(f4a l i).contains j||i4a l pur j i||(j==x&&i==y))&&n5c l pur x y (acc++[i]) rest
theorem y2b{x y:Nat}:∀(ix acc:List Nat),n5c l pur x y acc ix=true→∀(b0:List Nat) (i:Nat) (a0:List Nat),ix=b0++i::a0→∀j∈acc++b0,j∈f4a l i∨i4a l pur j i=true∨(j=x∧i=y)
 | [],_,_,b0,i,a0,h=>by simp at h
 | k::ix,acc,h,b0,i,a0,he=>by
   simp only[n5c,Bool.and_eq_true] at h;cases b0 with
   | nil =>
     simp at he;obtain⟨rfl,-⟩:=he;intro j hj;rw[List.append_nil] at hj;have:=List.all_eq_true.1 h.1 j hj;simp only[Bool.or_eq_true,List.contains_eq_mem,decide_eq_true_eq,Bool.and_eq_true,beq_iff_eq] at this;rcases this with(h|h)|h
     ·exact .inl h
     ·exact .inr (.inl h)
     ·exact .inr (.inr h)
   | cons q b0 =>
     simp at he;obtain⟨rfl,he⟩:=he;intro j hj;exact y2b ix (acc++[k]) h.2 b0 i a0 he j (by simpa using hj)
def i1d(ix:List Nat)(f:Nat→Bool):List Nat:=ix.filter fun i=>!f i
theorem a0c{ix:List Nat}(c0:ix.Nodup)(f:Nat→Bool){i:Nat}(hi:i∈ix)(hf:f i=false):∃b0 a0 P Q,ix=P++i::Q∧i1d ix f=b0++i::a0∧i1d ix (fun j=>f j||j==i)=b0++a0∧∀j∈b0,j∈P∧f j=false:=by
 obtain⟨P,Q,rfl⟩:=List.append_of_mem hi;rw[List.nodup_append] at c0;obtain⟨_,h2,h3⟩:=c0;rw[List.nodup_cons] at h2;refine⟨P.filter fun j=>!f j,Q.filter fun j=>!f j,P,Q,Z,?_,?_,?_⟩
 ·unfold i1d;rw[List.filter_append,List.filter_cons];simp[hf]
 ·unfold i1d;rw[List.filter_append,List.filter_cons];simp only[beq_self_eq_true,Bool.or_true,Bool.not_true,Bool.false_eq_true,if_false]
  congr 1
  ·apply List.filter_congr;intro j hj;have:(j==i)=false:=by simp;exact fun e=>h3 j hj i (by simp) e
   simp[this]
  ·apply List.filter_congr;intro j hj;have:(j==i)=false:=by simp;exact fun e=>h2.1 (e▸hj)
   simp[this]
 ·intro j hj;rw[List.mem_filter] at hj;exact⟨hj.1,by simpa using hj.2⟩
def I8b:List Nat→Bool
 | []=>true
 | x::l=>!l.contains x&&I8b l
theorem Z4b:∀{l:List Nat},I8b l=true→l.Nodup
 | [],_=>List.nodup_nil
 | x::l,h=>by
   simp only[I8b,Bool.and_eq_true,Bool.not_eq_true',List.contains_eq_mem,decide_eq_false_iff_not] at h;exact List.nodup_cons.2 ⟨h.1,Z4b h.2⟩
def Q7c(n:Nat)(ix:List Nat):Bool:=I8b ix&&(List.range n).all (fun i=>ix.contains i)&&ix.all (fun i=>decide (i<n))
theorem WN.step{ix:List Nat}{x y:Nat}(f0:q3a l=true)(c0:ix.Nodup)(e0:n5c l pur x y [] ix=true){f:Nat→Bool}(a0:∀i,f i=true→∀j∈d1a l i,f j=true){i:Nat}{o:Oper}(hi:i∈ix)(ho:l[i]?=some o)(b0:f i=false)
 (g0:∀j∈d1a l i,f j=true) (j0:i=y→f x=true) {e:Env} {w:World} (hz:∀i,N≤i→e i=undef) (h:WN P r N l C pur K D (i1d ix f) e w) :
 J1b N o∧((pur i=true∧∃d v,o.dst=some d∧PV P l C o e v∧WN P r N l C pur K D (i1d ix (fun j=>f j||j==i)) (upd e d v) w) ∨
  (pur i=false∧WL P r N l.toArray [o] (fun D' e' w'=>D'=D∧∃v,e'=E9a e o.dst v∧WN P r N l C pur K D (i1d ix (fun j=>f j||j==i)) e' w') D e w)):=by
 obtain⟨m0,_,A,B,h1,h2,h3,h4⟩:=a0c c0 f hi b0;rw[h2] at h;have i0:∀j∈f4a l i,f j=true:=s3a a0 _ _ g0;obtain⟨o',d0,hN,h5⟩:=WN.first f0 m0 e w (fun j hj=>by
  obtain⟨h6,h7⟩:=h4 j hj;rcases y2b ix [] e0 A i B h1 j (by simpa using h6) with h|h|⟨h,h'⟩
  ·have:=i0 j h;rw[h7] at this;cases this
  ·exact h
  ·subst h;have:=j0 h';rw[h7] at this;cases this) hz h
 obtain rfl:o'=o:=Option.some.inj (d0.symm.trans ho);rw[h3];exact⟨hN,h5⟩
end
inductive j2a where
 | nil
 | op (i:Nat) (t:j2a)
 | two (a b:j2a)
section
variable {P:Program} {r:Option Nat} {N:Nat} {l:List Oper} {C:World→Prop} {pur:Nat→Bool} {K:List Deferred→Env→World→Prop} {D:List Deferred}
def WT(P:Program)(r:Option Nat)(N:Nat)(l:List Oper)(C:World→Prop)(pur:Nat→Bool)(K:List Deferred→Env→World→Prop)(D:List Deferred):j2a→Env→World→Prop
 | .nil,e,w=>C w∧K D e w
 | .op i t,e,w=>C w∧∃o,l[i]?=some o∧J1b N o ∧
  ((pur i=true∧∃d v,o.dst=some d∧PV P l C o e v∧WT P r N l C pur K D t (upd e d v) w) ∨
   (pur i=false∧WL P r N l.toArray [o] (fun D' e' w'=>D'=D∧WT P r N l C pur K D t e' w') D e w))
 | .two a b,e,w=>WT P r N l C pur K D a e w∧WT P r N l C pur K D b e w
theorem WT.inC:∀{t:j2a} {e:Env} {w:World},WT P r N l C pur K D t e w→C w
 | .nil,_,_,h=>h.1
 | .op _ _,_,_,h=>h.1
 | .two _ _,_,_,h=>WT.inC h.1
def j2a.del(i:Nat):j2a→j2a
 | .nil=>.nil
 | .op j t=>if j=i then t else .op j (t.del i)
 | .two a b=>.two (a.del i) (b.del i)
def frA(l:List Oper)(pur:Nat→Bool)(i:Nat):j2a→Bool
 | .nil=>false
 | .op j t=>j==i||(i4a l pur j i&&frA l pur i t)
 | .two a b=>frA l pur i a&&frA l pur i b
def frO(l:List Oper)(pur:Nat→Bool)(i:Nat):j2a→Bool
 | .nil=>false
 | .op j t=>j==i||(pur j&&i4a l pur j i&&frO l pur i t)
 | .two a b=>frO l pur i a||frO l pur i b
def j2a.sel(l:List Oper)(pur:Nat→Bool)(i:Nat):j2a→j2a
 | .nil=>.nil
 | .op j t=>if j=i then t else .op j (t.sel l pur i)
 | .two a b=>bif frO l pur i a then a.sel l pur i else b.sel l pur i
theorem WT.quiet(a0:q3a l=true){i:Nat}(c0:pur i=true):∀(t:j2a) (e:Env) (w:World),frA l pur i t=true→(∀i,N≤i→e i=undef)→WT P r N l C pur K D t e w →
 ∃o d v,l[i]?=some o∧J1b N o∧o.dst=some d∧PV P l C o e v∧WT P r N l C pur K D (t.del i) (upd e d v) w
 | .nil,_,_,hf,_,_=>by simp[frA] at hf
 | .two a b,e,w,hf,hz,h=>by
   simp only[frA,Bool.and_eq_true] at hf;obtain⟨o,d,v,h1,h2,h3,h4,h5⟩:=WT.quiet a0 c0 a e w hf.1 hz h.1;obtain⟨o',d',v',g1,_,g3,g4,g5⟩:=WT.quiet a0 c0 b e w hf.2 hz h.2;obtain rfl:o'=o:=Option.some.inj (g1.symm.trans h1);obtain rfl:d'=d:=Option.some.inj (g3.symm.trans h3);obtain rfl:v'=v:=PV.uniq h.1.inC g4 h4;exact⟨o',d',v',h1,h2,h3,h4,h5,g5⟩
 | .op j t,e,w,hf,hz,h=>by
   obtain⟨hC,p,hp,b0,h⟩:=h;by_cases f0:j=i
   ·subst f0;rcases h with⟨_,d,v,hd,hv,h⟩|⟨i0,_⟩
    ·exact⟨p,d,v,hp,b0,hd,hv,by simpa[j2a.del] using h⟩
    ·rw[c0] at i0;cases i0
   ·have hq:i4a l pur j i=true∧frA l pur i t=true:=by simpa[frA,f0] using hf
    have e0:(j2a.op j t).del i=.op j (t.del i):=by simp[j2a.del,f0]
    rw[e0];rcases h with⟨g0,c,u,hc,hu,h⟩|⟨g0,h⟩
    ·obtain⟨o,d,v,ho,hN,hd,hv,h2⟩:=WT.quiet a0 c0 t (upd e c u) w hq.2 (A1a (b0 c hc) hz) h;have hI:=b5a hq.1 hp ho;refine⟨o,d,v,ho,hN,hd,hv.congr (z0a a0 ho).1 (fun s hs=>o1a (hI.q c hc) hs),hC,p,hp,b0,.inl ⟨g0,c,u,hc,hu.congr (z0a a0 hp).1 (fun s hs=>(o1a (hI.p d hd) hs).symm),?_⟩⟩;rw[←r2a _ _ _ (hI.dst c d hc hd)];exact h2
    ·have h0:=q2a (e:=e) (e1:=e) b0 (z0a a0 hp).1 (z0a a0 hp).2 hz (fun _ _=>rfl) h;obtain⟨_,u1,w1,_,p0,_,h1⟩:=W7b b0 hz h0;rw[←p0] at h1;obtain⟨o,d,v0,ho,hN,hd,q0,h2⟩:=WT.quiet a0 c0 t (E9a e p.dst u1) w1 hq.2 (T5a b0 hz) h1;have hI:=b5a hq.1 hp ho;have d0:PV P l C o e v0:=q0.congr (z0a a0 ho).1 (fun s hs=>L4a hI.q hs);refine⟨o,d,v0,ho,hN,hd,d0,hC,p,hp,b0,.inr ⟨g0,?_⟩⟩;have h3:=q2a (e:=upd e d v0) (e1:=e) b0 (z0a a0 hp).1 (z0a a0 hp).2 hz (fun s hs=>o1a (hI.p d hd) hs) h;unfold WL at *;refine fun a Q hs hD he hK=>h3 a Q hs hD he (fun a' w' o0 hh=>hK a' w' o0 ?_);obtain⟨u,hu,j0,h4⟩:=hh;refine⟨j0,?_⟩;obtain⟨o',d',v,n0,_,m0,hv,h5⟩:=WT.quiet a0 c0 t (E9a e p.dst u) w' hq.2 (T5a b0 hz) h4;obtain rfl:o'=o:=Option.some.inj (n0.symm.trans ho);obtain rfl:d'=d:=Option.some.inj (m0.symm.trans hd);have hv':PV P l C o' e v:=hv.congr (z0a a0 ho).1 (fun s hs=>L4a hI.q hs);obtain rfl:v=v0:=PV.uniq hC hv' d0;have e1:upd (E9a e p.dst u) d' v=E9a (upd e d' v) p.dst u:=by
      have:=B8a e (p:=p) (q:=o') u v hI.dst;rw[hd] at this;exact this
     rw[hu,←e1];exact h5
theorem WT.loud(a0:q3a l=true){i:Nat}(d0:pur i=false):∀(t:j2a) (e:Env) (w:World),frO l pur i t=true→(∀i,N≤i→e i=undef)→WT P r N l C pur K D t e w →
 ∃o,l[i]?=some o∧J1b N o∧WL P r N l.toArray [o] (fun D' e' w'=>D'=D∧∃v,e'=E9a e o.dst v∧WT P r N l C pur K D (t.sel l pur i) e' w') D e w
 | .nil,_,_,hf,_,_=>by simp[frO] at hf
 | .two a b,e,w,hf,hz,h=>by
   simp only[frO,Bool.or_eq_true] at hf;cases ha:frO l pur i a with
   | true =>
     have:=WT.loud a0 d0 a e w ha hz h.1;simpa[j2a.sel,ha] using this
   | false =>
     have:=WT.loud a0 d0 b e w (hf.resolve_left (by rw[ha];simp)) hz h.2;simpa[j2a.sel,ha] using this
 | .op j t,e,w,hf,hz,h=>by
   obtain⟨_,p,hp,c0,h⟩:=h;by_cases f0:j=i
   ·subst f0;rcases h with⟨i0,_⟩|⟨_,h⟩
    ·rw[d0] at i0;cases i0
    ·refine⟨p,hp,c0,?_⟩;have b0:(j2a.op j t).sel l pur j=t:=by simp[j2a.sel]
     rw[b0];have h2:=q2a (e:=e) (e1:=e) c0 (z0a a0 hp).1 (z0a a0 hp).2 hz (fun _ _=>rfl) h;unfold WL at *;exact fun a Q hs hD he hK=>h2 a Q hs hD he (fun a' w' g0 ⟨v,h1,h3,h4⟩=>hK a' w' g0 ⟨h3,v,h1,by rw[h1];exact h4⟩)
   ·have hq:(pur j=true∧i4a l pur j i=true)∧frO l pur i t=true:=by simpa[frO,f0] using hf
    have b0:(j2a.op j t).sel l pur i=.op j (t.sel l pur i):=by simp[j2a.sel,f0]
    rw[b0];rcases h with⟨e0,c,u,hc,hu,h⟩|⟨e0,_⟩
    ·obtain⟨o,ho,hN,h2⟩:=WT.loud a0 d0 t (upd e c u) w hq.2 (A1a (c0 c hc) hz) h;have hI:=b5a hq.1.2 hp ho;refine⟨o,ho,hN,?_⟩;have h3:=q2a (e:=e) (e1:=upd e c u) hN (z0a a0 ho).1 (z0a a0 ho).2 (A1a (c0 c hc) hz) (fun s hs=>(o1a (hI.q c hc) hs).symm) h2;unfold WL at *;refine fun a Q hs hD he hK=>h3 a Q hs hD he (fun a' w' g0 hh=>hK a' w' g0 ?_);obtain⟨v,h1,h4,_,_,h6⟩:=hh;refine⟨h4,v,h1,?_⟩;rw[h1];refine⟨h6.inC,p,hp,c0,.inl ⟨e0,c,u,hc,hu.congr (z0a a0 hp).1 (fun s hs=>(L4a hI.p hs).symm),?_⟩⟩;have e1:E9a (upd e c u) o.dst v=upd (E9a e o.dst v) c u:=by
      have:=B8a e (p:=p) (q:=o) u v hI.dst;rw[hc] at this;exact this
     rw[←e1];exact h6
    ·rw[hq.1.1] at e0;cases e0
def j2a.paths:j2a→List (List Nat)
 | .nil=>[[]]
 | .op i t=>t.paths.map (i::·)
 | .two a b=>a.paths++b.paths
theorem j2a.paths_ne:∀t:j2a,∃π,π∈t.paths
 | .nil=>⟨[],by simp[j2a.paths]⟩
 | .op i t=>by obtain⟨π,h⟩:=t.paths_ne;exact⟨i::π,List.mem_map.2 ⟨π,h,Z⟩⟩
 | .two a b=>by obtain⟨π,h⟩:=a.paths_ne;exact⟨π,List.mem_append_left _ h⟩
theorem j2a.paths_del{i:Nat}:∀(t:j2a) (ρ:List Nat),ρ∈(t.del i).paths→∃π∈t.paths,ρ=π.erase i
 | .nil,ρ,h=>⟨[],by simp[j2a.paths],by simpa[j2a.del,j2a.paths] using h⟩
 | .two a b,ρ,h=>by
   rcases List.mem_append.1 h with h|h
   ·obtain⟨π,h1,h2⟩:=a.paths_del ρ h;exact⟨π,List.mem_append_left _ h1,h2⟩
   ·obtain⟨π,h1,h2⟩:=b.paths_del ρ h;exact⟨π,List.mem_append_right _ h1,h2⟩
 | .op j t,ρ,h=>by
   by_cases hj:j=i
   ·subst hj;simp only[j2a.del,if_pos] at h;exact⟨j::ρ,List.mem_map.2 ⟨ρ,h,Z⟩,by simp⟩
   ·simp only[j2a.del,if_neg hj,j2a.paths] at h;obtain⟨ρ',h2,rfl⟩:=List.mem_map.1 h;obtain⟨π,h1,rfl⟩:=t.paths_del ρ' h2;exact⟨j::π,List.mem_map.2 ⟨π,h1,Z⟩,by rw[List.erase_cons_tail (by simpa using hj)]⟩
theorem j2a.paths_sel{i:Nat}:∀(t:j2a) (ρ:List Nat),ρ∈(t.sel l pur i).paths→∃π∈t.paths,ρ=π.erase i
 | .nil,ρ,h=>⟨[],by simp[j2a.paths],by simpa[j2a.sel,j2a.paths] using h⟩
 | .two a b,ρ,h=>by
   cases ha:frO l pur i a with
   | true =>
     simp only[j2a.sel,ha,cond_true] at h;obtain⟨π,h1,h2⟩:=a.paths_sel ρ h;exact⟨π,List.mem_append_left _ h1,h2⟩
   | false =>
     simp only[j2a.sel,ha,cond_false] at h;obtain⟨π,h1,h2⟩:=b.paths_sel ρ h;exact⟨π,List.mem_append_right _ h1,h2⟩
 | .op j t,ρ,h=>by
   by_cases hj:j=i
   ·subst hj;simp only[j2a.sel,if_pos] at h;exact⟨j::ρ,List.mem_map.2 ⟨ρ,h,Z⟩,by simp⟩
   ·simp only[j2a.sel,if_neg hj,j2a.paths] at h;obtain⟨ρ',h2,rfl⟩:=List.mem_map.1 h;obtain⟨π,h1,rfl⟩:=t.paths_sel ρ' h2;exact⟨j::π,List.mem_map.2 ⟨π,h1,Z⟩,by rw[List.erase_cons_tail (by simpa using hj)]⟩
def X3d(l:List Oper)(pur:Nat→Bool)(j i:Nat):Bool:=(f4a l i).contains j||i4a l pur j i||(!pur j&&!pur i)
def pwT(l:List Oper)(pur:Nat→Bool):List Nat→Bool
 | []=>true
 | j::π=>π.all (X3d l pur j)&&pwT l pur π
theorem E6c:∀{π:List Nat},pwT l pur π=true→π.Pairwise fun j i=>X3d l pur j i=true
 | [],_=>.nil
 | j::π,h=>by
   simp only[pwT,Bool.and_eq_true,List.all_eq_true] at h;exact .cons h.1 (E6c h.2)
def j2a.nxts(pur:Nat→Bool):j2a→List Nat
 | .nil=>[]
 | .op j t=>bif pur j then t.nxts pur else[j]
 | .two a b=>a.nxts pur++b.nxts pur
def d6b(l:List Oper)(pur:Nat→Bool)(acc:List Nat)(t:j2a):Bool:=(List.range l.length).all fun i=>pur i||acc.contains i||(t.nxts pur).contains i||(f4a l i).any fun j=>!pur j&&!acc.contains j
def m4b(l:List Oper)(pur:Nat→Bool):List Nat→j2a→Bool
 | _,.nil=>true
 | acc,.op j t=>bif pur j then m4b l pur acc t else d6b l pur (j::acc) t&&m4b l pur (j::acc) t
 | acc,.two a b=>m4b l pur acc a&&m4b l pur acc b
def C7c(l:List Oper)(pur:Nat→Bool)(t:j2a):Bool :=
 q3a l&&((List.range l.length).all fun i=>(d1a l i).all fun j=>decide (j<i))&&(t.paths.all fun π=>Q7c l.length π&&pwT l pur π)&&d6b l pur [] t&&m4b l pur [] t
theorem A6a{i:Nat}(hi:pur i=true):∀t:j2a,(t.del i).nxts pur=t.nxts pur
 | .nil=>rfl
 | .two a b=>by simp[j2a.del,j2a.nxts,A6a hi a,A6a hi b]
 | .op j t=>by
   by_cases hj:j=i
   ·subst hj;simp[j2a.del,j2a.nxts,hi]
   ·simp only[j2a.del,if_neg hj,j2a.nxts];rw[A6a hi t]
theorem j8a{i:Nat}(hi:pur i=true):∀(t:j2a) (acc:List Nat),m4b l pur acc t=true→m4b l pur acc (t.del i)=true
 | .nil,_,h=>h
 | .two a b,acc,h=>by
   simp only[j2a.del,m4b,Bool.and_eq_true] at h ⊢;exact⟨j8a hi a acc h.1,j8a hi b acc h.2⟩
 | .op j t,acc,h=>by
   by_cases hj:j=i
   ·subst hj;simpa[j2a.del,m4b,hi] using h
   ·simp only[j2a.del,if_neg hj,m4b] at h ⊢;cases hp:pur j with
    | true=>rw[hp] at h;exact j8a hi t acc h
    | false =>
      rw[hp] at h;simp only[cond_false,Bool.and_eq_true] at h ⊢;exact⟨by have:=h.1;unfold d6b at this ⊢;rw[A6a hi t];exact this,j8a hi t _ h.2⟩
theorem b0b{i:Nat}(hi:pur i=false):∀(t:j2a) (acc:List Nat),frO l pur i t=true→m4b l pur acc t=true→d6b l pur (i::acc) (t.sel l pur i)=true∧m4b l pur (i::acc) (t.sel l pur i)=true
 | .nil,_,hf,_=>by simp[frO] at hf
 | .two a b,acc,hf,h=>by
   simp only[frO,Bool.or_eq_true] at hf;simp only[m4b,Bool.and_eq_true] at h;cases ha:frO l pur i a with
   | true=>simp only[j2a.sel,ha,cond_true];exact b0b hi a acc ha h.1
   | false=>simp only[j2a.sel,ha,cond_false];exact b0b hi b acc (hf.resolve_left (by rw[ha];simp)) h.2
 | .op j t,acc,hf,h=>by
   by_cases hj:j=i
   ·subst hj;simp only[j2a.sel,if_pos,m4b,hi,cond_false,Bool.and_eq_true] at h ⊢;exact h
   ·have hq:(pur j=true∧i4a l pur j i=true)∧frO l pur i t=true:=by simpa[frO,hj] using hf
    simp only[m4b,hq.1.1,cond_true] at h;have:=b0b hi t acc hq.2 h;simp only[j2a.sel,if_neg hj,m4b,hq.1.1,cond_true];refine⟨?_,this.2⟩;have h1:=this.1;unfold d6b at h1 ⊢;simpa[j2a.nxts,hq.1.1] using h1
theorem E3b{i:Nat}:∀t:j2a,(∀π∈t.paths,i∈π∧∀A B,π=A++i::B→i∉A→∀j∈A,i4a l pur j i=true)→frA l pur i t=true
 | .nil,h=>by have:=(h [] (by simp[j2a.paths])).1;cases this
 | .two a b,h=>by
   simp only[frA,Bool.and_eq_true];exact⟨E3b a fun π hπ=>h π (List.mem_append_left _ hπ),E3b b fun π hπ=>h π (List.mem_append_right _ hπ)⟩
 | .op j t,h=>by
   by_cases hj:j=i
   ·simp[frA,hj]
   ·have a0:∀π∈t.paths,i∈π:=fun π hπ=>by
     have:=(h (j::π) (List.mem_map.2 ⟨π,hπ,Z⟩)).1;rcases List.mem_cons.1 this with h|h
     ·exact absurd h.symm hj
     ·exact h
    have hq:i4a l pur j i=true:=by
     obtain⟨π,hπ⟩:=t.paths_ne;obtain⟨A,B,he,hA⟩:=List.eq_append_cons_of_mem (a0 π hπ);exact(h (j::π) (List.mem_map.2 ⟨π,hπ,Z⟩)).2 (j::A) B (by rw[he];rfl) (by simp[hA];exact fun e=>hj e.symm) j (by simp)
    simp only[frA,Bool.or_eq_true,Bool.and_eq_true];refine .inr ⟨hq,E3b t fun π hπ=>⟨a0 π hπ,fun A B he hA k hk=>?_⟩⟩;exact(h (j::π) (List.mem_map.2 ⟨π,hπ,Z⟩)).2 (j::A) B (by rw[he];rfl) (by simp[hA];exact fun e=>hj e.symm) k (by simp[hk])
theorem x3b{i:Nat}(hi:pur i=false):∀t:j2a,i∈t.nxts pur→(∀π∈t.paths,∀A B,π=A++i::B→∀j∈A,pur j=true→i4a l pur j i=true)→frO l pur i t=true∧∃π∈t.paths,i∈π
 | .nil,hn,_=>by simp[j2a.nxts] at hn
 | .two a b,hn,h=>by
   rcases List.mem_append.1 hn with hn|hn
   ·obtain⟨h1,π,h2,h3⟩:=x3b hi a hn fun π hπ=>h π (List.mem_append_left _ hπ);exact⟨by simp[frO,h1],π,List.mem_append_left _ h2,h3⟩
   ·obtain⟨h1,π,h2,h3⟩:=x3b hi b hn fun π hπ=>h π (List.mem_append_right _ hπ);exact⟨by simp[frO,h1],π,List.mem_append_right _ h2,h3⟩
 | .op j t,hn,h=>by
   cases hp:pur j with
   | false =>
     have:i=j:=by simpa[j2a.nxts,hp] using hn
     subst this;obtain⟨π,hπ⟩:=t.paths_ne;exact⟨by simp[frO],i::π,List.mem_map.2 ⟨π,hπ,Z⟩,by simp⟩
   | true =>
     obtain⟨h1,π,h2,h3⟩:=x3b hi t (by simpa[j2a.nxts,hp] using hn) fun π hπ A B he k hk a0=>h (j::π) (List.mem_map.2 ⟨π,hπ,Z⟩) (j::A) B (by rw[he];rfl) k (by simp[hk]) a0;obtain⟨A,B,he⟩:=List.append_of_mem h3;have hq:=h (j::π) (List.mem_map.2 ⟨π,h2,Z⟩) (j::A) B (by rw[he];rfl) j (by simp) hp;exact⟨by simp[frO,hp,hq,h1],j::π,List.mem_map.2 ⟨π,h2,Z⟩,by simp[h3]⟩
theorem WT.done:∀{t:j2a} {e:Env} {w:World},(∀π∈t.paths,π=[])→WT P r N l C pur K D t e w→K D e w
 | .nil,_,_,_,h=>h.2
 | .op i t,_,_,hp,_=>by
   obtain⟨π,hπ⟩:=t.paths_ne;have:=hp (i::π) (List.mem_map.2 ⟨π,hπ,Z⟩);cases this
 | .two a b,_,_,hp,h=>WT.done (fun π hπ=>hp π (List.mem_append_left _ hπ)) h.1
structure J6c (l:List Oper) (pur:Nat→Bool) (t:j2a) (f:Nat→Bool) (acc:List Nat):Prop where
 nd:∀π∈t.paths,π.Nodup
 full:∀π∈t.paths,∀i,i∈π↔(i<l.length∧f i=false)
 ord:∀π∈t.paths,π.Pairwise fun j i=>X3d l pur j i=true
 here_:d6b l pur acc t=true
 sub:m4b l pur acc t=true
 got:∀i,i∈acc→f i=true
 out:∀i,pur i=false→f i=true→i∈acc
theorem J6c.ahead{t:j2a}{f:Nat→Bool}{acc:List Nat}(h:J6c l pur t f acc)(a0:∀i,f i=true→∀j∈d1a l i,f j=true){i:Nat}(b0:∀j∈d1a l i,f j=true){π:List Nat}(hπ:π∈t.paths){A B:List Nat}(he:π=A++i::B){j:Nat}(hj:j∈A)(hq:pur j=true∨pur i=true):i4a l pur j i=true:=by
 have h1:=h.ord π hπ;rw[he,List.pairwise_append] at h1;have h2:=h1.2.2 j hj i (by simp);have h3:=(h.full π hπ j).1 (by rw[he];simp[hj]);unfold X3d at h2;simp only[Bool.or_eq_true,List.contains_eq_mem,decide_eq_true_eq,Bool.and_eq_true,Bool.not_eq_true'] at h2;rcases h2 with(h2|h2)|h2
 ·have:=s3a a0 _ _ b0 j h2;rw[h3.2] at this;cases this
 ·exact h2
 ·rcases hq with hq|hq
  ·rw[hq] at h2;cases h2.1
  ·rw[hq] at h2;cases h2.2
theorem J6c.erase{t t':j2a}{f:Nat→Bool}{acc a0:List Nat}{i:Nat}(h:J6c l pur t f acc)(hp:∀ρ∈t'.paths,∃π∈t.paths,ρ=π.erase i)(h1:d6b l pur a0 t'=true)(h2:m4b l pur a0 t'=true)(h3:∀j,j∈a0→j∈acc∨j=i)(h4:∀j,j∈acc∨(j=i∧pur i=false)→j∈a0):J6c l pur t' (fun j=>f j||j==i) a0 where
 nd ρ hρ:=by obtain⟨π,hπ,rfl⟩:=hp ρ hρ;exact(h.nd π hπ).erase i
 full ρ hρ j:=by
  obtain⟨π,hπ,rfl⟩:=hp ρ hρ;rw[(h.nd π hπ).mem_erase_iff,h.full π hπ j];simp only[Bool.or_eq_false_iff,beq_eq_false_iff_ne];exact⟨fun z=>⟨z.2.1,z.2.2,z.1⟩,fun z=>⟨z.2.2,z.1,z.2.1⟩⟩
 ord ρ hρ:=by obtain⟨π,hπ,rfl⟩:=hp ρ hρ;exact(h.ord π hπ).sublist List.erase_sublist
 here_:=h1
 sub:=h2
 got j hj:=by
  rcases h3 j hj with z|rfl
  ·simp[h.got j z]
  ·simp
 out j hj hf:=by
  simp only[Bool.or_eq_true,beq_iff_eq] at hf;rcases hf with z|rfl
  ·exact h4 j (.inl (h.out j hj z))
  ·exact h4 j (.inr ⟨Z,hj⟩)
theorem v3c{id:Nat}{n t:List Deferred→Env→World→Prop}{b:Nat→List Deferred→Env→World→Prop}{e:Env}{w:World}(hm:P.follows .mixedOrders=true)(pur:Nat→Bool)(T:j2a)(C:World→Prop)
 (hW:WT P r N l C pur n D T e w.drew) (m0:C7c l pur T=true:=by kernel_rfl):W P r N (.region id l.toArray true) ⟨n,b,t⟩ D e w:=by
 unfold C7c at m0;simp only[Bool.and_eq_true] at m0;obtain⟨⟨⟨⟨n0,u0⟩,y0⟩,v0⟩,B0⟩:=m0;have a0:=fun π (hπ:π∈T.paths)=>List.all_eq_true.1 y0 π hπ;have hz:(∀i,N≤i→e i=undef)→W P r N (.region id l.toArray true) ⟨n,b,t⟩ D e w:=by
  intro hz;refine V4c hm u0 (fun f e w=>(∀i,N≤i→e i=undef)∧(∀i,f i=true→∀j∈d1a l i,f j=true)∧∃t acc,J6c l pur t f acc∧WT P r N l C pur n D t e w) ⟨hz,by simp,T,[],⟨fun π hπ=>?_,fun π hπ i=>?_,fun π hπ=>?_,v0,B0,by simp,by simp⟩,hW⟩ ?_ ?_
  ·have:=a0 π hπ;unfold Q7c at this;simp only[Bool.and_eq_true] at this;exact Z4b this.1.1.1
  ·have:=a0 π hπ;unfold Q7c at this;simp only[Bool.and_eq_true] at this;refine⟨fun h=>⟨by simpa using List.all_eq_true.1 this.1.2 i h,Z⟩,fun h=>by simpa using List.all_eq_true.1 this.1.1.2 i (List.mem_range.2 h.1)⟩
  ·have:=a0 π hπ;simp only[Bool.and_eq_true] at this;exact E6c this.2
  ·rintro f e w i o ⟨hz,e0,t,acc,hA,hT⟩ ho q0 g0;have r0:i<l.length:=(List.getElem?_eq_some_iff.1 ho).1;have c0:∀k,(f k||k==i)=true→∀j∈d1a l k,(f j||j==i)=true:=by
    intro k hk j hj;simp only[Bool.or_eq_true,beq_iff_eq] at hk ⊢;rcases hk with hk|rfl
    ·exact .inl (e0 k hk j hj)
    ·exact .inl (g0 j hj)
   cases b0:pur i with
   | true =>
     have f0:frA l pur i t=true:=E3b t fun π hπ=>⟨(hA.full π hπ i).2 ⟨r0,q0⟩,fun A B he _ j hj=>hA.ahead e0 g0 hπ he hj (.inr b0)⟩
     obtain⟨o',d,v,j0,hN,hd,hv,h5⟩:=WT.quiet n0 b0 t e w f0 hz hT;obtain rfl:o'=o:=Option.some.inj (j0.symm.trans ho);have d0:J6c l pur (t.del i) (fun j=>f j||j==i) acc:=hA.erase (j2a.paths_del t) (by have:=hA.here_;unfold d6b at this ⊢;rw[A6a b0 t];exact this) (j8a b0 t acc hA.sub) (fun j hj=>.inl hj) (fun j hj=>hj.elim (fun z=>z) (fun z=>by rw[b0] at z;cases z.2));have s0:=hT.inC;rcases hv with⟨p0,hv⟩|⟨p0,rfl⟩
     ·unfold WL;intro a Q hs hD he hK;simp only[wpListIn];have o0:Region.wanted o' (yielded l.toArray a.tmps)=true:=by rw[p1a,he];exact p0
      simp only[o0,if_true];refine⟨I0a _ _ _,?_⟩;rw[Oper.semAt_eq _ _ _ (z0a n0 ho).2,v2a,he,hv w s0,Oper.uponIn_value];refine hK _ _ (by rw[m8a,hs]) ⟨by rw[z3a,hD],?_⟩;rw[hd,b1a v (by rw[hs];exact hN d hd),he];exact⟨A1a (hN d hd) hz,c0,_,_,d0,h5⟩
     ·unfold WL;intro a Q hs hD he hK;simp only[wpListIn];have o0:Region.wanted o' (yielded l.toArray a.tmps)=false:=by rw[p1a,he];exact p0
      simp only[o0];refine⟨I0a _ _ _,?_⟩;refine hK _ _ (by rw[m8a,hs]) ⟨by rw[z3a,hD],?_⟩;rw[hd,b1a undef (by rw[hs];exact hN d hd),he];exact⟨A1a (hN d hd) hz,c0,_,_,d0,h5⟩
   | false =>
     have x0:i∈t.nxts pur:=by
      have h1:=List.all_eq_true.1 hA.here_ i (List.mem_range.2 r0);simp only[Bool.or_eq_true,b0,Bool.false_eq_true,false_or,List.contains_eq_mem,decide_eq_true_eq,List.any_eq_true,Bool.and_eq_true,Bool.not_eq_true',decide_eq_false_iff_not] at h1;rcases h1 with(h1|h1)|⟨j,h1,h2,h3⟩
      ·have:=hA.got i h1;rw[q0] at this;cases this
      ·exact h1
      ·exact absurd (hA.out j h2 (s3a e0 _ _ g0 j h1)) h3
     obtain⟨f0,-⟩:=x3b (l:=l) b0 t x0 fun π hπ A B he j hj z0=>hA.ahead e0 g0 hπ he hj (.inl z0);obtain⟨o',j0,hN,h5⟩:=WT.loud n0 b0 t e w f0 hz hT;obtain rfl:o'=o:=Option.some.inj (j0.symm.trans ho);have h6:=b0b b0 t acc f0 hA.sub;have d0:J6c l pur (t.sel l pur i) (fun j=>f j||j==i) (i::acc):=hA.erase (j2a.paths_sel t) h6.1 h6.2 (fun j hj=>by rcases List.mem_cons.1 hj with h|h;exact .inr h;exact .inl h) (fun j hj=>by rcases hj with h|h;simp[h];simp[h.1]);unfold WL at *;refine fun a Q hs hD he hK=>h5 a Q hs hD he (fun a' w' A0 hh=>hK a' w' A0 ?_);obtain⟨t0,v,hv,h7⟩:=hh;exact⟨t0,by rw[hv];exact T5a hN hz,c0,_,_,d0,h7⟩
  ·rintro f e w ⟨_,_,t,acc,hA,hT⟩ i0;refine WT.done (fun π hπ=>?_) hT;rw[List.eq_nil_iff_forall_not_mem];intro i hi;have:=(hA.full π hπ i).1 hi;rw[i0 i this.1] at this;cases this.2
 unfold W at *;intro a hs hd he;refine hz (fun i hi=>?_) a hs hd he;rw[←he];simp only[P0a,Array.getD_eq_getD_getElem?];rw[Array.getElem?_eq_none (by omega)];rfl
theorem H2b(hC:C w)(h:K D e w):WT P r N l C pur K D .nil e w:=⟨hC,h⟩
theorem q3c{a b:j2a}(h1:WT P r N l C pur K D a e w)(h2:WT P r N l C pur K D b e w):WT P r N l C pur K D (.two a b) e w:=⟨h1,h2⟩
theorem g2a{i:Nat}{t:j2a}{o:Oper}(hC:C w)(ho:l[i]?=some o)(hp:pur i=true)(hv:X4c o.op=true)(h:QL P N l.toArray C [o] (fun e'=>WT P r N l C pur K D t e' w) e):WT P r N l C pur K D (.op i t) e w:=by
 unfold QL at h;obtain⟨pa,hl,hq,hk⟩:=h;obtain⟨d,v,h1,h2,h3,h4⟩:=hq 0 o Z;obtain rfl:pa=[(d,v)]:=by
  match pa,hl,h1 with
  | [x],_,h1=>simpa using h1
 refine⟨hC,o,ho,fun d' a0=>by rw[h2] at a0;cases a0;exact h3,.inl ⟨hp,d,v,h2,?_,hk⟩⟩;rcases h4 with⟨h5,h6⟩|h5
 ·refine .inl ⟨h5,fun w hw=>?_⟩;rcases h6 w hw with h7|⟨f,args,h7,_⟩
  ·exact h7
  ·obtain⟨_,hv'⟩:=R7a hv h7;cases hv'
 ·exact .inr h5
theorem p6a{i:Nat}{t:j2a}{o:Oper}(hC:C w)(ho:l[i]?=some o)(hp:pur i=false)(hN:(o.dst.all fun d=>Nat.ble (d+1) N)=true)
 (h:WL P r N l.toArray [o] (fun D' e' w'=>D'=D∧WT P r N l C pur K D t e' w') D e w):WT P r N l C pur K D (.op i t) e w :=
 ⟨hC,o,ho,fun d hd=>by rw[hd] at hN;exact Nat.le_of_ble_eq_true (by simpa using hN),.inr ⟨hp,h⟩⟩
end
abbrev clE{M:List Nat}{w0 w:World}{L:List Ent}(_:St M w0 w L)(k:Nat)(K:List Nat):World→Prop:=fun w1=>St M w0 w1 (L.eraseIdx k)∧x0a K w w1
abbrev k5d{M:List Nat}{w0 w:World}{L:List Ent}(_:St M w0 w L)(k j:Nat)(K:List Nat):World→Prop:=fun w1=>St M w0 w1 ((L.eraseIdx k).eraseIdx j)∧x0a K w w1
theorem St.er{M:List Nat}{w0 w:World}{L:List Ent}(S:St M w0 w L)(k:Nat):St M w0 w (L.eraseIdx k):=S.sublist (List.eraseIdx_sublist L k)
section
variable {P:Program} {r:Option Nat} {N:Nat} {D:List Deferred} {e:Env} {w:World}
theorem e8c{l p N:Nat}{rc:Loop}{x:Value}{a0 body:Code}{R:Value→World→Prop}(hl:w.heap[l]?=some (.loop rc))(hr:rc.state=.ready)(hN:rc.tmps.size=N)(f0:P0a { tmps:=rc.tmps,defers:=[] }=e)(b0:rc.params=#[p])(d0:rc.assign=a0)(e0:rc.body=body)(hp:Nat.ble (p+1) N=true)
 (h:W P (some l) N a0 ⟨fun D e w1=>w1.heap[l]?=some (.loop rc) ∧
   W P (some l) N body ⟨fun _ _ w3=>K5a l none R w3,fun id _ _ w3=>K5a l (some (.exit id)) R w3,fun _ _ w3=>K5a l (some .ret) R w3⟩ D e (w1.putObj l (.loop { rc with state:=.busy })),
   fun _ _ _ _=>False,fun _ _ _=>False⟩ [] (upd e p x) w):Yld P l #[x] w R:=by
 subst f0 d0 e0;have i0:=Nat.le_of_ble_eq_true hp;refine⟨rc,hl,by simp[b0],?_⟩;have hz:(rc.params.zip #[x]).foldl (fun tmps (t,a)=>tmps.setIfInBounds t a) rc.tmps=rc.tmps.setIfInBounds p x:=by rw[b0];simp
 rw[hz];refine roundIn_of_wpIn (F:=Fence.wide) trivial ?_;unfold W at h;have he:P0a { tmps:=rc.tmps.setIfInBounds p x,defers:=[] }=upd (P0a { tmps:=rc.tmps,defers:=[] }) p x:=by
  have h1:=b1a (a:={ tmps:=rc.tmps,defers:=[] }) (d:=p) x (by simp;omega);simp only[Act.put] at h1;rw[←h1]
 refine wpIn_mono (h { tmps:=rc.tmps.setIfInBounds p x,defers:=[] } (by simp[hN]) Z he) fun ex a w1 hq=>?_;cases ex with
 | normal =>
   obtain⟨hs,g0,hb⟩:=hq;refine⟨_,run_beginRound g0 hr,wpIn_mono (hb a hs Z Z) fun ex a w3 hq=>?_⟩;cases ex with
   | normal=>obtain⟨_,c0,h3,hR⟩:=hq;exact⟨_,_,run_endRound none h3,_,Z,hR⟩
   | ret=>obtain⟨_,c0,h3,hR⟩:=hq;exact⟨_,_,run_endRound (some .ret) h3,_,Z,hR⟩
   | exit id=>obtain⟨_,c0,h3,hR⟩:=hq;exact⟨_,_,run_endRound (some (.exit id)) h3,_,Z,hR⟩
   | goto l=>exact hq.elim
   | panic c=>exact hq.elim
   | outgrown=>exact hq.elim
 | exit id=>exact hq.2
 | ret=>exact hq.2
 | goto l=>exact hq.elim
 | panic c=>exact hq.elim
 | outgrown=>exact hq.elim
end
theorem X3a.over{wb w w1 w2:World}{v:Value}{l:List Int}{g:Nat}(h:X3a wb w v l)(Kx:x0a [] w w1)(Ks:x0a [g] w1 w2)(hg:g<wb.heap.size∨w.heap.size≤g)(_hl:l.length≤1000):RdI [] w2 v l:=by
 rcases hg with hg|hg
 ·exact(((h [g] (by simp;exact hg)).keep Kx.of_nil).keep Ks).less (by simp)
 ·exact((((h [] (by simp)).more (by omega) (fun x hx=>by rw[List.mem_singleton.1 hx];exact .inr hg)).keep Kx.of_nil).keep Ks).less (by simp)
theorem j4b.over{wb w w1 w2:World}{v:Value}{l:List (Int×Int)}{g:Nat}(h:j4b wb w v l)(Kx:x0a [] w w1)(Ks:x0a [g] w1 w2)(hg:g<wb.heap.size∨w.heap.size≤g)(_hl:l.length≤10000):V7a [] w2 v l:=by
 rcases hg with hg|hg
 ·exact(((h [g] (by simp;exact hg)).keep Kx.of_nil).keep Ks).less (by simp)
 ·exact((((h [] (by simp)).more (by omega) (fun x hx=>by rw[List.mem_singleton.1 hx];exact .inr hg)).keep Kx.of_nil).keep Ks).less (by simp)
noncomputable def allC(p:m0a)(t:Nat)(l:List Int):List Int:=I4b (l++(onE p t).sup 3) ((onE p t).sup 2)
def C5b(p:m0a)(t:Nat)(l:List Int)(x y:Nat):Prop:=∃a b,ofR (onE p t) (allC p t l) (wdL p.cells (allC p t l)) (2 ^ (c2a (wdL p.cells (allC p t l))).toNat) a b∧x=nuZ l (wdL p.cells l) (stZ (allC p t l) (wdL p.cells (allC p t l)) a R1a)∧y=nuZ l (wdL p.cells l) (stZ (allC p t l) (wdL p.cells (allC p t l)) b R1a)
theorem c5c{p:m0a}{t:Nat}{l:List Int}{a0:Nat}(b0:c2a (wdL p.cells (allC p t l))=a0)(h6:a0≤6){m:List Nat}(hm:z5a m (ofR (onE p t) (allC p t l) (wdL p.cells (allC p t l)) (2 ^ a0)))(x y:Nat):
 ((x:Int),(y:Int))∈ddP ((G1b m 64).map (prj (allC p t l) (wdL p.cells (allC p t l)) l (wdL p.cells l)))↔C5b p t l x y:=by
 rw[U0b,List.mem_map];unfold C5b;rw[b0,Int.toNat_natCast];constructor
 ·rintro⟨q,hq,he⟩;obtain⟨a,b,-,-,h3,rfl⟩:=(hm.mem q).1 hq;unfold prj at he;simp only[Prod.mk.injEq,Int.toNat_natCast,Int.natCast_inj] at he;exact⟨a,b,h3,he.1.symm,he.2.symm⟩
 ·rintro⟨a,b,h3,rfl,rfl⟩;refine⟨((a:Int),(b:Int)),(hm.mem _).2 ⟨a,b,?_,?_,h3,Z⟩,?_⟩
  ·exact Nat.lt_of_lt_of_le h3.1 (Nat.pow_le_pow_right (n:=2) (j:=6) (by omega) h6)
  ·exact Nat.lt_of_lt_of_le h3.2.1 (Nat.pow_le_pow_right (n:=2) (j:=6) (by omega) h6)
  ·unfold prj;simp only[Int.toNat_natCast]
theorem D5b.congr{w0 w:World}{v:Value}{C W:List Int}{R R':Nat→Nat→Prop}{n:Nat}(h:D5b w0 w v C W R n)(hr:∀x y,R x y↔R' x y):D5b w0 w v C W R' n:=by
 obtain⟨a,b,c,l,h1,h2,h3,h4,h5,h6,h7⟩:=h.get;refine⟨a,b,c,l,h1,h2,h3,h4,h5,h6,fun p=>(h7 p).trans ?_⟩;constructor
 ·rintro⟨x,y,h,rfl⟩;exact⟨x,y,h.mono fun a b=>(hr a b).1,Z⟩
 ·rintro⟨x,y,h,rfl⟩;exact⟨x,y,h.mono fun a b=>(hr a b).2,Z⟩
theorem j1c(l:List Int):(O3a l).length=l.length:=by simp[O3a]
section
variable {P:Program} {r:Option Nat} {N:Nat} {ops:Array Oper} {rest:List Oper} {C:World→Prop} {KQ:Env→Prop} {K:List Deferred→Env→World→Prop} {D:List Deferred} {e:Env} {w:World} {d:Nat} {t:TypeId} {p:String} {af:Array Edge} {x y:Operand} {yt:TypeId}
theorem Eq2.neq{ty:TypeId}(hE:Eq2 P ty)(w:World)(a b:Int×Int):(binOp .neq ty (.agg (pc a).toArray) (.agg (pc b).toArray)).run P w=.ok (.bool (!decide (a=b))) w:=by
 have:=hE.2 w a.1 a.2 b.1 b.2;have hd:decide (a=b)=decide (a.1=b.1∧a.2=b.2):=decide_eq_decide.2 Prod.ext_iff;rw[hd];show(binOp .neq ty (.agg #[.int .i64 a.1,.int .i64 a.2]) (.agg #[.int .i64 b.1,.int .i64 b.2])).run P w=_;rw[run_eql_struct] at this;rw[run_neq_struct]
 revert this
 generalize (Op.equalIn 10000 ty _ _).run P w=a0;intro this;cases a0 with
 | ok z w'=>simp only[Result.andThen_ok] at this ⊢;cases this;rfl
 | halt z w'=>simp[Result.andThen] at this
theorem Eq2.guard{ty:TypeId}(hE:Eq2 P ty)(w:World)(op:BinOp)(x y:Operand)(a b:Int×Int):(eqGuard op ty x y (.agg (pc a).toArray) (.agg (pc b).toArray)).run P w=.ok () w:=run_eqGuard_agg w _ _ _ _ _ _ hE.1
theorem Eq2.eql{ty:TypeId}(hE:Eq2 P ty)(w:World)(a b:Int×Int):(binOp .eql ty (.agg (pc a).toArray) (.agg (pc b).toArray)).run P w=.ok (.bool (decide (a=b))) w:=by
 have hd:decide (a=b)=decide (a.1=b.1∧a.2=b.2):=decide_eq_decide.2 Prod.ext_iff;rw[hd];exact hE.2 w a.1 a.2 b.1 b.2
theorem s7c{ty:TypeId}{a b:Int×Int}(hE:Eq2 P ty)(hx:ev e x=.agg (pc a).toArray)(hy:ev e y=.agg (pc b).toArray)(hd:Nat.ble (d+1) N=true)
 (h1:a≠b→QL P N ops C rest KQ (upd e d (.bool true))) (h2:a=b→QL P N ops C rest KQ (upd e d (.bool false))):QL P N ops C (⟨some d,.binOp .neq ty x y yt,t,p,af,none⟩::rest) KQ e:=by
 by_cases hh:a=b
 ·exact D2a Z Z hd (fun w _=>by simp only[execOp,hx,hy,Sem.run_bind,hE.guard,Result.andThen_ok,hE.neq,Sem.run_pure,decide_eq_true hh];rfl) (h2 hh)
 ·exact D2a Z Z hd (fun w _=>by simp only[execOp,hx,hy,Sem.run_bind,hE.guard,Result.andThen_ok,hE.neq,Sem.run_pure,decide_eq_false hh];rfl) (h1 hh)
end
theorem Z5c(M:List Nat)(w0:World)(v:Value)(l:List Int)(a:Int)(hR:RdI M w0 v l):
 A0a prog 43 #[v,.int .i64 a] w0 fun v w'=>v=.bool (decide (a∈l))∧Bw w0 w':=by
 obtain⟨A,n,c,rfl⟩:=hR.form;obtain⟨_,-,_⟩:=hR.len;have S:=St.refl w0;refine a0a func43 Z ntmps43 Z ?_;refine wC1 Z (wL (fun μk D ε w=>D=[]∧∃k:Nat,(k+μk=(l.length))∧(a∉l.take k)∧St [] w0 w []∧Sl ε [(0,.slice A n c),(1,.int .i64 a),(5,.int .i64 k)]) (μ:=(l.length)) ⟨Z,0,by omega,by simp,S,Z⟩ ?_);rintro μk D ε w ⟨rfl,k,_,ha,S,eZ⟩;refine wK eZ (wB1 Z (fun h9=>?_) fun h9=>?_)
 ·obtain⟨x,f0,g0,_,e0,b0,_,_,c0,d0⟩:=RdS.get (hR) (k) (by omega);obtain⟨rfl,_⟩:=id d0;refine lB (S.k.a c0) [.x f0 g0,.f 0 0] Z ⟨Z,⟨b0,by omega⟩,U⟩ (fun a0=>?_) fun a0=>?_
  ·refine lR1 Z (w0a Z ?_);exact⟨by rw[decide_eq_true (a0▸c0a e0:a∈l)],S.fin⟩
  refine lP1 Z ⟨μk-1,by omega,Z,k+1,by omega,?_,S,Z⟩;rw[u0a e0];intro hh;rcases List.mem_append.1 hh with h|h
  ·exact ha h
  ·rw[List.mem_singleton.1 h] at a0;exact a0 Z
 refine lR1 Z (w0a Z ?_);exact⟨by rw[decide_eq_false (by rw[List.take_of_length_le (by omega)] at ha;exact ha)],S.fin⟩
theorem I2a(M:List Nat)(w0:World)(v u:Value)(a b:List (Int×Int))(hA:V7a M w0 v a)(hB:V7a M w0 u b):
 A0a prog 12 #[v,u] w0 fun v w'=>v=.bool (decide (a=b))∧Bw w0 w':=by
 obtain⟨A,n,c,rfl⟩:=hA.form;obtain⟨hn,-,_⟩:=hA.len;obtain⟨A',n',c',rfl⟩:=hB.form;obtain⟨_,-,_⟩:=hB.len;have S:=St.refl w0;refine a0a func12 Z ntmps12 Z ?_;refine wB1 Z (fun x0=>?_) fun x0=>?_
 ·refine lR1 Z (w0a Z ?_);exact⟨by rw[decide_eq_false (fun h=>by rw[h] at hn;omega)],S.fin⟩
 have C0:b.length=a.length:=by omega
 refine lC1 Z (wL (fun μk D ε w=>D=[]∧∃k:Nat,(k+μk=(a.length))∧(a.take k=b.take k)∧St [] w0 w []∧Sl ε [(0,.slice A n c),(1,.slice A' n' c'),(5,.int .i64 k)]) (μ:=(a.length)) ⟨Z,0,by omega,by simp,S,Z⟩ ?_);rintro μk D ε w ⟨rfl,k,_,he,S,eZ⟩;refine wK eZ (wB1 Z (fun y0=>?_) fun y0=>?_)
 ·refine lC1 Z (y0a b0a [0,1,2,3,4,5,6,7,8] [] [] Z (Cl _ _ _ _) (Cl.start S) ?_);obtain⟨x,q0,z0,s0,n0,c0,_,g0,e0,j0⟩:=RdS.get (hA) (k) (by omega);obtain⟨u0,_⟩:=j0;obtain rfl:s0=pc x:=u0;obtain⟨y,r0,A0,t0,o0,d0,_,i0,f0,m0⟩:=RdS.get (hB) (k) (by omega);obtain⟨v0,_⟩:=m0;obtain rfl:t0=pc y:=v0;refine qOn 8 ((S.q.a f0).a e0) [.x q0 z0,.v 0,.x r0 A0,.v 1] Z ⟨⟨Z,i0⟩,⟨d0,by omega⟩,⟨Z,g0⟩,⟨c0,by omega⟩,U⟩ (s7c (a:=x) (b:=y) d4b Z Z Z (fun b0=>?_) fun b0=>?_)
  ·refine lV Z ?_;rintro B0 ⟨a0,p0⟩;refine lR1 Z (w0a Z ?_);exact⟨by rw[decide_eq_false (fun h=>b0 (Option.some.inj (n0.symm.trans (by rw[h];exact o0))))],a0.fin⟩
  refine lV Z ?_;rintro B0 ⟨a0,p0⟩;refine lP1 Z ⟨μk-1,by omega,Z,k+1,by omega,?_,a0,Z⟩;rw[u0a n0,u0a o0,he,b0]
 refine lR1 Z (w0a Z ?_);exact⟨by rw[decide_eq_true (by rw[List.take_of_length_le (by omega),List.take_of_length_le (by omega)] at he;exact he)],S.fin⟩
theorem d9b(n wd:Int)(w0:World):A0a prog 93 #[.int .i64 n,.int .i64 wd] w0 fun v w'=>v=.agg #[.int .i64 3,.int .i64 wd,.int .i64 n,.slice none 0 0]∧Bw w0 w':=by
 have S:=St.refl w0;refine a0a func93 Z ntmps93 Z ?_;refine wO1 Z (g0a S X1a Z Z ?_);intro g4 w4 S4 X4 G4;refine lO1 Z (s0a s1a (vs:=[(0,.int .i64 _),(1,.int .i64 _),(2,.int .i64 _)]) (cs:=[_,_,_,_]) Z Z Z Z ?_)
 first|refine d0a (kk:=0) (vs:=[_,_,_,_]) S4 h1a Z Z Z Z Z Z Z ?_
 intro c0 a0 b0;dsimp only[e0a,List.set] at a0;exact lR1 Z (t0a Z D0a Z (a0.cells 0 Z) Z ⟨Z,a0.fin⟩)
theorem s5b(n wd:Int)(w0:World):A0a prog 94 #[.int .i64 n,.int .i64 wd] w0 fun v w'=>v=.agg #[.int .i64 2,.int .i64 wd,.int .i64 n,.slice none 0 0]∧Bw w0 w':=by
 have S:=St.refl w0;refine a0a func94 Z ntmps94 Z ?_;refine wO1 Z (g0a S X1a Z Z ?_);intro g4 w4 S4 X4 G4;refine lO1 Z (s0a s1a (vs:=[(0,.int .i64 _),(1,.int .i64 _),(2,.int .i64 _)]) (cs:=[_,_,_,_]) Z Z Z Z ?_)
 first|refine d0a (kk:=0) (vs:=[_,_,_,_]) S4 h1a Z Z Z Z Z Z Z ?_
 intro c0 a0 b0;dsimp only[e0a,List.set] at a0;exact lR1 Z (t0a Z D0a Z (a0.cells 0 Z) Z ⟨Z,a0.fin⟩)
theorem v9b(n wd:Int)(w0:World):A0a prog 39 #[.int .i64 n,.int .i64 wd] w0 fun v w'=>v=.agg #[.int .i64 1,.int .i64 wd,.int .i64 n,.slice none 0 0]∧Bw w0 w':=by
 have S:=St.refl w0;refine a0a func39 Z ntmps39 Z ?_;refine wO1 Z (g0a S X1a Z Z ?_);intro g4 w4 S4 X4 G4;refine lO1 Z (s0a s1a (vs:=[(0,.int .i64 _),(1,.int .i64 _),(2,.int .i64 _)]) (cs:=[_,_,_,_]) Z Z Z Z ?_)
 first|refine d0a (kk:=0) (vs:=[_,_,_,_]) S4 h1a Z Z Z Z Z Z Z ?_
 intro c0 a0 b0;dsimp only[e0a,List.set] at a0;exact lR1 Z (t0a Z D0a Z (a0.cells 0 Z) Z ⟨Z,a0.fin⟩)
theorem u8b(op wd:Int)(ho:i64 op)(hw:i64 wd)(a b:E)(ca cb:LV)(M:List Nat)(w0:World)(hM:∀g∈M,g<w0.heap.size)(ha:RdE M w0 a ca)(hb:RdE M w0 b cb):
 A0a prog 92 #[.int .i64 op,.int .i64 wd,.agg ca.toArray,.agg cb.toArray] w0 fun v w'=>(∃cs:LV,v=.agg cs.toArray∧RdE M w' ⟨op,wd,0,[a,b]⟩ cs)∧Bw w0 w':=by
 have S:=St.refl w0;obtain⟨_,_,_,rfl,-⟩:=ha.open_;obtain⟨_,_,_,rfl,-⟩:=hb.open_;refine a0a func92 Z ntmps92 Z ?_;refine wO1 Z (o0a S Z ?_);intro g6 w6 S6 X6 G6;refine o0a S6 Z ?_;intro g7 w7 S7 X7 G7;refine g0a S7 X1a Z Z ?_;intro g8 w8 S8 X8 G8;refine lO S8.k [.w 2,.w 1] Z ⟨⟨Z,by rfl⟩,⟨Z,by rfl⟩,U⟩ (k0a S8 T0a (vs:=[.agg _,.agg _]) (cs:=[_,_,_,_,_,_,_,_]) Z Z Z Z Z Z ?_);intro g0 i0 b0 f0 e0;refine s0a s1a (vs:=[(0,.int .i64 _),(1,.int .i64 _),(3,.slice _ _ _)]) (cs:=[_,_,_,_]) Z Z Z Z ?_;refine d0a (kk:=1) (vs:=[_,_,_,_]) b0 h1a Z Z Z Z Z Z Z ?_;intro d0 a0 c0;dsimp only[e0a,List.set] at a0;refine lR1 Z (t0a Z D0a Z (a0.cells 1 Z) Z ⟨⟨_,Z,X3b ho hw (fun hm=>?_) (a0.cells 0 Z) (RdE.keep (a0.keep0 M) _ _ ha) (RdE.keep (a0.keep0 M) _ _ hb)⟩,a0.fin⟩);have h1:=hM _ hm;have h2:=a0.new 0 Z;simp at h2;omega
theorem p7a(p:m0a)(k:Nat)(M:List Nat)(w0:World)(cs:LV)(hI:InP p M w0 cs)(hk:k<p.cells.length:=by omega):
 A0a prog 56 #[.agg cs.toArray,.int .i64 k] w0 fun v w'=>(∃cs:LV,v=.agg cs.toArray∧RdE M w' (g5a p k) cs)∧Bw w0 w':=by
 obtain⟨_,_,_,_,_,_,_,_,_,_,_,_,rfl,hC,_⟩:=hI.rd.open_;have hM:=hI.lt;have s0:=hI.ok.ncells;have S:=St.refl w0;refine a0a func56 Z ntmps56 Z ?_;refine wO1 Z (o0a S Z ?_);intro g2 w2 S2 X2 G2;refine g0a S2 X1a Z Z ?_;intro g4 w4 S4 X4 G4;refine lC1 Z (y0a b0a [0,1,2,3,4,5,6,7,8,9,10,11,12,13,14,15] [] [16,17] Z (Cl _ _ _ _) (Cl.start S4) ?_);obtain⟨y,b9,p9,_,i0,q0,_,_,r0,t0⟩:=RdS.get (hC) (k) (by omega);obtain⟨rfl,_⟩:=P2a.open_ t0;have u0:wAt p.cells k=y.w:=c5a (by rw[Int.toNat_natCast];exact i0);have A0:=(hI.ok.cells y (c0a i0)).w;refine qO (S4.q.a r0) [.o 1,.x b9 p9,.f 0 1] Z ⟨Z,⟨q0,by omega⟩,Z,U⟩ (k1a N6c Z Z (fun w1 S1 X1=>d9b k y.w _) ?_);obtain⟨_,p0,v0,_,g0,d0,_,_,e0,f0⟩:=RdS.get (hC) (k) (by omega);obtain rfl:=Option.some.inj (i0.symm.trans g0);obtain⟨rfl,_⟩:=P2a.open_ f0;refine qO (S4.q.a e0) [.o 1,.x p0 v0,.f 0 1] Z ⟨Z,⟨d0,by omega⟩,Z,U⟩ (k1a P6c Z Z (fun w1 S1 X1=>s5b k y.w _) ?_);refine lV Z ?_;rintro y0 ⟨c0,_⟩;have o0:∀g∈g4::M,g<y0.heap.size:=fun g hg=>by
  rcases List.mem_cons.1 hg with rfl|hg
  ·exact c0.lt 0 Z
  ·exact Nat.lt_of_lt_of_le (hM g hg) c0.size
 have ik:i64 (k:Int):=by unfold i64;omega
 have iw:i64 y.w:=by unfold i64;omega
 refine h0a c0 Y1c Z Z (u8b 11 1 iO iO ⟨3,y.w,k,[]⟩ ⟨2,y.w,k,[]⟩ [_,_,_,_] [_,_,_,_] (g4::M) _ o0 (m1a iO iw ik) (m1a iO iw ik)) ?_;rintro B0 x0 ⟨_,rfl,j0⟩ n0 z0;obtain⟨_,_,_,rfl,-⟩:=j0.open_;have KE:=x0a.refl (g4::M) x0;refine d0a (kk:=0) (vs:=[_,_,_,_]) n0 h1a Z Z Z Z Z Z Z ?_;intro m0 a0 b0;dsimp only[e0a,List.set] at a0;replace KE:=KE.fresh2 b0 (by first  | exact .inr (by simp));refine lR1 Z ?_;exact t0a Z D0a Z (a0.cells 0 Z) Z ⟨⟨_,Z,by unfold g5a;rw[u0];exact RdE.less (fun g hg=>List.mem_cons_of_mem _ hg) _ _ (RdE.keep KE _ _ j0)⟩,a0.fin⟩
def bV(bs:List Bool):LV:=bs.map Value.bool
theorem x2d(bs:List Bool)(i:Nat):(bV bs).set i (.bool true)=bV (bs.set i true):=by simp[bV,List.map_set]
theorem J2d(bs:List Bool):(bV bs).length=bs.length:=by simp[bV]
theorem T9c{w:World}{g t:Nat}{bs:List Bool}{M:List Nat}(hb:p0a w (g,t,bV bs))(hg:g∉M)(hl:bs.length≤1000):RdB M w (.slice (some ⟨g,0,none⟩) bs.length bs.length) bs:=by
 refine⟨_,_,_,Z,Z,Nat.le_refl _,by unfold maxLen;omega,by omega,fun _=>⟨g,0,Z,hg,fun i x hi=>⟨[.bool x],Z,fun j v hj=>?_,Z⟩⟩⟩;cases j with
 | succ j=>simp at hj
 | zero =>
   simp at hj;subst hj;exact hb.cell (by unfold bV;rw[List.getElem?_map,show 0+i*1+0=i by omega,hi];rfl)
def U5b(p:m0a)(t k j:Nat)(bs:List Bool):Prop:=bs.length=p.modules.length∧∀m:Nat,m<p.modules.length→(bs.getD m false=true↔O8a p t k j (m:Int))
theorem U5b.zero{p:m0a}{t:Nat}:U5b p t 0 0 (List.replicate p.modules.length false):=by
 refine⟨by simp,fun m hm=>?_⟩;rw[List.getD_eq_getElem?_getD,List.getElem?_replicate,if_pos hm];exact⟨fun h=>(by cases h),fun h=>absurd h O8a.zero⟩
theorem U5b.step{p:m0a}{t k j:Nat}{bs:List Bool}{th:D1a}{s:i2a}(h:U5b p t k j bs)(ht:p.threads[k]?=some th)(hs:th.steps[j]?=some s)(hm:0≤s.module_∧s.module_<p.modules.length):U5b p t k (j+1) (bs.set s.module_.toNat true):=by
 refine⟨by rw[List.length_set];exact h.1,fun m a0=>?_⟩;rw[O8a.step ht hs,←h.2 m a0];by_cases he:s.module_.toNat=m
 ·rw[List.getD_eq_getElem?_getD,he,List.getElem?_set_self (by rw[h.1];exact a0)];exact⟨fun _=>.inr (by omega),fun _=>rfl⟩
 ·rw[List.getD_eq_getElem?_getD,List.getElem?_set_ne he,←List.getD_eq_getElem?_getD];exact⟨.inl,fun hh=>hh.elim id fun hh=>absurd hh (by omega)⟩
theorem U5b.next{p:m0a}{t k:Nat}{bs:List Bool}{th:D1a}(h:U5b p t k th.steps.length bs)(ht:p.threads[k]?=some th)(hk:k≠t):U5b p t (k+1) 0 bs :=
 ⟨h.1,fun m hm=>(h.2 m hm).trans (O8a.next ht hk).symm⟩
theorem U5b.skip{p:m0a}{t k:Nat}{bs:List Bool}(h:U5b p t k 0 bs)(hk:k=t):U5b p t (k+1) 0 bs :=
 ⟨h.1,fun m hm=>(h.2 m hm).trans (O8a.skip hk).symm⟩
theorem U5b.oth{p:m0a}{t:Nat}{bs:List Bool}(hp:W0a p)(h:U5b p t p.threads.length 0 bs):C1a p t=j3a bs:=by
 unfold C1a j3a K1a;rw[h.1]
 congr 1
 apply List.filter_congr;intro m hm;rw[Bool.eq_iff_iff,h.2 m (List.mem_range.1 hm),←X4a hp];unfold C1a;simp only[List.mem_map,List.mem_filter,List.mem_range];constructor
 ·intro hh;exact⟨m,⟨List.mem_range.1 hm,hh⟩,Z⟩
 ·rintro⟨a,⟨_,ha⟩,he⟩;have:a=m:=by exact Int.ofNat_inj.1 he
  subst this;exact ha
theorem X1b(p:m0a)(t:Nat)(M:List Nat)(w0:World)(cs:LV)(hI:InP p M w0 cs)(ht:t<1000:=by omega):
 A0a prog 42 #[.agg cs.toArray,.int .i64 t,.bool false] w0 fun v w'=>(∃bs,U5b p t p.threads.length 0 bs∧∀M,(∀g∈M,g<w0.heap.size)→RdB M w' v bs)∧Bw w0 w':=by
 obtain⟨Ac,nc,cc,Am,nm,cm,Al,nl,cl,At,nt,ct,rfl,_,_,_,x0,_,z0,_⟩:=hI.rd.open_;have hM:=hI.lt;have hp:=hI.ok;have n2:=hp.nthreads;have n3:=hp.nmodules;have S:=St.refl w0;refine a0a func42 Z ntmps42 Z ?_;refine wO1 Z (o0a S Z ?_);intro g3 w3 S3 X3 G3;refine lO S3.k [.o 0] Z ⟨Z,U⟩ (s7a (n:=nm) (c:=nm) S3 m4a Z Z Z Z ?_);intro e0 Q0 C0 O0 N0;have u0:List.replicate nm (Value.bool false)=bV (List.replicate p.modules.length false):=by rw[bV,List.map_replicate,←z0]
 have c0:=C0;rw[u0] at c0;refine lC1 Z (wL (fun μk D ε w=>D=[]∧∃k:Nat,∃bs:List Bool,(k+μk=(p.threads.length))∧(U5b p t k 0 bs)∧St [] w0 w [(some e0,4,bV bs),(some g3,27,pL Ac nc cc Am nm cm Al nl cl At nt ct)]∧Sl ε [(1,.int .i64 t),(2,.bool false),(3,.pointer (some ⟨g3,0,none⟩)),(7,.slice (some ⟨e0,0,none⟩) nm nm),(8,.int .i64 k)]) (μ:=(p.threads.length)) ⟨Z,0,List.replicate p.modules.length false,by omega,U5b.zero,c0,Z⟩ ?_);rintro μk D ε w ⟨rfl,k,bs,_,hS,S,eZ⟩;refine wK eZ (wB S.k [.o 1] Z ⟨Z,U⟩ (fun G0=>?_) fun G0=>?_)
 ·obtain⟨th,a0⟩:∃th,p.threads[k]?=some th:=⟨p.threads[k]'(by omega),List.getElem?_eq_getElem _⟩;have P0:=(hp.thread a0).nsteps;refine lC1 Z (wL (fun μ D ε w=>D=[]∧∃j:Nat,∃bs:List Bool,(U5b p t k j bs)∧(j+μ=1000)∧(j≤th.steps.length)∧(k=t→j=0)∧St [] w0 w [(some e0,4,bV bs),(some g3,27,pL Ac nc cc Am nm cm Al nl cl At nt ct)]∧Sl ε [(1,.int .i64 t),(2,.bool false),(3,.pointer (some ⟨g3,0,none⟩)),(7,.slice (some ⟨e0,0,none⟩) nm nm),(8,.int .i64 k),(9,.int .i64 j)]) (μ:=1000) ⟨Z,0,bs,hS,Z,Nat.zero_le _,(fun _=>rfl),S,Z⟩ ?_);rintro μ D ε w ⟨rfl,j,bs,hS,_,_,y0,S,eZ⟩;refine wK eZ ?_;obtain⟨_,D0,J0,_,s0,f0,_,_,j0,p0⟩:=RdS.get (x0) (k) (by omega);obtain rfl:=Option.some.inj (a0.symm.trans s0);obtain⟨_,_,_,_,_,_,_,_,_,_,_,_,rfl,_⟩:=Z0a.open_ p0;refine wB (S.k.a j0) [.o 1,.x D0 J0,.f 0 4] Z ⟨Z,⟨f0,by omega⟩,Z,U⟩ (fun H0=>?_) fun H0=>?_
  ·refine lB1 Z (fun I0=>?_) fun I0=>?_
   ·refine lP1 Z ⟨μk-1,by omega,Z,k+1,_,by omega,?_,S,Z⟩;by_cases h:k=t
    ·obtain rfl:j=0:=y0 h;exact hS.skip h
    ·obtain rfl:j=th.steps.length:=by omega
     exact hS.next a0 h
   obtain⟨_,E0,K0,_,t0,g0,_,_,m0,q0⟩:=RdS.get (x0) (k) (by omega);obtain rfl:=Option.some.inj (a0.symm.trans t0);obtain⟨_,_,_,_,_,_,_,_,_,_,_,_,rfl,_,_,_,d0,_⟩:=Z0a.open_ q0;obtain⟨s,F0,L0,_,A0,i0,_,_,n0,r0⟩:=RdS.get (d0) (j) (by omega);obtain⟨_,_,_,_,_,_,rfl,⟨_,_⟩,_⟩:=n2a.open_ r0;have o0:0≤s.module_∧s.module_<p.modules.length:=((hp.thread a0).steps s (c0a A0)).mod;refine lO ((S.k.a n0).a m0) [.o 1,.x E0 K0,.f 0 4,.x F0 L0,.f 1 10,.i] Z ⟨by omega,Z,⟨i0,by omega⟩,Z,⟨g0,by omega⟩,Z,U⟩ ?_;refine X0a (hy:=Z) (kk:=0) (v:=.bool true) S p4b Z Z Z (by rw[J2d,hS.1];omega) ?_;intro B0 b0 v0;rw[show 0+s.module_.toNat*1=s.module_.toNat by omega,x2d] at b0;dsimp only[List.set] at b0;refine lP1 Z ⟨μ-1,by omega,Z,j+1,_,(hS.step a0 A0 o0),by omega,((by omega)),((fun h=>by omega)),b0,Z⟩
  refine lP1 Z ⟨μk-1,by omega,Z,k+1,_,by omega,?_,S,Z⟩;by_cases h:k=t
  ·obtain rfl:j=0:=y0 h;exact hS.skip h
  ·obtain rfl:j=th.steps.length:=by omega
   exact hS.next a0 h
 refine lR1 Z (w0a Z ?_);have hl:=hS.1;exact⟨⟨bs,(show k=p.threads.length by omega)▸hS,fun M hM=>by
  have:=T9c (M:=M) (S.blk 0 Z) (fun hm=>by have h1:=hM _ hm;have h2:=S.new 0 Z;simp at h2;omega) (by omega);rw[hl,←z0] at this;exact this⟩,S.fin⟩
theorem A6b{p:m0a}{t:Int}{f:List Int}{k:Nat}{c:g1a}(h:p.cells[k]?=some c):x0c f (f6b p t (k+1))=if c.thread=t∧(k:Int)∉f then x0c f (f6b p t k)++[(k:Int)] else x0c f (f6b p t k):=by
 rw[T6a h];by_cases h1:c.thread=t
 ·rw[if_pos h1];unfold x0c;rw[List.filter_append];by_cases h2:(k:Int)∈f<;>simp[h1,h2]
 ·rw[if_neg h1,if_neg (fun h=>h1 h.1)]
theorem G4b(p:m0a)(m:Nat)(md:k2a)(a0:p.modules[m]?=some md)(M:List Nat)(w0:World)(cs:LV)(hI:InP p M w0 cs):
 A0a prog 17 #[.agg cs.toArray,.int .i64 m] w0 fun v w'=>(∃cs:LV,v=.agg cs.toArray∧RdE M w' (c4a p m) cs)∧Bw w0 w':=by
 obtain⟨Ac,nc,cc,Am,nm,cm,Al,nl,cl,At,nt,ct,rfl,hC,H0,_⟩:=hI.rd.open_;have hM:=hI.lt;have hp:=hI.ok;have n1:=hp.ncells;have n3:=hp.nmodules;have r1:=t5a a0;have s1:=hp.modules md (c0a a0);have y0:(j5b p md).length≤100000:=by
  have:=b8a md.frame (ofL p (-1));have:=A4a p (-1) p.cells.length;unfold j5b ofL at *;simp;omega
 have S:=St.refl w0;refine a0a func17 Z ntmps17 Z ?_;refine wO1 Z (o0a S Z ?_);intro g2 w2 S2 X2 G2;refine g0a S2 X1a Z Z ?_;intro g4 w4 S4 X4 G4;refine lO S4.k [.w 1] Z ⟨⟨Z,Z⟩,U⟩ (r0a S4 H8a Z Z (a6a p M _ _ (hI.keep (S4.keep0 M))) ?_);intro w8 S8 X8;refine lB1 Z (fun V0=>by exfalso;omega) fun V0=>?_;refine lB S8.k [.o 1] Z ⟨Z,U⟩ (fun W0=>by exfalso;omega) fun W0=>?_;obtain⟨_,Q0,a1,_,C0,o0,_,_,u0,z0⟩:=RdS.get (H0) (m) (by omega);obtain rfl:=Option.some.inj (a0.symm.trans C0);obtain⟨_,_,_,_,_,_,_,_,_,rfl,_,s0,_⟩:=f1a.open_ z0;refine lO (S8.k.a u0) [.o 1,.x Q0 a1,.f 0 6] Z ⟨Z,⟨o0,by omega⟩,Z,U⟩ ?_;have d1:=RdE.keep (S8.keep0 _) _ _ (RdE.more (W3a S8 (k:=0) Z) _ _ s0);refine k0a S8 T0a (vs:=[.agg _]) (cs:=[_,_,_,_]) Z Z Z Z Z Z ?_;intro U0 w1 J0 O0 I0;refine B0a Z ?_;have e0:=a0b (d1.addNew O0 I0);refine lC1 Z (wL (fun μk D ε w=>D=[]∧∃k:Nat,∃G:Option Nat,∃cs2:LV,∃v:Value,(k+μk=(p.cells.length))∧(s2b (g4::M) w G cs2 v (md.guar::(x0c md.frame (f6b p (-1) k)).map (g5a p)))∧St [] w0 w [(G,37,cs2),(some g4,37,[.int .i64 0,.int .i64 0,.int .i64 0,.slice none 0 0]),(some g2,27,pL Ac nc cc Am nm cm Al nl cl At nt ct)]∧Sl ε [(1,.int .i64 m),(2,.pointer (some ⟨g2,0,none⟩)),(4,.pointer (some ⟨g4,0,none⟩)),(5,v),(6,.int .i64 k)]) (μ:=(p.cells.length)) ⟨Z,0,some U0,_,_,by omega,e0,J0,Z⟩ ?_);rintro μk D ε w ⟨rfl,k,G,cs2,v,_,c0,S,eZ⟩;refine wK eZ ?_;have KQ:=x0a.refl (G.toList++g4::M) w;refine wB S.k [.o 2] Z ⟨Z,U⟩ (fun X0=>?_) fun X0=>?_
 ·obtain⟨y,R0,b1,_,E0,p0,_,_,v0,A0⟩:=RdS.get (hC) (k) (by omega);obtain⟨rfl,_⟩:=P2a.open_ A0;refine lB (S.k.a v0) [.o 2,.x R0 b1,.f 0 3] Z ⟨Z,⟨p0,by omega⟩,Z,U⟩ (fun Y0=>?_) fun Y0=>?_
  ·obtain⟨_,S0,c1,_,D0,q0,_,_,x0,B0⟩:=RdS.get (H0) (m) (by omega);obtain rfl:=Option.some.inj (a0.symm.trans D0);obtain⟨_,_,_,_,_,_,_,_,_,rfl,_,_,r0,_⟩:=f1a.open_ B0;refine lO (S.k.a x0) [.o 2,.x S0 c1,.f 0 10] Z ⟨Z,⟨q0,by omega⟩,Z,U⟩ (i0a S O2d Z Z (Z5c M _ _ md.frame k (r0.keep (S.keep0 M))) (fun Z0 f1 b0 m0=>?_) (fun Z0 f1 b0 m0=>?_))
   ·replace KQ:=KQ.trans (m0.of_nil);refine lP1 Z ⟨μk-1,by omega,Z,k+1,_,_,_,by omega,?_,b0,Z⟩;rw[A6b E0];have h9:(k:Int)∈md.frame:=of_decide_eq_true (by assumption);rw[if_neg (fun h=>h.2 h9)];exact c0.keep KQ
   replace KQ:=KQ.trans (m0.of_nil);refine lOn 6 b0.k [] Z U (J0a Z ?_);refine lO b0.k [.w 2] Z ⟨⟨Z,Z⟩,U⟩ (h0a b0 v7c Z Z (p7a p k (G.toList++g4::M) _ _ ⟨(hI.rd.more (fun x hx=>e5a b0 x (q4b 0 Z (r4b 1 Z) x hx))).keep (b0.keep0 _),hp,(hI.msk.more (fun x hx=>e5a b0 x (q4b 0 Z (r4b 1 Z) x hx))).keep (b0.keep0 _),fun x hx=>Y7a b0 hM x (q4b 0 Z (r4b 1 Z) x hx)⟩) ?_);rintro t1 x1 ⟨_,rfl,i0⟩ K0 P0;replace KQ:=KQ.trans (P0.of_nil);obtain⟨_,_,_,rfl,-⟩:=i0.open_;refine k0a K0 T0a (vs:=[.agg _]) (cs:=[_,_,_,_]) Z Z Z Z Z Z ?_;intro q1 y1 F0 G0 j1;replace i0:=RdE.keep (G0.of_nil) _ _ i0;replace KQ:=KQ.trans (G0.of_nil);have g0:=c0.keep KQ;refine r1a F3a (k:=1) (M2:=g4::M) (e1:=g5a p k) F0 T0a Z g0 Z Z (F0.cells 0 Z) i0 (by have:=b8a md.frame (f6b p (-1) k);have:=A4a p (-1) k;simp;omega) Z ?_;intro u1 m1 T0 z1 L0 f0 o1 i1;refine B0a Z ?_;refine lP1 Z ⟨μk-1,by omega,Z,k+1,_,_,_,by omega,?_,L0.tail,Z⟩;rw[A6b E0];have h9:y.thread=-1∧(k:Int)∉md.frame:=⟨by omega,of_decide_eq_false (by assumption)⟩;rw[if_pos h9,List.map_append];exact f0
  refine lP1 Z ⟨μk-1,by omega,Z,k+1,_,_,_,by omega,?_,S,Z⟩;rw[A6b E0];have h9:¬(y.thread=-1∧(k:Int)∉md.frame):=fun h=>by have:=h.1;omega
  rw[if_neg h9];exact c0.keep KQ
 refine lOn 7 S.k [] Z U (J0a Z ?_);have t0:RdL (g4::M) w v (j5b p md):=by
  have hr:=c0;rw[show k=p.cells.length by omega] at hr;exact hr.rdL S (k:=0) Z (fun g hg hh=>by
   subst hg;rcases List.mem_cons.1 hh with hh|hh
   ·exact S.ne 0 1 Z Z (by omega) hh
   ·exact y6a S (k:=0) Z hM hh) (by have:=b8a md.frame (ofL p (-1));have:=A4a p (-1) p.cells.length;unfold ofL at *;simp;omega)
 refine h0a S U6c Z Z (E2c (j5b p md) y0 (g4::M) _ _ t0 (z8a S 1 Z hM)) ?_;rintro v1 A1 ⟨_,rfl,j0⟩ N0 p1;obtain⟨_,_,_,rfl,-⟩:=j0.open_;refine d0a (kk:=1) (vs:=[_,_,_,_]) N0 h1a Z Z Z Z Z Z Z ?_;intro g1 d0 n0;dsimp only[e0a,List.set] at d0;replace j0:=RdE.keep (n0.mono (by simp)) _ _ j0;refine lR1 Z (t0a Z D0a Z (d0.cells 1 Z) Z ⟨⟨_,Z,?_⟩,d0.fin⟩);unfold c4a w2d;rw[show((m:Int).toNat)=m by simp,getD_some a0];exact RdE.less (fun x hx=>List.mem_cons_of_mem _ hx) _ _ j0
theorem Z7a(bs:List Bool)(k:Nat)(f:Int→E):(K1a bs (k+1)).map f=(K1a bs k).map f++(if bs.getD k false=true then[f k] else[]):=by
 rw[r3a,List.map_append]
 split<;>rfl
theorem r1c(p:m0a)(t:Nat)(ht:t<p.threads.length)(M:List Nat)(w0:World)(cs:LV)(hI:InP p M w0 cs):
 A0a prog 19 #[.agg cs.toArray,.int .i64 t] w0 fun v w'=>(∃cs:LV,v=.agg cs.toArray∧RdE M w' (onE p t) cs)∧Bw w0 w':=by
 obtain⟨Ac,nc,cc,Am,nm,cm,Al,nl,cl,At,nt,ct,rfl,hC,_⟩:=hI.rd.open_;have hM:=hI.lt;have hp:=hI.ok;have n1:=hp.ncells;have n2:=hp.nthreads;have n3:=hp.nmodules;have S:=(St.refl w0).nilEnt 37;refine a0a func19 Z ntmps19 Z ?_;refine wO1 Z (o0a S Z ?_);intro g2 w2 S2 X2 G2;refine g0a S2 X1a Z Z ?_;intro g4 w4 S4 X4 G4;refine lO S4.k [.w 1] Z ⟨⟨Z,Z⟩,U⟩ (r0a S4 H8a Z Z (a6a p M _ _ (hI.keep (S4.keep0 M))) ?_);intro z1 j0 F1;refine lB1 Z (fun r1=>by exfalso;omega) fun r1=>?_;refine lB j0.k [.o 1] Z ⟨Z,U⟩ (fun s1=>by exfalso;omega) fun s1=>?_;refine lOn 8 j0.k [] Z U (B0a Z ?_);refine lO j0.k [.w 1] Z ⟨⟨Z,Z⟩,U⟩ ?_;have f1:∀g∈g4::M,g<z1.heap.size:=z8a j0 0 Z hM;refine h0a j0 t7c Z Z (X1b p t M _ _ (hI.keep (j0.keep0 M))) ?_;rintro O1 I0 ⟨bs,hS,C0⟩ T0 G1;have B0:=C0 (g4::M) f1;obtain⟨Ab,nb,cb,rfl⟩:=B0.form;obtain⟨_,-,_⟩:=B0.len;have N1:=hS.1;have F0:=hS.oth hp;have KB:=x0a.refl (g4::M) I0;refine lC1 Z (wL (fun μk D ε w=>D=[]∧∃k:Nat,∃G:Option Nat,∃cs2:LV,∃v:Value,(k+μk=(bs.length))∧(s2b (g4::M) w G cs2 v ((K1a bs k).map (c4a p)))∧(∀g∈G.toList,I0.heap.size≤g∨g∈g4::M)∧(x0a (g4::M) I0 w)∧St [] w0 w [(some g4,37,[.int .i64 0,.int .i64 0,.int .i64 0,.slice none 0 0]),(some g2,27,pL Ac nc cc Am nm cm Al nl cl At nt ct),(G,37,cs2)]∧Sl ε [(1,.int .i64 t),(2,.pointer (some ⟨g2,0,none⟩)),(4,.pointer (some ⟨g4,0,none⟩)),(5,v),(6,.slice Ab nb cb),(7,.int .i64 k)]) (μ:=(bs.length)) ⟨Z,0,none,[],.slice none 0 0,by omega,s2b.nil,by simp,KB,T0,Z⟩ ?_);rintro μk D ε w ⟨rfl,k,G,cs2,v,_,d0,E0,KB,S,eZ⟩;refine wK eZ ?_;have KQ:=x0a.refl (G.toList++g4::M) w;refine wB1 Z (fun t1=>?_) fun t1=>?_
 ·obtain⟨z,i1,x1,m1,w1,x0,_,_,o0,c0⟩:=RdS.get ((B0.keep KB)) (k) (by omega);obtain c0:=c0;obtain rfl:m1=[Value.bool z]:=c0;have hz:bs.getD k false=z:=by rw[List.getD_eq_getElem?_getD,w1];rfl
  refine lO S.k [.x i1 x1] Z ⟨⟨x0,by omega⟩,U⟩ ?_;cases n0:z
  ·refine G0a E2a Z (by exact(o0 0 _ Z).trans (congrArg (fun b=>some (Value.bool b)) n0)) Z ?_;refine lP1 Z ⟨μk-1,by omega,Z,k+1,_,_,_,by omega,?_,?_,(KB),S,Z⟩
   ·rw[Z7a,hz];rw[if_neg (by simp[*]),List.append_nil];exact d0.keep KQ
   ·exact E0
  refine G0a E2a Z (by exact(o0 0 _ Z).trans (congrArg (fun b=>some (Value.bool b)) n0)) Z ?_;refine lOn 4 S.k [] Z U (J0a Z ?_);refine lO S.k [.w 1] Z ⟨⟨Z,Z⟩,U⟩ ?_;obtain⟨md,H0⟩:∃md,p.modules[k]?=some md:=⟨p.modules[k]'(by omega),List.getElem?_eq_getElem _⟩;refine h0a S i7c Z Z (G4b p k md H0 (G.toList++g4::M) _ _ ⟨(hI.rd.more (fun x hx=>e5a S x (q4b 2 Z (r4b 0 Z) x hx))).keep (S.keep0 _),hp,(hI.msk.more (fun x hx=>e5a S x (q4b 2 Z (r4b 0 Z) x hx))).keep (S.keep0 _),fun x hx=>Y7a S hM x (q4b 2 Z (r4b 0 Z) x hx)⟩) ?_;rintro P1 V1 ⟨_,rfl,r0⟩ U0 L0;replace KB:=KB.trans (L0.of_nil);replace KQ:=KQ.trans (L0.of_nil);obtain⟨_,_,_,rfl,-⟩:=r0.open_;refine k0a U0 T0a (vs:=[.agg _]) (cs:=[_,_,_,_]) Z Z Z Z Z Z ?_;intro K1 W1 J0 u0 B1;replace r0:=RdE.keep (u0.of_nil) _ _ r0;replace KB:=KB.trans (u0.of_nil);replace KQ:=KQ.trans (u0.of_nil);have p0:=d0.keep KQ;refine r1a F3a (k:=3) (M2:=g4::M) (e1:=c4a p k) J0 T0a Z p0 Z Z (J0.cells 0 Z) r0 (by have:=p2a bs k;simp;omega) Z ?_;intro Q1 C1 o1 X1 V0 e0 b1 R0;have g1:=KB.size;replace KB:=KB.freshL b1 E0;refine B0a Z ?_;refine lP1 Z ⟨μk-1,by omega,Z,k+1,_,_,_,by omega,?_,?_,(KB),V0.tail,Z⟩
  ·rw[Z7a,hz];rw[if_pos (by assumption)];exact e0
  ·intro g hg;rcases R0 g hg with h|h;exact E0 g h;exact .inl (Nat.le_trans g1 h)
 refine lOn 7 S.k [] Z U (J0a Z ?_);have z0:RdL (g4::M) w v ((C1a p t).map (c4a p)):=by
  have hr:=d0;rw[show k=bs.length by omega,show K1a bs bs.length=C1a p t from F0.symm] at hr;exact hr.rdL S (k:=2) Z (fun g hg hh=>by
   subst hg;rcases List.mem_cons.1 hh with hh|hh
   ·exact S.ne 0 2 Z Z (by omega) hh.symm
   ·exact y6a S (k:=2) Z hM hh) (by have:=E7a p t;simp;omega)
 refine h0a S w3d Z Z (F3d ((C1a p t).map (c4a p)) (by have:=E7a p t;simp;omega) (g4::M) _ _ z0 (z8a S 0 Z hM)) ?_;rintro v45 Y1 ⟨_,rfl,P0⟩ W0 H1;obtain⟨_,_,_,rfl,-⟩:=P0.open_;refine k0a W0 T0a (vs:=[.agg _]) (cs:=[_,_,_,_]) Z Z Z Z Z Z ?_;intro q1 Z1 X0 c1 S0;refine B0a Z ?_;have f0:=a0b (P0.addNew c1 S0);refine lC1 Z (wL (fun μj D ε w=>D=[]∧∃j:Nat,∃G2:Option Nat,∃v0:LV,∃v2:Value,(j+μj=(p.cells.length))∧(s2b (g4::M) w G2 v0 v2 (T8a p t::(f6b p t j).map (g5a p)))∧St [] w0 w [(G2,37,v0),(some g4,37,[.int .i64 0,.int .i64 0,.int .i64 0,.slice none 0 0]),(some g2,27,pL Ac nc cc Am nm cm Al nl cl At nt ct),(G,37,cs2)]∧Sl ε [(1,.int .i64 t),(2,.pointer (some ⟨g2,0,none⟩)),(4,.pointer (some ⟨g4,0,none⟩)),(8,v2),(9,.int .i64 j)]) (μ:=(p.cells.length)) ⟨Z,0,some q1,_,_,by omega,f0,X0,Z⟩ ?_);rintro μj D ε w ⟨rfl,j,G2,v0,v2,_,b0,S,eZ⟩;refine wK eZ ?_;have i0:=x0a.refl (G2.toList++g4::M) w;refine wB S.k [.o 2] Z ⟨Z,U⟩ (fun u1=>?_) fun u1=>?_
 ·obtain⟨y,j1,y1,_,O0,y0,_,_,D0,G0⟩:=RdS.get (hC) (j) (by omega);obtain⟨rfl,_⟩:=P2a.open_ G0;refine lB (S.k.a D0) [.o 2,.x j1 y1,.f 0 3] Z ⟨Z,⟨y0,by omega⟩,Z,U⟩ (fun v1=>?_) fun v1=>?_
  ·refine lOn 4 S.k [] Z U (J0a Z ?_);refine lO S.k [.w 2] Z ⟨⟨Z,Z⟩,U⟩ (h0a S v7c Z Z (p7a p j (G2.toList++g4::M) _ _ ⟨(hI.rd.more (fun x hx=>e5a S x (q4b 0 Z (r4b 1 Z) x hx))).keep (S.keep0 _),hp,(hI.msk.more (fun x hx=>e5a S x (q4b 0 Z (r4b 1 Z) x hx))).keep (S.keep0 _),fun x hx=>Y7a S hM x (q4b 0 Z (r4b 1 Z) x hx)⟩) ?_);rintro R1 a2 ⟨_,rfl,s0⟩ Y0 d1;replace i0:=i0.trans (d1.of_nil);obtain⟨_,_,_,rfl,-⟩:=s0.open_;refine k0a Y0 T0a (vs:=[.agg _]) (cs:=[_,_,_,_]) Z Z Z Z Z Z ?_;intro M1 b2 K0 N0 D1;replace s0:=RdE.keep (N0.of_nil) _ _ s0;replace i0:=i0.trans (N0.of_nil);have q0:=b0.keep i0;refine r1a F3a (k:=1) (M2:=g4::M) (e1:=g5a p j) K0 T0a Z q0 Z Z (K0.cells 0 Z) s0 (by have:=A4a p t j;simp;omega) Z ?_;intro T1 E1 p1 d2 Z0 g0 I1 A1;refine B0a Z ?_;refine lP1 Z ⟨μj-1,by omega,Z,j+1,_,_,_,by omega,?_,Z0.tail,Z⟩;rw[T6a O0];have h9:y.thread=t:=by omega
   rw[if_pos h9,List.map_append];exact g0
  refine lP1 Z ⟨μj-1,by omega,Z,j+1,_,_,_,by omega,?_,S,Z⟩;rw[T6a O0];have h9:¬(y.thread=t):=fun h=>by omega
  rw[if_neg h9];exact b0.keep i0
 refine lOn 7 S.k [] Z U (J0a Z ?_);have A0:RdL (g4::M) w v2 (T8a p t::(ofL p t).map (g5a p)):=by
  have hr:=b0;rw[show j=p.cells.length by omega] at hr;exact hr.rdL S (k:=0) Z (fun g hg hh=>by
   subst hg;rcases List.mem_cons.1 hh with hh|hh
   ·exact S.ne 0 1 Z Z (by omega) hh
   ·exact y6a S (k:=0) Z hM hh) (by have:=A4a p t p.cells.length;simp;omega)
 refine h0a S U6c Z Z (E2c (T8a p t::(ofL p t).map (g5a p)) (by have:=A4a p t p.cells.length;unfold ofL;simp;omega) (g4::M) _ _ A0 (z8a S 1 Z hM)) ?_;rintro U1 e2 ⟨_,rfl,t0⟩ a1 J1;obtain⟨_,_,_,rfl,-⟩:=t0.open_;refine d0a (kk:=1) (vs:=[_,_,_,_]) a1 h1a Z Z Z Z Z Z Z ?_;intro Q0 a0 m0;dsimp only[e0a,List.set] at a0;replace t0:=RdE.keep (m0.mono (by simp)) _ _ t0;exact lR1 Z (t0a Z D0a Z (a0.cells 1 Z) Z ⟨⟨_,Z,RdE.less (fun x hx=>List.mem_cons_of_mem _ hx) _ _ t0⟩,a0.fin⟩)
structure NmP (p:m0a) (M:List Nat) (w:World) (cs:LV):Prop where
 rd:e1a M w p cs
 nm:n8a p
 msk:W1a M w
 lt:∀g∈M,g<w.heap.size
theorem NmP.keep{p:m0a}{M:List Nat}{w w':World}{cs:LV}(h:NmP p M w cs)(hk:x0a M w w'):NmP p M w' cs :=
 ⟨h.rd.keep hk,h.nm,h.msk.keep hk,fun g hg=>Nat.lt_of_lt_of_le (h.lt g hg) hk.size⟩
def D7c(p:m0a)(m:Int)(n:Nat)(er:Int):Prop:=er=1∧¬(W0a p∧(m=0∨m=1∨m=2))∨er=2∧(W0a p∧(m=0∨m=1∨m=2))∧120<n
section
variable {p:m0a} {m er:Int} {n:Nat}
theorem D7c.or(h:D7c p m n er):er=1∨er=2:=h.elim (fun z=>.inl z.1) (fun z=>.inr z.1)
theorem D7c.no(h:D7c p m n er)(hp:W0a p)(hm:m=0∨m=1∨m=2)(hn:n≤120):False:=h.elim (fun z=>z.2 ⟨hp,hm⟩) (fun z=>by omega)
theorem D7c.one(h:D7c p m n er)(hz:W0a p→m=0∨m=1∨m=2→False):er=1:=h.elim (fun z=>z.1) (fun z=>(hz z.2.1.1 z.2.1.2).elim)
theorem D7c.two(h:D7c p m n er)(hp:W0a p)(hm:m=0∨m=1∨m=2):er=2:=h.elim (fun z=>(z.2 ⟨hp,hm⟩).elim) (fun z=>z.1)
end
theorem h0b(M:List Nat)(w0:World)(v:Value)(l:List Int)(hR:RdI M w0 v l)(hw:∀x∈l,1≤x∧x≤8)(hl:l.length≤32):A0a prog 38 #[v] w0 fun v w'=>v=.int .i64 (c2a l)∧Bw w0 w':=by
 obtain⟨A,n,c,rfl⟩:=hR.form;obtain⟨_,_⟩:=hR.len;have j0:=Q2a hw;have S:=St.refl w0;refine a0a func38 Z ntmps38 Z ?_;refine wC1 Z (wL (fun μk D ε w=>D=[]∧∃k:Nat,∃s:Int,(k+μk=(l.length))∧(s=c2a (l.take k))∧St [] w0 w []∧Sl ε [(0,.slice A n c),(3,.int .i64 s),(4,.int .i64 k)]) (μ:=(l.length)) ⟨Z,0,0,by omega,Z,S,Z⟩ ?_);rintro μk D ε w ⟨rfl,k,s,_,hs,S,eZ⟩;refine wK eZ (wB1 Z (fun h8=>?_) fun h8=>?_)
 ·obtain⟨x,d0,i0,_,g0,a0,_,_,b0,c0⟩:=RdS.get (hR) (k) (by omega);obtain⟨rfl,_⟩:=id c0;have f0:=Q4a g0;have m0:=e2a hw k;have e0:=e2a hw (k+1);refine lP (S.k.a b0) [.x d0 i0,.f 0 0] Z ⟨by omega,by omega,Z,⟨a0,by omega⟩,U⟩ ?_;refine⟨μk-1,by omega,Z,k+1,(s+x),by omega,(by rw[f0,hs]),S,Z⟩
 refine lR1 Z (w0a Z ?_);exact⟨by rw[hs,List.take_of_length_le (by omega)],S.fin⟩
theorem h8a(M:List Nat)(w0:World)(v u:Value)(C W:List Int)(p0:Int)(hC:RdI M w0 v C)(hW:RdI M w0 u W)(h:V9a C W)(hs:c2a W≤p0):A0a prog 90 #[v,u,.int .i64 p0] w0 fun v w'=>v=.int .i64 (c2a W)∧Bw w0 w':=by
 obtain⟨A,n,c,rfl⟩:=hC.form;obtain⟨_,_⟩:=hC.len;obtain⟨A',n',c',rfl⟩:=hW.form;obtain⟨_,_⟩:=hW.len;have z1:=h.len;have M1:=h.clen;have N1:=Q2a h.wid;have S:=St.refl w0;refine a0a func90 Z ntmps90 Z ?_;refine wB1 Z (fun q1=>by exfalso;omega) fun q1=>?_;refine lB1 Z (fun r1=>by exfalso;omega) fun r1=>?_;refine lC1 Z (wL (fun μk D ε w=>D=[]∧∃k:Nat,∃s:Int,(k+μk=(C.length))∧(s=c2a (W.take k))∧St [] w0 w []∧Sl ε [(0,.slice A n c),(1,.slice A' n' c'),(2,.int .i64 p0),(7,.int .i64 s),(8,.int .i64 k)]) (μ:=(C.length)) ⟨Z,0,0,by omega,Z,S,Z⟩ ?_);rintro μk D ε w ⟨rfl,k,s,_,R0,S,eZ⟩;refine wK eZ (wB1 Z (fun s1=>?_) fun s1=>?_)
 ·refine lC1 Z (y0a b0a [0,1,2,3,4,5,6,7,8,9,10,11,12,13,14,15,16,17,18,19,20,21,22,23,24,25,26,27,28,29,30,31,32,33,34,35,36,37,38,39,40,41] [] [] Z (Cl _ _ _ _) (Cl.start S) ?_);obtain⟨x,f1,D1,_,s0,z0,_,_,G0,N0⟩:=RdS.get (hC) (k) (by omega);obtain⟨rfl,_⟩:=id N0;have K1:=h.cell x (c0a s0);refine qB (S.q.a G0) [.x f1 D1,.f 0 0] Z ⟨Z,⟨z0,by omega⟩,U⟩ (fun t1=>by exfalso;omega) fun t1=>?_;obtain⟨_,g1,E1,_,U0,A0,_,_,H0,O0⟩:=RdS.get (hC) (k) (by omega);obtain rfl:=Option.some.inj (s0.symm.trans U0);obtain⟨rfl,_⟩:=id O0;refine qB (S.q.a H0) [.x g1 E1,.f 0 0] Z ⟨Z,⟨A0,by omega⟩,U⟩ (fun u1=>by exfalso;omega) fun u1=>?_;refine qB1 Z (fun v1=>?_) fun v1=>?_
  ·obtain⟨_,i1,F1,_,V0,B0,_,_,I0,P0⟩:=RdS.get (hC) (k) (by omega);obtain rfl:=Option.some.inj (s0.symm.trans V0);obtain⟨rfl,_⟩:=id P0;obtain⟨_,j1,G1,_,W0,C0,_,_,r0,Q0⟩:=RdS.get (hC) (k-1) (by omega);obtain⟨rfl,_⟩:=id Q0;have p1:((k:Int)-1).toNat=k-1:=by omega
   rw[←p1] at r0;have C1:=Q6a h.inc W0 s0;refine qB ((S.q.a r0).a I0) [.x i1 F1,.f 0 0,.x j1 G1,.f 1 0] Z ⟨Z,⟨C0,by omega⟩,by omega,Z,⟨B0,by omega⟩,U⟩ (fun w1=>by exfalso;omega) fun w1=>?_;obtain⟨y,t0,a1,m1,a0,b0,D0,J0,e0,i0⟩:=RdS.get (hW) (k) (by omega);obtain⟨rfl,X0⟩:=id i0;have x1:=h.wid y (c0a a0);refine qB (S.q.a e0) [.x t0 a1,.f 0 0] Z ⟨Z,⟨b0,by omega⟩,U⟩ (fun x0=>by exfalso;omega) fun x0=>?_;obtain⟨I1,u0,b1,n1,n0,c0,E0,K0,f0,j0⟩:=RdS.get (hW) (k) (by omega);obtain rfl:=Option.some.inj (a0.symm.trans n0);obtain⟨rfl,Y0⟩:=id j0;refine qB (S.q.a f0) [.x u0 b1,.f 0 0] Z ⟨Z,⟨c0,by omega⟩,U⟩ (fun y0=>by exfalso;omega) fun y0=>?_;refine lV Z ?_;rintro H1 ⟨q0,d1⟩;obtain⟨J1,v0,c1,o1,o0,d0,F0,L0,g0,m0⟩:=RdS.get (hW) (k) (by omega);obtain rfl:=Option.some.inj (a0.symm.trans o0);obtain⟨rfl,Z0⟩:=id m0;have T0:=Q4a a0;have A1:=e2a h.wid k;have S0:=e2a h.wid (k+1);refine lP (q0.k.a g0) [.x v0 c1,.f 0 0] Z ⟨by omega,by omega,Z,⟨d0,by omega⟩,U⟩ ?_;refine⟨μk-1,by omega,Z,k+1,(s+y),by omega,(by rw[T0,R0]),q0,Z⟩
  obtain⟨y,t0,a1,m1,a0,b0,D0,J0,e0,i0⟩:=RdS.get (hW) (k) (by omega);obtain⟨rfl,X0⟩:=id i0;have x1:=h.wid y (c0a a0);refine qB (S.q.a e0) [.x t0 a1,.f 0 0] Z ⟨Z,⟨b0,by omega⟩,U⟩ (fun x0=>by exfalso;omega) fun x0=>?_;obtain⟨I1,u0,b1,n1,n0,c0,E0,K0,f0,j0⟩:=RdS.get (hW) (k) (by omega);obtain rfl:=Option.some.inj (a0.symm.trans n0);obtain⟨rfl,Y0⟩:=id j0;refine qB (S.q.a f0) [.x u0 b1,.f 0 0] Z ⟨Z,⟨c0,by omega⟩,U⟩ (fun y0=>by exfalso;omega) fun y0=>?_;refine lV Z ?_;rintro H1 ⟨q0,d1⟩;obtain⟨J1,v0,c1,o1,o0,d0,F0,L0,g0,m0⟩:=RdS.get (hW) (k) (by omega);obtain rfl:=Option.some.inj (a0.symm.trans o0);obtain⟨rfl,Z0⟩:=id m0;have T0:=Q4a a0;have A1:=e2a h.wid k;have S0:=e2a h.wid (k+1);refine lP (q0.k.a g0) [.x v0 c1,.f 0 0] Z ⟨by omega,by omega,Z,⟨d0,by omega⟩,U⟩ ?_;refine⟨μk-1,by omega,Z,k+1,(s+y),by omega,(by rw[T0,R0]),q0,Z⟩
 have B1:s=c2a W:=by rw[R0,List.take_of_length_le (by omega)]
 refine lB1 Z (fun y1=>by exfalso;omega) fun y1=>?_;refine lR1 Z (w0a Z ?_);exact⟨by rw[B1],S.fin⟩
theorem x6b(M:List Nat)(w0:World)(v:Value)(l:List Int)(b:Int)(hR:RdI M w0 v l)(hr:t1a l)(hb:∀x∈l,0≤x∧x<b):A0a prog 134 #[v,.int .i64 b] w0 fun v w'=>v=.bool true∧Bw w0 w':=by
 obtain⟨A,n,c,rfl⟩:=hR.form;obtain⟨_,_⟩:=hR.len;have S:=St.refl w0;refine a0a func134 Z ntmps134 Z ?_;refine wC1 Z (wL (fun μk D ε w=>D=[]∧∃k:Nat,(k+μk=(l.length))∧St [] w0 w []∧Sl ε [(0,.slice A n c),(1,.int .i64 b),(5,.int .i64 k)]) (μ:=(l.length)) ⟨Z,0,by omega,S,Z⟩ ?_);rintro μk D ε w ⟨rfl,k,_,S,eZ⟩;refine wK eZ (wB1 Z (fun h9=>?_) fun h9=>?_)
 ·refine lC1 Z (y0a b0a [0,1,2,3,4,5,6,7,8,9,10,11,12,13,14,15,16,17,18,19,20,21,22,23,24,25,26,27,28] [] [] Z (Cl _ _ _ _) (Cl.start S) ?_);obtain⟨x,v0,G0,_,b0,d0,_,_,i0,n0⟩:=RdS.get (hR) (k) (by omega);obtain⟨rfl,_⟩:=id n0;have L0:=hb x (c0a b0);refine qB (S.q.a i0) [.x v0 G0,.f 0 0] Z ⟨Z,⟨d0,by omega⟩,U⟩ (fun B0=>by exfalso;omega) fun B0=>?_;obtain⟨_,x0,H0,_,r0,e0,_,_,j0,o0⟩:=RdS.get (hR) (k) (by omega);obtain rfl:=Option.some.inj (b0.symm.trans r0);obtain⟨rfl,_⟩:=id o0;refine qB (S.q.a j0) [.x x0 H0,.f 0 0] Z ⟨Z,⟨e0,by omega⟩,U⟩ (fun C0=>by exfalso;omega) fun C0=>?_;refine qB1 Z (fun D0=>?_) fun D0=>?_
  ·obtain⟨_,y0,I0,_,s0,f0,_,_,m0,p0⟩:=RdS.get (hR) (k) (by omega);obtain rfl:=Option.some.inj (b0.symm.trans s0);obtain⟨rfl,_⟩:=id p0;obtain⟨_,z0,J0,_,t0,g0,_,_,a0,q0⟩:=RdS.get (hR) (k-1) (by omega);obtain⟨rfl,_⟩:=id q0;have A0:((k:Int)-1).toNat=k-1:=by omega
   rw[←A0] at a0;have F0:=Q6a hr t0 b0;refine qB ((S.q.a a0).a m0) [.x y0 I0,.f 0 0,.x z0 J0,.f 1 0] Z ⟨Z,⟨g0,by omega⟩,by omega,Z,⟨f0,by omega⟩,U⟩ (fun E0=>by exfalso;omega) fun E0=>?_;refine lV Z ?_;rintro K0 ⟨c0,u0⟩;refine lP1 Z ⟨μk-1,by omega,Z,k+1,by omega,c0,Z⟩
  refine lV Z ?_;rintro K0 ⟨c0,u0⟩;refine lP1 Z ⟨μk-1,by omega,Z,k+1,by omega,c0,Z⟩
 exact lU Z Z ⟨Z,S.fin⟩
section
variable {P:Program} {r:Option Nat} {N:Nat} {D:List Deferred} {e:Env} {w:World} {ops:Array Oper} {rest:List Oper} {K:List Deferred→Env→World→Prop}
variable {d:Nat} {t:TypeId} {p:String} {af:Array Edge} {x y:Operand} {xt yt:TypeId} {a b:Int}
theorem o6c(w:World)(h0:0≤a∧a<9223372036854775808)(h1:0<b):(Op.intDiv .quo .i64 a b).run P w=.ok (.int .i64 (a / b)) w:=by
 have hb:b≠0:=by omega
 have ht:a.tdiv b=a / b:=Int.tdiv_eq_ediv_of_nonneg h0.1;have hd:0≤a / b∧a / b≤a:=⟨Int.ediv_nonneg h0.1 (by omega),Int.ediv_le_self _ h0.1⟩;have hw:IntKind.i64.wrap (a / b)=a / b:=L2a (h0:=hd.1) _;simp[Op.intDiv,hb,ht,hw]
theorem R4d(hx:ev e x=.int .i64 a)(hy:ev e y=.int .i64 b)(h0:0≤a∧a<9223372036854775808)(h1:0<b)(hd:Nat.ble (d+1) N=true)(h:WL P r N ops rest K D (upd e d (.int .i64 (a / b))) w):
 WL P r N ops (⟨some d,.binOp .quo xt x y yt,t,p,af,none⟩::rest) K D e w :=
 U0a Z Z hd (by simp[execOp,hx,hy,eqGuard,binOp,o6c w h0 h1]) h
end
theorem S5a(n:Nat)(w:World)(hn:n≤20:=by omega):A0a prog 37 #[.int .i64 n] w fun v w'=>v=.int .i64 ((2 ^ n:Nat):Int)∧Below w.heap.size w w' :=
 (c8b n hn w).mono fun _ _ h=>⟨by rw[h.1,u2a],h.2⟩
theorem Z0d(M:List Nat)(w0:World)(v:Value)(s:List Int)(c y:Nat)(hS:RdI M w0 v s)(hc:c<s.length)(hy:y≤8)(i0:∀x∈s,0≤x):A0a prog 142 #[v,.int .i64 c,.int .i64 y] w0 fun v w'=>v=.int .i64 (((s.getD c 0).toNat % 2 ^ y:Nat):Int)∧Bw w0 w':=by
 obtain⟨_,n,_,rfl⟩:=hS.form;obtain⟨_,-,_⟩:=hS.len;have o0:2 ^ y≤256:=Nat.pow_le_pow_right (n:=2) (j:=8) (by omega) (by omega);have n0:0<2 ^ y:=Nat.two_pow_pos _;have S:=St.refl w0;refine a0a func142 Z ntmps142 Z ?_;refine wB1 Z (fun g0=>by exfalso;omega) fun g0=>?_;refine lC1 Z (y0a b0a [0,1,2,3,4,5,6,7,8] [] [] Z (Cl _ _ _ _) (Cl.start S) ?_);obtain⟨z,f0,m0,_,d0,a0,_,_,b0,c0⟩:=RdS.get (hS) (c) (by omega);obtain⟨rfl,_⟩:=id c0;refine qO (S.q.a b0) [.x f0 m0,.f 0 0] Z ⟨Z,⟨a0,by omega⟩,U⟩ (k1a E6a Z Z (fun w1 S1 X1=>S5a y _) ?_);refine qD Z ⟨by omega,U⟩ ?_;rintro p0 ⟨e0,_⟩;refine lR1 Z (w0a Z ?_);have j0:=i0 z (c0a d0);refine⟨?_,e0.fin⟩;rw[getD_some d0];exact congrArg _ (X6b z y j0)
theorem x5c{lo y a v n t:Nat}(hv:v<2 ^ y)(ha:a<2 ^ lo)(ht:a+2 ^ lo*(v+2 ^ y*n)=t):a+2 ^ lo*v<2 ^ (lo+y)∧a+2 ^ lo*v+2 ^ (lo+y)*n=t:=by
 have h5:2 ^ lo*(v+1)≤2 ^ lo*2 ^ y:=Nat.mul_le_mul_left _ hv;rw[Nat.mul_add,Nat.mul_one] at h5;refine⟨by rw[Nat.pow_add];omega,?_⟩;rw[←ht,Nat.pow_add,Nat.mul_add,Nat.mul_assoc];omega
theorem o1b(C W s:List Int)(M:List Nat)(w0:World)(v u i vb:Value)(hC:RdI M w0 v C)(hW:RdI M w0 u W)(h:V9a C W)(hb:RdI M w0 vb s)(H0:∀c∈C,c<s.length)(G0:∀x∈s,0≤x)(hs:c2a W≤12:=by omega):A0a prog 78 #[.agg #[v,u,i],vb] w0 fun v w'=>v=.int .i64 (nuZ C W s:Nat)∧Bw w0 w':=by
 obtain⟨A,nc,c,rfl⟩:=hC.form;obtain⟨_,-,_⟩:=hC.len;obtain⟨A',nw,c',rfl⟩:=hW.form;obtain⟨_,-,_⟩:=hW.len;obtain⟨Ab,nb,cb,rfl⟩:=hb.form;obtain⟨_,-,_⟩:=hb.len;have E0:=h.len;have S0:=Q2a h.wid;have S:=St.refl w0;refine a0a func78 Z ntmps78 Z ?_;refine wO1 Z (o0a S Z ?_);intro g2 w2 S2 X2 G2;refine lO S2.k [.o 0,.o 0] Z ⟨Z,Z,U⟩ (r0a S2 A8b Z Z (h8a M _ _ _ C W 12 (hC.keep (S2.keep0 M)) (hW.keep (S2.keep0 M)) h hs) ?_);intro W0 t0 Q0;refine lB1 Z (fun z0=>by exfalso;omega) fun z0=>?_;refine lC1 Z (wL (fun μk D ε w=>D=[]∧∃k:Nat,∃acc:Int,∃un:Int,∃lo:Nat,(k+μk=(C.length))∧((lo:Int)=c2a (W.take k))∧(∃a:Nat,acc=(a:Int)∧a<2 ^ lo∧a+2 ^ lo*nuZ (C.drop k) (W.drop k) s=nuZ C W s)∧(un=((2 ^ lo:Nat):Int))∧St [] w0 w [(some g2,89,[.slice A nc c,.slice A' nw c',i])]∧Sl ε [(1,.slice Ab nb cb),(2,.pointer (some ⟨g2,0,none⟩)),(5,.int .i64 acc),(6,.int .i64 un),(7,.int .i64 k)]) (μ:=(C.length)) ⟨Z,0,0,1,0,by omega,Z,⟨0,Z,by omega,by simp⟩,Z,t0,Z⟩ ?_);rintro μk D ε w ⟨rfl,k,acc,un,lo,_,_,he,J0,S,eZ⟩;refine wK eZ ?_;obtain⟨a,rfl,ha,ht⟩:=he;subst J0;refine wB S.k [.o 0] Z ⟨Z,U⟩ (fun A0=>?_) fun A0=>?_
 ·refine lC1 Z (y0a b0a [0,1,2,3,4,5,6,7,8,9,10,11,12,13,14,15,16] [] [] Z (Cl _ _ _ _) (Cl.start S) ?_);obtain⟨x,v0,N0,_,o0,b0,_,_,e0,i0⟩:=RdS.get (hC) (k) (by omega);obtain⟨rfl,_⟩:=id i0;have B0:=h.cell x (c0a o0);obtain⟨x,rfl⟩:=Int.eq_ofNat_of_zero_le B0.1;have L0:x<s.length:=Int.ofNat_lt.1 (H0 _ (c0a o0));obtain⟨y,x0,O0,_,a0,c0,_,_,f0,j0⟩:=RdS.get (hW) (k) (by omega);obtain⟨rfl,_⟩:=id j0;have C0:=h.wid y (c0a a0);obtain⟨y,rfl⟩:=Int.eq_ofNat_of_zero_le (show 0≤y by omega);have T0:=k9a C0;have D0:=U7b o0 a0 s;have I0:=Q4a a0;have V0:=e2a h.wid (k+1);have U0:=e2a h.wid k;have q0:lo≤12:=by omega
  have s0:2 ^ lo≤4096:=Nat.pow_le_pow_right (n:=2) (j:=12) (by omega) (by omega);have K0:(s.getD x 0).toNat % 2 ^ y<2 ^ y:=Nat.mod_lt _ (by omega);have F0:2 ^ lo*((s.getD x 0).toNat % 2 ^ y)≤4096*256:=Nat.mul_le_mul s0 (by omega);have r0:2 ^ lo*2 ^ y≤4096*256:=Nat.mul_le_mul s0 (by omega);refine qO ((S.q.a f0).a e0) [.o 0,.x v0 N0,.f 0 0,.o 0,.x x0 O0,.f 1 0] Z ⟨Z,⟨c0,by omega⟩,Z,Z,⟨b0,by omega⟩,Z,U⟩ (k1a S8c Z Z (fun w1 S1 X1=>Z0d M _ _ s x y (hb.keep (S1.keep0 M)) L0 (by omega) G0) ?_);refine qD Z ⟨by omega,by omega,U⟩ ?_;rintro Y0 ⟨p0,_⟩;obtain⟨_,y0,P0,_,n0,d0,_,_,g0,m0⟩:=RdS.get (hW) (k) (by omega);obtain rfl:=Option.some.inj (a0.symm.trans n0);obtain⟨rfl,_⟩:=id m0;refine lO (p0.k.a g0) [.o 0,.x y0 P0,.f 0 0] Z ⟨Z,⟨d0,by omega⟩,Z,U⟩ (r0a p0 E6a Z Z (S5a y _) ?_);intro X0 u0 R0;refine lP0 Z ⟨by omega,by omega,U⟩ ?_;refine⟨μk-1,by omega,Z,k+1,_,_,(lo+y),by omega,(by rw[I0];omega),?_,?_,u0,Z⟩
  ·rw[D0,Int.toNat_natCast] at ht;have hn:=x5c K0 ha ht;exact⟨a+2 ^ lo*((s.getD x 0).toNat % 2 ^ y),by simp,hn.1,hn.2⟩
  ·rw[Nat.pow_add];simp
 refine lR1 Z (w0a Z ?_);rw[show C.drop k=[] from List.drop_eq_nil_of_le (by omega)] at ht;exact⟨by rw[←ht];simp[nuZ],S.fin⟩
theorem a9a(C W s:List Int)(n:Nat)(M:List Nat)(w0:World)(v u i vb:Value)(hC:RdI M w0 v C)(hW:RdI M w0 u W)(h:V9a C W)(hn:n<2 ^ (c2a W).toNat)(hb:RdI M w0 vb s)(O0:s.length=32)(d1:∀x∈s,0≤x∧x<256)(hs:c2a W≤12:=by omega):A0a prog 44 #[.agg #[v,u,i],.int .i64 n,vb] w0 fun v w'=>X3a w0 w' v (stZ C W n s)∧Bw w0 w':=by
 obtain⟨A,nc,c,rfl⟩:=hC.form;obtain⟨_,-,_⟩:=hC.len;obtain⟨A',nw,c',rfl⟩:=hW.form;obtain⟨_,-,_⟩:=hW.len;obtain⟨_,_,_,rfl⟩:=hb.form;obtain⟨_,-,_⟩:=hb.len;have a1:=h.len;have w1:=Q2a h.wid;obtain⟨c0,a0⟩:∃b:Nat,c2a W=(b:Int):=⟨(c2a W).toNat,by omega⟩;have x1:2 ^ c0≤4096:=Nat.pow_le_pow_right (n:=2) (j:=12) (by omega) (by omega);rw[a0,Int.toNat_natCast] at hn;have L0:=F3b n c0;rw[Nat.mod_eq_of_lt hn] at L0;have S:=St.refl w0;refine a0a func44 Z ntmps44 Z ?_;refine wO1 Z (o0a S Z ?_);intro g3 w3 S3 X3 G3;refine lO1 Z (m6a S3 R0a Z ?_);intro U0 A1 J0 p1 o1;refine lO1 Z ?_;refine t0b v5a (k:=0) (M2:=[]) J0 R0a Z (T1a.new (g:=U0)) Z Z ((hb.less (M':=[]) (by simp)).keep (J0.keep0 [])) (by simp;omega) Z ?_;intro z1 Gm q0 B1 f0 I0 q1 n1;rw[List.nil_append] at I0;have e0:=I0.toV;obtain⟨i0,G0,p0,rfl⟩:=e0.form;refine lO f0.k [.o 1,.o 1] Z ⟨Z,Z,U⟩ (r0a f0 A8b Z Z (h8a M _ _ _ C W 12 (hC.keep (f0.keep0 M)) (hW.keep (f0.keep0 M)) h hs) ?_);intro C1 j0 r1;refine lB1 Z (fun V0=>by exfalso;omega) fun V0=>?_;refine lO j0.k [.o 1] Z ⟨Z,U⟩ ?_;refine r0a j0 L7b Z Z ((h0b M _ _ W (hW.keep (j0.keep0 M)) h.wid (by have:=h.clen;omega)).mono (fun v w' h=>⟨h.1.trans (by rw[a0]),h.2⟩)) ?_;intro D1 Q0 s1;refine r0a Q0 E6a Z Z (S5a c0 _) ?_;intro E1 K0 t1;refine lOn 1 K0.k [] Z ⟨by omega,U⟩ (U4d Z Z Z ?_);rw[L0];refine B0a (hv:=Z) (v:=.int .i64 _) Z ?_;refine lC1 Z (wL (fun μk D ε w=>D=[]∧∃k:Nat,∃mi:Int,∃st:List Int,∃g0:LV,(k+μk=(C.length))∧(S4a Gm 1 32 g0 (.slice i0 G0 p0) (st.map (Value.int .i64)))∧(st.length=32)∧(∃m:Nat,mi=(m:Int)∧m<4096∧stZ (C.drop k) (W.drop k) m st=stZ C W n s)∧St [] w0 w [(Gm,3,g0),(some g3,89,[.slice A nc c,.slice A' nw c',i])]∧Sl ε [(1,.int .i64 mi),(3,.pointer (some ⟨g3,0,none⟩)),(7,.slice i0 G0 p0),(8,.int .i64 k)]) (μ:=(C.length)) ⟨Z,0,(n:Int),s,q0,by omega,O0▸e0,O0,⟨n,Z,by omega,Z⟩,K0,Z⟩ ?_);rintro μk D ε w ⟨rfl,k,mi,st,g0,_,N0,D0,he,S,eZ⟩;refine wK eZ ?_;obtain⟨m,rfl,hm,he⟩:=he;refine wB S.k [.o 1] Z ⟨Z,U⟩ (fun W0=>?_) fun W0=>?_
 ·obtain⟨y,R0,g1,_,P0,r0,_,_,u0,A0⟩:=RdS.get (hW) (k) (by omega);obtain⟨rfl,_⟩:=id A0;have X0:=h.wid y (c0a P0);obtain⟨y,rfl⟩:=Int.eq_ofNat_of_zero_le (show 0≤y by omega);have y1:=k9a X0;refine lO (S.k.a u0) [.o 1,.x R0 g1,.f 0 0] Z ⟨Z,⟨r0,by omega⟩,Z,U⟩ (r0a S E6a Z Z (S5a y _) ?_);intro F1 m0 u1;obtain⟨gm,pad,rfl,f1,rfl,b1⟩:=N0.pad (by omega);cases f1;obtain⟨x,S0,i1,_,F0,s0,_,_,v0,B0⟩:=RdS.get (hC) (k) (by omega);obtain⟨rfl,_⟩:=id B0;have v1:=h.cell x (c0a F0);have Z0:=o8b F0 P0 m st;have d0:(m:Int) % ((2 ^ y:Nat):Int)=((m % 2 ^ y:Nat):Int):=(Int.natCast_emod _ _).symm;have y0:(m:Int) / ((2 ^ y:Nat):Int)=((m / 2 ^ y:Nat):Int):=(Int.natCast_ediv _ _).symm;refine lB (m0.k.a v0) [.o 1,.x S0 i1,.f 0 0] Z ⟨Z,⟨s0,by omega⟩,Z,U⟩ (fun Y0=>?_) (fun Y0=>by exfalso;omega);refine lC1 Z (y0a b0a [0,1,2,3,4,5,6,7,8,9] [] [10] Z (Cl _ _ _ _) (Cl.start m0) ?_);obtain⟨_,T0,j1,_,E0,t0,_,_,x0,C0⟩:=RdS.get (hC) (k) (by omega);obtain rfl:=Option.some.inj (F0.symm.trans E0);obtain⟨rfl,_⟩:=id C0;refine qO (m0.q.a x0) [.o 1,.x T0 j1,.f 0 0] Z ⟨Z,⟨t0,by omega⟩,Z,U⟩ (g4d Z Z (by omega) (by omega) Z ?_);refine F0a R0a.slT Z (by rfl) Z Z ?_;refine lV Z ?_;rintro m1 ⟨n0,_⟩;refine X0a (kk:=0) n0 L1d Z Z Z (by(simp;omega)) ?_;intro H0 b0 o0;refine lO1 Z (R4d Z Z (by omega) (by omega) Z ?_);refine lP1 Z ⟨μk-1,by omega,Z,k+1,_,(st.set x.toNat ((m:Int) % ((2 ^ y:Nat):Int))),_,by omega,?_,?_,?_,b0,Z⟩
  ·have z:=S4a.ofPad (g:=gm) (l:=st.set x.toNat ((m % 2 ^ y:Nat):Int)) (pad:=pad) (by simpa using b1);rw[←v1c] at z;rw[d0];simpa[D0] using z
  ·simp[D0]
  ·rw[d0];exact⟨m / 2 ^ y,y0,Nat.lt_of_le_of_lt (Nat.div_le_self _ _) hm,by rw[←he,Z0];rfl⟩
 refine lR1 Z (w0a Z ?_);have z0:st=stZ C W n s:=by rw[←he,show C.drop k=[] from List.drop_eq_nil_of_le (by omega)];rfl
 have c1:d5a 3 w0 w (.slice i0 G0 p0) (stZ C W n s):=⟨Gm,g0,by rw[←z0,D0];exact N0,fun g hg=>by subst hg;exact⟨by simpa using S.new 0 Z,S.blk 0 Z⟩⟩;exact⟨fun M hM=>c1.rd hM (fun x hx=>by have:=y1b C W n s h.wid d1 x hx;unfold i64;omega) S.fin (by rw[a1b];omega),S.fin⟩
section
variable {P:Program} {r:Option Nat} {N:Nat} {D:List Deferred} {e:Env} {w:World} {ops:Array Oper} {rest:List Oper} {K:List Deferred→Env→World→Prop} {d:Nat} {t:TypeId} {p:String} {af:Array Edge} {x y:Operand} {a b:Int} {kd:IntKind} {ts:Array TypeId}
theorem q7c(hx:ev e x=.int kd a)(hy:ev e y=.int kd b)(hd:Nat.ble (d+1) N=true)(h:WL P r N ops rest K D (upd e d (.int kd (min a b))) w):
 WL P r N ops (⟨some d,.call { callee:=.builtin .min,args:=#[x,y],argTypes:=ts },t,p,af,none⟩::rest) K D e w:=by
 have h1:(if b<a then b else a)=min a b:=by rw[Int.min_def];split<;>split<;>omega
 exact U0a Z Z hd (by simp[execOp,resolve,invoke,builtin,run_min_int2,hx,hy,h1]) h
end
theorem U7a(p:List g1a)(C:List Int)(M:List Nat)(w0:World)(vc vl:Value)(hP:i0b M w0 vc p)(hC:RdI M w0 vl C)(hr:t1a C)(hc:∀c∈C,0≤c∧c<p.length)(hp:p.length≤32)(hw:∀c∈p,1≤c.w∧c.w≤8):
 A0a prog 73 #[vc,vl] w0 fun v w'=>(∃u,v=.tuple #[u,.bool true]∧X3a w0 w' u (wdL p C))∧Bw w0 w':=by
 obtain⟨Ap,np,cp,rfl⟩:=hP.form;obtain⟨_,-,_⟩:=hP.len;obtain⟨A,n,c,rfl⟩:=hC.form;obtain⟨_,-,_⟩:=hC.len;have ho:=j4a hr hc hp hw;have S0:=ho.clen;have T0:=Q2a ho.wid;have U0:(wdL p C).length=C.length:=ho.len;have C0:∀x∈wdL p C,i64 x:=fun x hx=>by have:=ho.wid x hx;unfold i64;omega
 have S:=St.refl w0;refine a0a func73 Z ntmps73 Z ?_;refine wO1 Z (q7c Z Z Z ?_);rw[show min (np:Int) 32=np by omega];refine r0a S J3c Z Z (x6b M _ _ C np (hC.keep (S.keep0 M)) hr (fun x hx=>by have:=hc x hx;omega)) ?_;intro W0 r0 N0;refine lO1 Z (m6a r0 R0a Z ?_);intro p0 X0 s0 O0 J0;refine B0a Z ?_;refine lC1 Z (wL (fun μk D ε w=>D=[]∧∃k:Nat,∃G:Option Nat,∃c0:LV,∃v:Value,(k+μk=(C.length))∧(T1a (fun _ _=>r9b) 1 [] w0 G c0 v (wdL p (C.take k)))∧St [] w0 w [(G,3,c0)]∧Sl ε [(0,.slice Ap np cp),(1,.slice A n c),(6,v),(7,.int .i64 k)]) (μ:=(C.length)) ⟨Z,0,some p0,[],.slice (some ⟨p0,0,none⟩) 0 0,by omega,T1a.new,s0,Z⟩ ?_);rintro μk D ε w ⟨rfl,k,G,c0,v,_,a0,S,eZ⟩;refine wK eZ (wB1 Z (fun A0=>?_) fun A0=>?_)
 ·refine lOn 8 S.k [] Z U (J0a Z ?_);obtain⟨x,x0,G0,_,q0,d0,_,_,f0,i0⟩:=RdS.get (hC) (k) (by omega);obtain⟨rfl,_⟩:=id i0;have E0:=hc x (c0a q0);obtain⟨_,y0,H0,_,F0,e0,_,_,g0,j0⟩:=RdS.get (hP) (x.toNat) (by omega);obtain⟨rfl,n0,_⟩:=P2a.open_ j0;have D0:=c5a (h0:=E0.1) F0;refine lO ((S.k.a g0).a f0) [.x x0 G0,.f 0 0,.x y0 H0,.f 1 1] Z ⟨Z,⟨e0,by omega⟩,Z,⟨d0,by omega⟩,U⟩ (k0a S R0a (vs:=[.int .i64 _]) (cs:=[_]) Z Z Z Z Z Z ?_);intro R0 Y0 o0 P0 K0;refine r1a v5a (k:=1) (M2:=[]) (e1:=wAt p x) o0 R0a Z a0 Z Z (o0.cells 0 Z) (by rw[D0];exact⟨Z,n0⟩) (by rw[List.length_map,List.length_take];omega) Z ?_;intro V0 L0 z0 Z0 t0 b0 Q0 I0;refine B0a Z ?_;refine lP1 Z ?_;refine⟨μk-1,by omega,Z,k+1,_,_,_,by omega,((by rw[u0a q0,wdL,List.map_append];exact b0)),t0.tail,Z⟩
 have a0:=(show C.take k=C by rw[List.take_of_length_le (by omega)])▸a0;have m0:X3a w0 w v (wdL p C):=fun M hM=>(T1a.newRow (k:=0) a0 S Z).rd hM C0 S.fin (by omega);obtain⟨_,_,_,rfl⟩:=m0.form;refine lOn 7 S.k [] Z U (J0a Z ?_);refine lOn 1 S.k [] Z U (J0a Z ?_);refine r0a S A8b Z Z (h8a [] _ _ _ C _ 256 ((hC.keep (S.keep0 M)).less (by simp)) (m0 [] (by simp)) ho (by omega)) ?_;intro a1 u0 v0;refine lB1 Z (fun B0=>?_) (fun B0=>by exfalso;omega);refine B0a Z ?_;exact lT1 Z Z ⟨⟨_,Z,m0.keep v0⟩,u0.fin⟩
theorem O9b(M:List Nat)(w0:World)(v u i:Value)(C W:List Int)(l:List (Int×Int))(a0:Nat)(hC:RdI M w0 v C)(hW:RdI M w0 u W)(hL:V7a M w0 i l)(h:V9a C W)(hb:c2a W=a0)(s1:a0≤6)(hl:∀x∈l,0≤x.1∧x.1<(2 ^ a0:Nat)∧0≤x.2∧x.2<(2 ^ a0:Nat))(f1:l.Pairwise lt2):
 A0a prog 35 #[.agg #[v,u,i]] w0 fun v w'=>v=.bool true∧Bw w0 w':=by
 obtain⟨A,n,c,rfl⟩:=hC.form;obtain⟨A',n',c',rfl⟩:=hW.form;obtain⟨Al,nl,cl,rfl⟩:=hL.form;obtain⟨_,-,_⟩:=hL.len;have r1:=h.clen;have d1:=h.len;have S:=St.refl w0;refine a0a func35 Z ntmps35 Z ?_;refine wO1 Z (o0a S Z ?_);intro g1 w1 S1 X1 G1;refine lO S1.k [.o 0,.o 0] Z ⟨Z,Z,U⟩ (r0a S1 A8b Z Z ((h8a M _ _ _ C W 6 (hC.keep (S1.keep0 M)) (hW.keep (S1.keep0 M)) h (by omega)).mono (fun v w' h=>⟨h.1.trans (by rw[hb]),h.2⟩)) ?_);intro u1 A0 p1;refine lB1 Z (fun T0=>by exfalso;omega) fun T0=>?_;refine lO1 Z (r0a A0 E6a Z Z (S5a a0 _) ?_);intro v1 B0 q1;refine lC1 Z (wL (fun μk D ε w=>D=[]∧∃k:Nat,(k+μk=(l.length))∧St [] w0 w [(some g1,41,[.slice A n c,.slice A' n' c',.slice Al nl cl])]∧Sl ε [(1,.pointer (some ⟨g1,0,none⟩)),(4,.int .i64 ((2 ^ a0:Nat):Int)),(5,.int .i64 k)]) (μ:=(l.length)) ⟨Z,0,by omega,B0,Z⟩ ?_);rintro μk D ε w ⟨rfl,k,_,S,eZ⟩;refine wK eZ (wB S.k [.o 0] Z ⟨Z,U⟩ (fun U0=>?_) fun U0=>?_)
 ·obtain⟨x,D0,i1,H0,y0,g0,_,o0,n0,p0⟩:=RdS.get (hL) (k) (by omega);obtain⟨L0,_⟩:=p0;obtain rfl:H0=[Value.int .i64 x.1,.int .i64 x.2]:=L0;have hx:=hl x (c0a y0);refine lO (S.k.a n0) [.o 0,.x D0 i1,.v 0] Z ⟨⟨Z,o0⟩,⟨g0,by omega⟩,Z,U⟩ (g0a S L9b Z Z ?_);intro g6 w6 S6 X6 G6;refine d0a (kk:=0) (vs:=[_,_]) S6 J6b Z Z Z Z Z Z Z ?_;intro o1 b0 C0;dsimp only[e0a,List.set] at b0;refine lC1 Z (y0a b0a [0,1,2,3,4,5,6,7,8,9,10,11,12,13,14,15,16,17,18,19,20,21,22,23,24,25,26,27,28,29,30,31,32,33,34,35,36,37,38,39,40,41,42,43,44,45,46,47,48,49,50,51,52,53,54,55,56,57,58,59] [] [] Z (Cl _ _ _ _) (Cl.start b0) ?_);refine v0a S1a Z Z Z ?_;refine j0a E0a Z (fun w1 hw=>by exact hw.1.cell 0 Z Z) Z ?_;refine qB1 Z (fun V0=>by exfalso;omega) fun V0=>?_;refine qO1 Z (v0a S1a Z Z Z ?_);refine qO1 Z (j0a E0a Z (fun w1 hw=>by exact hw.1.cell 0 Z Z) Z ?_);refine qB1 Z (fun W0=>by exfalso;omega) fun W0=>?_;refine qO1 Z (v0a S1a Z Z Z ?_);refine qO1 Z (j0a E0a Z (fun w1 hw=>by exact hw.1.cell 0 Z Z) Z ?_);refine qB1 Z (fun X0=>by exfalso;omega) fun X0=>?_;refine qO1 Z (v0a S1a Z Z Z ?_);refine qO1 Z (j0a E0a Z (fun w1 hw=>by exact hw.1.cell 0 Z Z) Z ?_);refine qB1 Z (fun Y0=>by exfalso;omega) fun Y0=>?_;refine qB1 Z (fun Z0=>?_) fun Z0=>?_
  ·refine qO1 Z (v0a S1a Z Z Z ?_);refine qO1 Z (j0a E0a Z (fun w1 hw=>by exact hw.1.cell 0 Z Z) Z ?_);obtain⟨y,E0,j1,I0,v0,i0,_,_,d0,q0⟩:=RdS.get (hL) (k-1) (by omega);obtain⟨N0,_⟩:=q0;obtain rfl:I0=[Value.int .i64 y.1,.int .i64 y.2]:=N0;have Q0:((k:Int)-1).toNat=k-1:=by omega
   rw[←Q0] at d0;have t1:=i8b f1 v0 y0;refine qO b0.q [.o 1,.x E0 j1] Z ⟨⟨i0,by omega⟩,by omega,Z,U⟩ (v0a S1a Z Z Z ?_);refine qO1 Z (j0a E0a Z (fun w1 hw=>by exact hw.1.old (d0 _ _ Z)) Z ?_);refine qB1 Z (fun a1=>by exfalso;omega) fun a1=>?_;refine qO1 Z (v0a S1a Z Z Z ?_);refine qO1 Z (j0a E0a Z (fun w1 hw=>by exact hw.1.cell 0 Z Z) Z ?_);obtain⟨_,F0,m1,J0,t0,j0,_,_,e0,r0⟩:=RdS.get (hL) (k-1) (by omega);obtain rfl:=Option.some.inj (v0.symm.trans t0);obtain⟨O0,_⟩:=r0;obtain rfl:J0=[Value.int .i64 y.1,.int .i64 y.2]:=O0;have R0:((k:Int)-1).toNat=k-1:=by omega
   rw[←R0] at e0;refine qO b0.q [.o 1,.x F0 m1] Z ⟨⟨j0,by omega⟩,by omega,Z,U⟩ (v0a S1a Z Z Z ?_);refine qO1 Z (j0a E0a Z (fun w1 hw=>by exact hw.1.old (e0 _ _ Z)) Z ?_);refine qB1 Z (fun b1=>?_) fun b1=>?_
   ·refine qO1 Z (v0a S1a Z Z Z ?_);refine qO1 Z (j0a E0a Z (fun w1 hw=>by exact hw.1.cell 0 Z Z) Z ?_);obtain⟨_,G0,n1,K0,u0,m0,_,_,f0,s0⟩:=RdS.get (hL) (k-1) (by omega);obtain rfl:=Option.some.inj (v0.symm.trans u0);obtain⟨P0,_⟩:=s0;obtain rfl:K0=[Value.int .i64 y.1,.int .i64 y.2]:=P0;have S0:((k:Int)-1).toNat=k-1:=by omega
    rw[←S0] at f0;refine qO b0.q [.o 1,.x G0 n1] Z ⟨⟨m0,by omega⟩,by omega,Z,U⟩ (v0a S1a Z Z Z ?_);refine qO1 Z (j0a E0a Z (fun w1 hw=>by exact hw.1.old (f0 _ _ Z)) Z ?_);refine qB1 Z (fun c1=>by exfalso;omega) fun c1=>?_;refine lV Z ?_;rintro z0 ⟨c0,x0⟩;refine lP1 Z ⟨μk-1,by omega,Z,k+1,by omega,c0.tail,Z⟩
   refine lV Z ?_;rintro z0 ⟨c0,x0⟩;refine lP1 Z ⟨μk-1,by omega,Z,k+1,by omega,c0.tail,Z⟩
  refine lV Z ?_;rintro z0 ⟨c0,x0⟩;refine lP1 Z ⟨μk-1,by omega,Z,k+1,by omega,c0.tail,Z⟩
 exact lU Z Z ⟨Z,S.fin⟩
def InD(a b:List (Int×Int))(i k:Nat):Prop:=∀x∈a.drop i,x∈b.drop k
theorem InD.skip{a b:List (Int×Int)}{i k:Nat}{x y:Int×Int}(ha:a.Pairwise lt2)(hb:b.Pairwise lt2)(h:InD a b i k)(hx:a[i]?=some x)(hy:b[k]?=some y)(d0:y≠x):InD a b i (k+1):=by
 obtain⟨h1,rfl⟩:=List.getElem?_eq_some_iff.1 hx;obtain⟨h2,rfl⟩:=List.getElem?_eq_some_iff.1 hy;have hd:=List.drop_eq_getElem_cons h2;have c0:=List.drop_eq_getElem_cons h1;have f0:a[i]∈b.drop (k+1):=by
  have:=h a[i] (c0▸List.mem_cons_self);rw[hd] at this;rcases List.mem_cons.1 this with h3|h3
  ·exact absurd h3.symm d0
  ·exact h3
 have b0:=hb.sublist (List.drop_sublist k b);rw[hd,List.pairwise_cons] at b0;have g0:=b0.1 _ f0;intro z hz;have e0:=h z hz;rw[hd] at e0;rcases List.mem_cons.1 e0 with h3|h3
 ·exfalso;subst h3;have a0:=ha.sublist (List.drop_sublist i a);rw[c0] at hz a0;rw[List.pairwise_cons] at a0;rcases List.mem_cons.1 hz with h4|h4
  ·exact d0 h4
  ·have:=a0.1 _ h4;unfold lt2 at *;omega
 ·exact h3
theorem InD.next{a b:List (Int×Int)}{i k:Nat}(h:InD a b i k):InD a b (i+1) k:=fun x hx=>h x (by
 rw[←List.drop_drop] at hx;exact List.mem_of_mem_drop hx)
theorem g5c{l:List E}{e:E}:e∈d2a l↔e∈l∧e.op≠1:=by unfold d2a;simp
theorem h0d{op:Int}(b0:op=5∨op=6){cells:List g1a}{a0:Bool}{a b:E}(ha:a.over cells a0=true)(hb:b.over cells a0=true):(jnE op a b).over cells a0=true:=by
 rw[E.over_def,Bool.and_eq_true];refine⟨decide_eq_true ⟨fun h=>?_,fun h=>?_⟩,(E.overs_iff _ _ _).2 fun k hk=>?_⟩
 ·simp only[jnE] at h;omega
 ·simp only[jnE] at h;omega
 ·simp only[jnE,List.mem_cons,List.not_mem_nil,or_false] at hk;rcases hk with rfl|rfl
  ·exact ha
  ·exact hb
theorem Q5b{op:Int}(b0:op=5∨op=6){cells:List g1a}{a0:Bool}:∀(es:List E) (acc:E),acc.over cells a0=true→(∀e∈es,e.over cells a0=true)→(es.foldl (jnE op) acc).over cells a0=true
 | [],_,h,_=>h
 | e::es,acc,h,hl=>Q5b b0 es _ (h0d b0 h (hl e (by simp))) fun x hx=>hl x (List.mem_cons_of_mem _ hx)
theorem m2b(w n:Int)(cells:List g1a)(a0:Bool):(⟨1,w,n,[]⟩:E).over cells a0=true:=by
 rw[E.over_def,Bool.and_eq_true];exact⟨decide_eq_true ⟨fun h=>by simp only at h;omega,fun h=>by simp only at h;omega⟩,Z⟩
theorem R3c(cells:List g1a)(a0:Bool):zE.over cells a0=true:=by
 rw[E.over_def,Bool.and_eq_true];exact⟨decide_eq_true ⟨fun h=>by simp only[zE] at h;omega,fun h=>by simp only[zE] at h;omega⟩,Z⟩
theorem s9a{op unit:Int}(c0:op=5∨op=6){cells:List g1a}{a0:Bool}{l:List E}(h:∀e∈l,e.over cells a0=true):(u3a op unit l).over cells a0=true:=by
 unfold u3a
 split
 ·split
  ·exact m2b _ _ _ _
  ·split
   ·have hk:∀e∈d2a l,e.over cells a0=true:=fun e he=>h e (g5c.1 he).1;cases b0:d2a l with
    | nil=>exact m2b _ _ _ _
    | cons e es=>rw[b0] at hk;exact Q5b c0 es e (hk e (by simp)) fun x hx=>hk x (List.mem_cons_of_mem _ hx)
   ·exact R3c _ _
 ·exact R3c _ _
theorem L4b{p:m0a}{c:Int}(hc:0≤c∧c<p.cells.length):(g5a p c).over p.cells true=true:=by
 rw[E.over_def,Bool.and_eq_true];refine⟨decide_eq_true ⟨fun _=>rfl,fun h=>by simp only[g5a] at h;omega⟩,(E.overs_iff _ _ _).2 fun k hk=>?_⟩;simp only[g5a,List.mem_cons,List.not_mem_nil,or_false] at hk;rcases hk with rfl|rfl<;>rw[E.over_def,Bool.and_eq_true]
 ·exact⟨decide_eq_true ⟨fun _=>rfl,fun _=>⟨hc.2,Z⟩⟩,Z⟩
 ·exact⟨decide_eq_true ⟨fun _=>rfl,fun _=>⟨hc.2,Z⟩⟩,Z⟩
theorem K3c{p:m0a}{m:Int}(h:0≤m∧m<p.modules.length):∃md,p.modules[m.toNat]?=some md∧w2d p m.toNat=md:=by
 have h1:m.toNat<p.modules.length:=by omega
 refine⟨p.modules[m.toNat],List.getElem?_eq_getElem h1,?_⟩;unfold w2d;rw[List.getD_eq_getElem?_getD,List.getElem?_eq_getElem h1];rfl
theorem e2c{p:m0a}(hp:W0a p){m:Int}(h:0≤m∧m<p.modules.length):(c4a p m).over p.cells true=true:=by
 obtain⟨md,hm,he⟩:=K3c h;unfold c4a j5b;rw[he];refine s9a (.inl Z) fun e hx=>?_;rcases List.mem_cons.1 hx with rfl|hx
 ·exact(h2a (hp.modules md (List.mem_of_getElem? hm)).guar.1).2.2
 ·obtain⟨_,hc,rfl⟩:=List.mem_map.1 hx;have:=e9a.1 (List.mem_filter.1 hc).1;exact L4b ⟨this.1,this.2.1⟩
theorem I0d{p:m0a}(hp:W0a p)(t:Nat):(onE p t).over p.cells true=true:=by
 refine s9a (.inl Z) fun e hx=>?_;rcases List.mem_cons.1 hx with rfl|hx
 ·refine s9a (.inr Z) fun e hx=>?_;obtain⟨_,hm,rfl⟩:=List.mem_map.1 hx;exact e2c hp (z9a hm)
 ·obtain⟨_,hc,rfl⟩:=List.mem_map.1 hx;have:=e9a.1 hc;exact L4b ⟨this.1,this.2.1⟩
theorem o8a{p:m0a}(hp:W0a p){t:Nat}(h:onE p t≠zE):(onE p t).valid p.cells true=true:=by
 rcases v7a (op:=5) (unit:=1) (.inr Z) (T8a p t::(ofL p t).map (g5a p)) with h1|h1
 ·exact absurd h1 h
 ·unfold E.valid;rw[Bool.and_eq_true];exact⟨h1.1,I0d hp t⟩
theorem d5c{p:m0a}(hp:W0a p){c:Int}(hc:0≤c∧c<p.cells.length):1≤wAt p.cells c∧wAt p.cells c≤8:=U1c hc fun c h=>(hp.cells c h).w
def f6a(C:List Int)(n:Nat):Prop:=C.Pairwise (·<·)∧∀c∈C,0≤c∧c<n
theorem f6a.tail{c:Int}{C:List Int}{n:Nat}(h:f6a (c::C) n):f6a C n:=⟨(List.pairwise_cons.1 h.1).2,fun x hx=>h.2 x (List.mem_cons_of_mem _ hx)⟩
theorem f6a.ne{c:Int}{C:List Int}{n:Nat}(h:f6a (c::C) n):∀x∈C,x.toNat≠c.toNat:=fun x hx=>by
 have h1:=(List.pairwise_cons.1 h.1).1 x hx;have h2:=h.2 c (by simp);omega
theorem Z1c(x:D1a)(M:List Nat)(w0:World)(ts:LV)(hT:Z0a M w0 ts x):
 A0a prog 50 #[.agg ts.toArray] w0 fun v w'=>(∃b,v=.bool b∧(b=true→True))∧Bw w0 w':=by
 obtain⟨Aa,na,ca,Am,nm,cm,As,ns,cn,Al,nl,cl,rfl,-,u1,_,e0,S0,_⟩:=Z0a.open_ hT;have S:=St.refl w0;refine a0a func50 Z ntmps50 Z ?_;refine wO1 Z (o0a S Z ?_);intro g1 w1 S1 X1 G1;refine lC1 Z (wL (fun μk D ε w=>D=[]∧∃k:Nat,(k+μk=(x.steps.length))∧St [] w0 w [(some g1,64,[.string x.name,.int .i64 x.points,.slice Aa na ca,.slice Am nm cm,.slice As ns cn,.slice Al nl cl,.bool x.asleep])]∧Sl ε [(1,.pointer (some ⟨g1,0,none⟩)),(3,.int .i64 k)]) (μ:=(x.steps.length)) ⟨Z,0,by omega,S1,Z⟩ ?_);rintro μk D ε w ⟨rfl,k,hk,S,eZ⟩;refine wK eZ (wB S.k [.o 0] Z ⟨Z,U⟩ (fun i1=>?_) fun i1=>?_)
 ·obtain⟨s,X0,x1,_,R0,i0,_,_,v0,F0⟩:=RdS.get (e0) (k) (by omega);obtain⟨_,_,_,_,_,_,rfl,⟨_,_⟩,u0,_⟩:=n2a.open_ F0;refine lO (S.k.a v0) [.o 0,.x X0 x1,.f 0 3] Z ⟨Z,⟨i0,by omega⟩,Z,U⟩ (i0a S L0b Z Z (g6a s.guard M _ _ _ (RdE.keep (S.keep0 M) _ _ u0)) (fun j1 F1 b0 T0=>?_) (fun j1 F1 b0 T0=>?_))
  ·obtain⟨_,Y0,y1,_,N0,j0,_,_,x0,G0⟩:=RdS.get (e0) (k) (by omega);obtain rfl:=Option.some.inj (R0.symm.trans N0);obtain⟨_,_,_,_,_,_,rfl,⟨_,_⟩,_⟩:=n2a.open_ G0;refine lB (b0.k.a x0) [.o 0,.x Y0 y1,.f 0 7] Z ⟨Z,⟨j0,by omega⟩,Z,U⟩ (fun m1=>?_) fun m1=>?_
   ·exact lU Z Z ⟨⟨_,Z,fun _=>trivial⟩,b0.fin⟩
   refine lC1 Z (wL (fun μj D ε w=>D=[]∧∃j:Nat,(j+μj=(s.set.length))∧St [] w0 w [(some g1,64,[.string x.name,.int .i64 x.points,.slice Aa na ca,.slice Am nm cm,.slice As ns cn,.slice Al nl cl,.bool x.asleep])]∧Sl ε [(1,.pointer (some ⟨g1,0,none⟩)),(3,.int .i64 k),(4,.int .i64 j)]) (μ:=(s.set.length)) ⟨Z,0,by omega,b0,Z⟩ ?_);rintro μj D ε w ⟨rfl,j,_,S,eZ⟩;refine wK eZ ?_;obtain⟨_,Z0,z1,_,O0,m0,_,_,y0,H0⟩:=RdS.get (e0) (k) (by omega);obtain rfl:=Option.some.inj (R0.symm.trans O0);obtain⟨_,_,_,_,_,_,rfl,⟨_,_⟩,_⟩:=n2a.open_ H0;refine wB (S.k.a y0) [.o 0,.x Z0 z1,.f 0 7] Z ⟨Z,⟨m0,by omega⟩,Z,U⟩ (fun n1=>?_) fun n1=>?_
   ·obtain⟨_,a1,A1,_,P0,n0,_,_,z0,I0⟩:=RdS.get (e0) (k) (by omega);obtain rfl:=Option.some.inj (R0.symm.trans P0);obtain⟨_,_,_,_,_,_,rfl,⟨_,_⟩,_,a0,_⟩:=n2a.open_ I0;obtain⟨a,b1,B1,_,_,o0,_,_,A0,J0⟩:=RdS.get (a0) (j) (by omega);obtain⟨_,_,_,rfl,_,s0⟩:=V0a.open_ J0;refine lO ((S.k.a A0).a z0) [.o 0,.x a1 A1,.f 0 7,.x b1 B1,.f 1 1] Z ⟨Z,⟨o0,by omega⟩,Z,⟨n0,by omega⟩,Z,U⟩ (i0a S L0b Z Z (g6a a.to M _ _ _ (RdE.keep (S.keep0 M) _ _ s0)) (fun o1 H1 f0 U0=>?_) (fun o1 H1 f0 U0=>?_))
    ·refine lP1 Z ⟨μj-1,by omega,Z,j+1,by omega,f0,Z⟩
    exact lU Z Z ⟨⟨_,Z,fun _=>trivial⟩,f0.fin⟩
   refine lP1 Z ⟨μk-1,by omega,Z,k+1,by omega,S,Z⟩
  exact lU Z Z ⟨⟨_,Z,fun _=>trivial⟩,b0.fin⟩
 refine lC1 Z (wL (fun μk D ε w=>D=[]∧∃k:Nat,(k+μk=(x.asserts.length))∧St [] w0 w [(some g1,64,[.string x.name,.int .i64 x.points,.slice Aa na ca,.slice Am nm cm,.slice As ns cn,.slice Al nl cl,.bool x.asleep])]∧Sl ε [(1,.pointer (some ⟨g1,0,none⟩)),(5,.int .i64 k)]) (μ:=(x.asserts.length)) ⟨Z,0,by omega,S,Z⟩ ?_);rintro μk D ε w ⟨rfl,k,hk,S,eZ⟩;refine wK eZ (wB S.k [.o 0] Z ⟨Z,U⟩ (fun p1=>?_) fun p1=>?_)
 ·obtain⟨e,c1,C1,_,_,p0,_,E0,B0,d0⟩:=RdS.get (u1) (k) (by omega);obtain⟨_,_,_,rfl,_⟩:=RdE.cells d0;refine lO (S.k.a B0) [.o 0,.x c1 C1,.v 0] Z ⟨⟨Z,E0⟩,⟨p0,by omega⟩,Z,U⟩ (i0a S L0b Z Z (g6a e M _ _ _ (RdE.keep (S.keep0 M) _ _ d0)) (fun q1 I1 g0 V0=>?_) (fun q1 I1 g0 V0=>?_))
  ·refine lP1 Z ⟨μk-1,by omega,Z,k+1,by omega,g0,Z⟩
  exact lU Z Z ⟨⟨_,Z,fun _=>trivial⟩,g0.fin⟩
 refine lC1 Z (wL (fun μk D ε w=>D=[]∧∃k:Nat,(k+μk=(x.loops.length))∧St [] w0 w [(some g1,64,[.string x.name,.int .i64 x.points,.slice Aa na ca,.slice Am nm cm,.slice As ns cn,.slice Al nl cl,.bool x.asleep])]∧Sl ε [(1,.pointer (some ⟨g1,0,none⟩)),(6,.int .i64 k)]) (μ:=(x.loops.length)) ⟨Z,0,by omega,S,Z⟩ ?_);rintro μk D ε w ⟨rfl,k,hk,S,eZ⟩;refine wK eZ (wB S.k [.o 0] Z ⟨Z,U⟩ (fun r1=>?_) fun r1=>?_)
 ·obtain⟨o,d1,D1,_,v1,q0,_,_,C0,K0⟩:=RdS.get (S0) (k) (by omega);obtain⟨_,_,_,_,_,_,rfl,_,_,t0,_⟩:=H5a.open_ K0;refine lO (S.k.a C0) [.o 0,.x d1 D1,.f 0 2] Z ⟨Z,⟨q0,by omega⟩,Z,U⟩ (i0a S L0b Z Z (g6a o.variant M _ _ _ (RdE.keep (S.keep0 M) _ _ t0)) (fun s1 J1 c0 W0=>?_) (fun s1 J1 c0 W0=>?_))
  ·obtain⟨_,f1,E1,_,Q0,r0,_,_,D0,L0⟩:=RdS.get (S0) (k) (by omega);obtain rfl:=Option.some.inj (v1.symm.trans Q0);obtain⟨_,_,_,_,_,_,rfl,_⟩:=H5a.open_ L0;refine lB (c0.k.a D0) [.o 0,.x f1 E1,.f 0 1] Z ⟨Z,⟨r0,by omega⟩,Z,U⟩ (fun t1=>?_) fun t1=>?_
   ·exact lU Z Z ⟨⟨_,Z,fun _=>trivial⟩,c0.fin⟩
   refine lP1 Z ⟨μk-1,by omega,Z,k+1,by omega,c0,Z⟩
  exact lU Z Z ⟨⟨_,Z,fun _=>trivial⟩,c0.fin⟩
 exact lU Z Z ⟨⟨_,Z,fun _=>trivial⟩,S.fin⟩
theorem P5c(p:m0a)(M:List Nat)(w0:World)(cs:LV)(hP:e1a M w0 p cs):
 A0a prog 11 #[.agg cs.toArray] w0 fun v w'=>(∃b,v=.bool b∧(b=true→True))∧Bw w0 w':=by
 obtain⟨Ac,nc,cc,Am,nm,cm,Al,nl,cl,At,nt,ct,rfl,_,D0,o1,p1,_⟩:=hP.open_;have S:=St.refl w0;refine a0a func11 Z ntmps11 Z ?_;refine wO1 Z (o0a S Z ?_);intro g1 w1 S1 X1 G1;refine lB S1.k [.o 0] Z ⟨Z,U⟩ (fun X0=>?_) fun X0=>?_
 ·exact lU Z Z ⟨⟨_,Z,fun _=>trivial⟩,S1.fin⟩
 refine lB S1.k [.o 0] Z ⟨Z,U⟩ (fun Y0=>?_) fun Y0=>?_
 ·exact lU Z Z ⟨⟨_,Z,fun _=>trivial⟩,S1.fin⟩
 refine lB S1.k [.o 0] Z ⟨Z,U⟩ (fun Z0=>?_) fun Z0=>?_
 ·exact lU Z Z ⟨⟨_,Z,fun _=>trivial⟩,S1.fin⟩
 refine lB S1.k [.o 0] Z ⟨Z,U⟩ (fun a1=>?_) fun a1=>?_
 ·exact lU Z Z ⟨⟨_,Z,fun _=>trivial⟩,S1.fin⟩
 refine lC1 Z (wL (fun μk D ε w=>D=[]∧∃k:Nat,∃n:Int,(k+μk=(p.threads.length))∧(0≤n∧n≤24)∧St [] w0 w [(some g1,27,pL Ac nc cc Am nm cm Al nl cl At nt ct)]∧Sl ε [(1,.pointer (some ⟨g1,0,none⟩)),(3,.int .i64 n),(4,.int .i64 k)]) (μ:=(p.threads.length)) ⟨Z,0,0,by omega,by omega,S1,Z⟩ ?_);rintro μk D ε w ⟨rfl,k,n,hk,_,S,eZ⟩;refine wK eZ (wB S.k [.o 0] Z ⟨Z,U⟩ (fun b1=>?_) fun b1=>?_)
 ·obtain⟨th,U0,q1,_,_,z0,_,I0,F0,o0⟩:=RdS.get (p1) (k) (by omega);obtain⟨_,_,_,_,_,_,_,_,_,_,_,_,rfl,_⟩:=Z0a.open_ o0;refine lO (S.k.a F0) [.o 0,.x U0 q1,.v 0] Z ⟨⟨Z,I0⟩,⟨z0,by omega⟩,Z,U⟩ (g0a S M1b Z Z ?_);intro g5 w5 S5 X5 G5;refine d0a (kk:=0) (vs:=[_,_,_,_,_,_,_]) S5 I1b Z Z Z Z Z Z Z ?_;intro u1 a0 R0;dsimp only[e0a,List.set] at a0;refine lB a0.k [.o 0] Z ⟨by omega,Z,U⟩ (fun c1=>?_) fun c1=>?_
  ·exact lU Z Z ⟨⟨_,Z,fun _=>trivial⟩,a0.fin⟩
  refine lB a0.k [.o 0] Z ⟨Z,U⟩ (fun d1=>?_) fun d1=>?_
  ·exact lU Z Z ⟨⟨_,Z,fun _=>trivial⟩,a0.fin⟩
  refine lB a0.k [.o 0] Z ⟨Z,U⟩ (fun f1=>?_) fun f1=>?_
  ·exact lU Z Z ⟨⟨_,Z,fun _=>trivial⟩,a0.fin⟩
  refine lB a0.k [.o 0] Z ⟨Z,U⟩ (fun i1=>?_) fun i1=>?_
  ·exact lU Z Z ⟨⟨_,Z,fun _=>trivial⟩,a0.fin⟩
  refine lO a0.k [.w 0] Z ⟨⟨Z,Z⟩,U⟩ (C0c a0 i2d Z Z (Z1c th M _ _ (Z0a.keep (a0.keep0 M) _ _ o0)) (fun y1 t1 r0 Q0=>?_) (fun t1 r0 Q0=>?_))
  ·refine lP1 Z ⟨μk-1,by omega,Z,k+1,_,by omega,by omega,r0.tail,Z⟩
  exact lU Z Z ⟨⟨_,Z,fun _=>trivial⟩,r0.fin⟩
 refine lC1 Z (wL (fun μk D ε w=>D=[]∧∃k:Nat,(k+μk=(p.modules.length))∧St [] w0 w [(some g1,27,pL Ac nc cc Am nm cm Al nl cl At nt ct)]∧Sl ε [(1,.pointer (some ⟨g1,0,none⟩)),(6,.int .i64 k)]) (μ:=(p.modules.length)) ⟨Z,0,by omega,S,Z⟩ ?_);rintro μk D ε w ⟨rfl,k,hk,S,eZ⟩;refine wK eZ (wB S.k [.o 0] Z ⟨Z,U⟩ (fun j1=>?_) fun j1=>?_)
 ·obtain⟨mo,V0,r1,_,q0,A0,_,_,G0,J0⟩:=RdS.get (D0) (k) (by omega);obtain⟨_,_,_,_,_,_,_,_,_,rfl,E0,_⟩:=f1a.open_ J0;refine lO (S.k.a G0) [.o 0,.x V0 r1,.f 0 2] Z ⟨Z,⟨A0,by omega⟩,Z,U⟩ (i0a S L0b Z Z (g6a mo.rely M _ _ _ (RdE.keep (S.keep0 M) _ _ E0)) (fun m1 v1 c0 S0=>?_) (fun m1 v1 c0 S0=>?_))
  ·obtain⟨_,W0,s1,_,L0,B0,_,_,H0,K0⟩:=RdS.get (D0) (k) (by omega);obtain rfl:=Option.some.inj (q0.symm.trans L0);obtain⟨_,_,_,_,_,_,_,_,_,rfl,_,C0,_⟩:=f1a.open_ K0;refine lO (c0.k.a H0) [.o 0,.x W0 s1,.f 0 6] Z ⟨Z,⟨B0,by omega⟩,Z,U⟩ (i0a c0 L0b Z Z (g6a mo.guar M _ _ _ (RdE.keep (c0.keep0 M) _ _ C0)) (fun n1 x1 d0 T0=>?_) (fun n1 x1 d0 T0=>?_))
   ·obtain⟨_,t0,N0,_,p0,e0,_,_,i0,m0⟩:=RdS.get (D0) (k) (by omega);obtain rfl:=Option.some.inj (q0.symm.trans p0);obtain⟨_,_,_,_,_,_,_,_,_,rfl,_⟩:=f1a.open_ m0;refine lB (d0.k.a i0) [.o 0,.x t0 N0,.f 0 10] Z ⟨Z,⟨e0,by omega⟩,Z,U⟩ (fun v0=>?_) fun v0=>?_
    ·exact lU Z Z ⟨⟨_,Z,fun _=>trivial⟩,d0.fin⟩
    refine lP1 Z ⟨μk-1,by omega,Z,k+1,by omega,d0,Z⟩
   exact lU Z Z ⟨⟨_,Z,fun _=>trivial⟩,d0.fin⟩
  exact lU Z Z ⟨⟨_,Z,fun _=>trivial⟩,c0.fin⟩
 refine lC1 Z (wL (fun μk D ε w=>D=[]∧∃k:Nat,(k+μk=(p.locks.length))∧St [] w0 w [(some g1,27,pL Ac nc cc Am nm cm Al nl cl At nt ct)]∧Sl ε [(1,.pointer (some ⟨g1,0,none⟩)),(7,.int .i64 k)]) (μ:=(p.locks.length)) ⟨Z,0,by omega,S,Z⟩ ?_);rintro μk D ε w ⟨rfl,k,hk,S,eZ⟩;refine wK eZ (wB S.k [.o 0] Z ⟨Z,U⟩ (fun x0=>?_) fun x0=>?_)
 ·obtain⟨lk,u0,O0,_,_,f0,_,_,j0,n0⟩:=RdS.get (o1) (k) (by omega);obtain⟨_,_,_,rfl,_,_,g0⟩:=X5a.open_ n0;refine lO (S.k.a j0) [.o 0,.x u0 O0,.f 0 1] Z ⟨Z,⟨f0,by omega⟩,Z,U⟩ (i0a S L0b Z Z (g6a lk.inv M _ _ _ (RdE.keep (S.keep0 M) _ _ g0)) (fun y0 P0 b0 s0=>?_) (fun y0 P0 b0 s0=>?_))
  ·refine lP1 Z ⟨μk-1,by omega,Z,k+1,by omega,b0,Z⟩
  exact lU Z Z ⟨⟨_,Z,fun _=>trivial⟩,b0.fin⟩
 exact lU Z Z ⟨⟨_,Z,fun _=>trivial⟩,S.fin⟩
def moreW(p:m0a)(t:Nat)(l:List Int)(k:Nat):Int:=c2a (((List.range k).filter fun(c:Nat)=>!decide ((c:Int)∈l)&&(decide ((c:Int)∈(onE p t).sup 3)||decide ((c:Int)∈(onE p t).sup 2))).map fun(c:Nat)=>wAt p.cells (c:Int))
theorem M9b(p:m0a)(t:Nat)(l:List Int)(k:Nat):moreW p t l (k+1)=if(k:Int)∉l∧((k:Int)∈(onE p t).sup 3∨(k:Int)∈(onE p t).sup 2) then moreW p t l k+wAt p.cells k else moreW p t l k:=by
 unfold moreW;rw[List.range_succ,List.filter_append,List.map_append,j6a];by_cases h:(k:Int)∉l∧((k:Int)∈(onE p t).sup 3∨(k:Int)∈(onE p t).sup 2)
 ·rw[if_pos h,List.filter_cons_of_pos (by simpa using h)];simp[c2a]
 ·rw[if_neg h,List.filter_cons_of_neg (by simpa using h)];simp[c2a]
theorem E0b{p:m0a}(hp:W0a p)(t:Nat)(l:List Int):∀k,k≤p.cells.length→0≤moreW p t l k∧moreW p t l k≤8*k
 | 0,_=>by simp[moreW,c2a]
 | k+1,h=>by
   have ih:=E0b hp t l k (by omega);have hw:=U1c (p:=p.cells) (c:=(k:Int)) (by omega) fun c hc=>(hp.cells c hc).w;rw[M9b]
   split<;>omega
def u1b(p:m0a)(t:Nat)(l:List Int):Prop:=onE p t≠zE∧c2a (wdL p.cells l)+moreW p t l p.cells.length≤6
theorem R8b{p:m0a}{e:E}(hv:e.valid p.cells true=true)(hw:e.w=1)(o n:List Int):(e.evl o n=1↔e.val o n=1)∧(e.evl o n≠0↔e.val o n=1):=by
 have h1:=(h2a hv).1;have he:e.evl o n=e.val o n:=by unfold E.evl;rw[if_pos h1]
 have hr:=y0b (h2a hv).2.1 o n;rw[hw] at hr;have h2:H3a (1:Int).toNat=2:=by decide
 rw[he];constructor<;>omega
theorem Y3c{op unit:Int}(hu:unit=0∨unit=1){l:List E}(h:u3a op unit l≠zE):(u3a op unit l).w=1:=by
 rcases v7a (op:=op) hu l with h1|h1
 ·exact absurd h1 h
 ·exact h1.2
def q3b(p:List g1a)(P:Nat→Bool)(n:Nat):Int:=c2a (((List.range n).filter P).map fun(c:Nat)=>wAt p (c:Int))
theorem o9a(p:List g1a)(P:Nat→Bool)(n:Nat):q3b p P (n+1)=q3b p P n+if P n=true then wAt p n else 0:=by
 unfold q3b;rw[List.range_succ,List.filter_append,List.map_append,j6a];by_cases h:P n=true
 ·rw[if_pos h,List.filter_cons_of_pos h];simp[c2a]
 ·rw[if_neg h,List.filter_cons_of_neg h];simp[c2a]
theorem A0b{p:List g1a}{P Q R:Nat→Bool}:∀n,(∀k,k<n→(P k=true↔Q k=true∨R k=true)∧¬(Q k=true∧R k=true))→q3b p P n=q3b p Q n+q3b p R n
 | 0,_=>by simp[q3b,c2a]
 | n+1,h=>by
   rw[o9a,o9a,o9a,A0b n fun k hk=>h k (by omega)];have h1:=h n (by omega);by_cases hq:Q n=true
   ·rw[if_pos hq,if_pos (h1.1.2 (.inl hq)),if_neg fun hr=>h1.2 ⟨hq,hr⟩];omega
   ·by_cases hr:R n=true
    ·rw[if_neg hq,if_pos (h1.1.2 (.inr hr)),if_pos hr];omega
    ·rw[if_neg hq,if_neg fun hP=>(h1.1.1 hP).elim hq hr,if_neg hr];omega
theorem H0c{p:List g1a}{C:List Int}{n:Nat}(h:f6a C n):c2a (wdL p C)=q3b p (fun k=>decide ((k:Int)∈C)) n:=by
 have e:C=((List.range n).filter fun(k:Nat)=>decide ((k:Int)∈C)).map Int.ofNat:=by
  refine J4a _ _ h.1 ?_ fun x=>?_
  ·rw[List.pairwise_map];exact((List.pairwise_lt_range (n:=n)).sublist List.filter_sublist).imp fun h=>Int.ofNat_lt.2 h
  ·simp only[List.mem_map,List.mem_filter,List.mem_range,decide_eq_true_eq];constructor
   ·intro hx;have h1:=h.2 x hx;obtain⟨k,rfl⟩:=Int.eq_ofNat_of_zero_le h1.1;exact⟨k,⟨by omega,hx⟩,Z⟩
   ·rintro⟨k,⟨-,hk⟩,rfl⟩;exact hk
 unfold q3b
 conv=>lhs;rw[e]
 show c2a ((_:List Int).map (wAt p))=_
 rw[List.map_map];rfl
theorem o7c{p:m0a}{e:E}(hv:e.valid p.cells true=true){op:Int}(a0:op=2∨op=3){x:Int}(hx:x∈e.sup op):0≤x∧x<p.cells.length:=by
 obtain⟨h1,hg,b0⟩:=h2a hv;have:=I5a a0 e 40 hg b0 x ((N7a h1 a0 x).1 hx).2.2;omega
section
variable {p:m0a} (hp:W0a p) {t:Nat} {l:List Int} (hr:t1a l) (hlc:∀c∈l,0≤c∧c<p.cells.length)
theorem a4a{x:Int}:x∈allC p t l↔x∈l∨x∈(onE p t).sup 3∨x∈(onE p t).sup 2:=by
 have h:=(h6a (l++(onE p t).sup 3) ((onE p t).sup 2)).2 x;rw[List.mem_append,or_assoc] at h;exact h
include hp hlc in
theorem v8b(hon:onE p t≠zE):f6a (allC p t l) p.cells.length:=by
 have h:=(h6a (l++(onE p t).sup 3) ((onE p t).sup 2)).1;refine⟨h,fun c hc=>?_⟩;have hv:=o8a hp hon;rcases a4a.1 hc with h1|h1|h1
 ·exact hlc c h1
 ·exact o7c hv (.inr rfl) h1
 ·exact o7c hv (.inl rfl) h1
include hp hr hlc in
theorem C1c(hon:onE p t≠zE):c2a (wdL p.cells (allC p t l))=c2a (wdL p.cells l)+moreW p t l p.cells.length:=by
 rw[H0c (v8b hp hlc hon),H0c (C:=l) ⟨hr,hlc⟩];refine A0b _ fun k _=>?_;simp only[decide_eq_true_eq,Bool.and_eq_true,Bool.or_eq_true,Bool.not_eq_true',decide_eq_false_iff_not];rw[a4a];constructor
 ·constructor
  ·rintro(h|h)
   ·exact .inl h
   ·by_cases hl:(k:Int)∈l
    ·exact .inl hl
    ·exact .inr ⟨hl,h⟩
  ·rintro(h|h)
   ·exact .inl h
   ·exact .inr h.2
 ·rintro⟨h1,h2⟩;exact h2.1 h1
include hp in
theorem c2d{C:List Int}{n:Nat}(hn:n≤p.cells.length)(h:f6a C n):∀c∈C,1≤wAt p.cells c∧wAt p.cells c≤8:=fun c hc=>d5c hp (by have:=h.2 c hc;omega)
include hp in
theorem e5d{C:List Int}{n:Nat}(hn:n≤p.cells.length)(h:f6a C n):∀x∈wdL p.cells C,1≤x∧x≤8:=fun x hx=>by
 obtain⟨c,hc,rfl⟩:=List.mem_map.1 hx;exact c2d hp hn h c hc
def m7a(p:m0a)(l:List Int):Nat:=(c2a (wdL p.cells l)).toNat
include hp hr hlc in
theorem t9b(h:u1b p t l):c2a (wdL p.cells l)=m7a p l∧m7a p l≤6∧c2a (wdL p.cells (allC p t l))=m7a p (allC p t l)∧m7a p (allC p t l)≤6:=by
 have h1:=Q2a (e5d hp (Nat.le_refl _) (C:=l) ⟨hr,hlc⟩);have h2:=Q2a (e5d hp (Nat.le_refl _) (v8b (t:=t) hp hlc h.1));have h3:=C1c hp hr hlc h.1;have h4:=h.2;have h5:=E0b hp t l p.cells.length (Nat.le_refl _);unfold m7a;omega
end
def e7c(n:Nat)(f:Nat→Nat→Bool):List (List Bool):=(List.range n).map fun x=>(List.range n).map (f x)
theorem j3b{n:Nat}{f:Nat→Nat→Bool}{x:Nat}(h:x<n:=by omega):(e7c n f)[x]?=some ((List.range n).map (f x)):=by
 unfold e7c;rw[List.getElem?_map,List.getElem?_range h];rfl
theorem J8b{n:Nat}{g:Nat→Bool}{y:Nat}(h:y<n:=by omega):((List.range n).map g)[y]?=some (g y):=by
 rw[List.getElem?_map,List.getElem?_range h];rfl
theorem St.pushR{M:List Nat}{w0 w:World}{a b:Ent}{a0:List Ent}(S:St M w0 w (a::b::a0)):St M w0 w ([b]++(a0++[a])) :=
 S.perm ((List.Perm.swap b a a0).trans ((List.perm_append_comm (l₁:=[a]) (l₂:=a0)).cons b))
def C3b(n:Nat)(g:Nat→Bool):LV:=bV ((List.range n).map g)
theorem v8a(n:Nat)(g:Nat→Bool):(C3b n g).length=n:=by simp[C3b,bV]
theorem y2c(n:Nat):List.replicate n (Value.bool false)=C3b n fun _=>false:=by
 unfold C3b bV;rw[List.map_map];refine List.ext_getElem? fun i=>?_;rw[List.getElem?_map,List.getElem?_replicate];by_cases h:i<n
 ·rw[if_pos h,List.getElem?_range h];rfl
 ·rw[if_neg h,List.getElem?_eq_none (by simp;omega)];rfl
theorem o5c{n y:Nat}{g:Nat→Bool}:(C3b n g).set y (.bool true)=C3b n fun z=>g z||decide (z=y):=by
 unfold C3b bV;refine List.ext_getElem? fun i=>?_;rw[List.getElem?_set];by_cases h:i<n
 ·by_cases hy:y=i
  ·subst hy;simp[h]
  ·simp[h,hy];cases g i<;>simp;exact fun hh=>hy hh.symm
 ·simp[h];omega
def U9a(tB n:Nat)(rows:List Ent)(vs:LV)(f:Nat→Nat→Bool)(k:Nat):Prop:=rows.length=k∧vs.length=n∧∀x,x<k→∃g,rows[x]?=some (some g,tB,C3b n (f x))∧vs[x]?=some (.slice (some ⟨g,0,none⟩) n n)
theorem U9a.nil{tB n:Nat}{z:Value}:U9a tB n [] (List.replicate n z) (fun _ _=>false) 0:=⟨Z,by simp,fun x h=>absurd h (by omega)⟩
theorem U9a.push{tB n k g:Nat}{a0:List Ent}{vs:LV}(h:U9a tB n a0 vs (fun _ _=>false) k)(hk:k<n):U9a tB n (a0++[(some g,tB,List.replicate n (.bool false))]) (vs.set k (.slice (some ⟨g,0,none⟩) n n)) (fun _ _=>false) (k+1):=by
 obtain⟨h1,h2,h3⟩:=h;refine⟨by simp[h1],by simp[h2],fun x hx=>?_⟩;by_cases he:x=k
 ·subst he;exact⟨g,by rw[List.getElem?_append_right (by omega),h1];simp[y2c],by rw[List.getElem?_set_self (by omega)]⟩
 ·obtain⟨g',h4,h5⟩:=h3 x (by omega);exact⟨g',by rw[List.getElem?_append_left (by omega)];exact h4,by rw[List.getElem?_set_ne (fun hh=>he hh.symm)];exact h5⟩
theorem U9a.put{tB n k x y g:Nat}{a0:List Ent}{vs:LV}{f f':Nat→Nat→Bool}(h:U9a tB n a0 vs f k)(hx:x<k)(hr:vs[x]?=some (.slice (some ⟨g,0,none⟩) n n))(hf:∀a b,f' a b=(f a b||decide (a=x∧b=y))):U9a tB n (a0.set x (some g,tB,(C3b n (f x)).set y (.bool true))) vs f' k:=by
 obtain⟨h1,h2,h3⟩:=h;refine⟨by simp[h1],h2,fun a ha=>?_⟩;by_cases he:a=x
 ·subst he;refine⟨g,?_,hr⟩;rw[List.getElem?_set_self (by omega),o5c];rw[show f' a=fun z=>f a z||decide (z=y) from funext fun z=>by rw[hf a z];simp]
 ·obtain⟨g',h4,h5⟩:=h3 a ha;refine⟨g',?_,h5⟩;rw[List.getElem?_set_ne (fun hh=>he hh.symm),h4,show f' a=f a from funext fun z=>by rw[hf a z];simp[he]]
def j1b(tS tB:Nat)(w0 w:World)(v:Value)(n:Nat)(f:Nat→Nat→Bool):Prop:=∃g vs rows,v=.slice (some ⟨g,0,none⟩) n n∧St [] w0 w ([(some g,tS,vs)]++rows)∧U9a tB n rows vs f n
abbrev i2c(M:List Nat)(w:World)(v:Value)(n:Nat)(f:Nat→Nat→Bool):Prop:=RdS M w 1 (fun cs r=>∃u,cs=[u]∧RdB M w u r) v (e7c n f)
theorem j1b.rd{tS tB:Nat}{w0 w:World}{v:Value}{n:Nat}{f:Nat→Nat→Bool}(h:j1b tS tB w0 w v n f)(hn:n≤1000){M:List Nat}(hM:∀g∈M,g<w0.heap.size):i2c M w v n f:=by
 obtain⟨g,_,_,rfl,S,_,_,h3⟩:=h;have hl:(e7c n f).length=n:=by simp[e7c]
 have:=S.rd1 (k:=0) (M:=M) (R:=fun cs r=>∃u,cs=[u]∧RdB M w u r) Z (fun hm=>by have h4:=hM _ hm;have h5:=S.new 0 Z;simp at h5;omega) (n:=n) (l:=e7c n f) hl.symm (by omega) fun i x hi=>by
  have a0:=(List.getElem?_eq_some_iff.1 hi).1;rw[hl] at a0;rw[j3b (h:=a0)] at hi;cases hi;obtain⟨g',h4,h5⟩:=h3 i a0;refine⟨_,h5,_,Z,?_⟩;have hb:=S.blk (i+1) (t:=tB) (g:=g') (cs:=C3b n (f i)) (by rw[List.getElem?_append_right (by simp)];exact h4);have b0:=S.new (i+1) (t:=tB) (g:=g') (cs:=C3b n (f i)) (by rw[List.getElem?_append_right (by simp)];exact h4);have:=T9c (M:=M) hb (fun hm=>by have h4:=hM _ hm;simp at b0;omega) (by simp;omega);rw[List.length_map,List.length_range] at this;exact this
 exact this
theorem Y6a(M:List Nat)(w0:World)(v:Value)(C W:List Int)(a0:Nat)(hW:RdI M w0 v W)(h:V9a C W)(hb:c2a W=a0)(j0:a0≤6):
 A0a prog 77 #[v] w0 fun v w'=>j1b 86 4 w0 w' v (2 ^ a0) (fun _ _=>false)∧Bw w0 w':=by
 obtain⟨_,n,c,rfl⟩:=hW.form;have i0:2 ^ a0≤64:=by have:=Nat.pow_le_pow_right (n:=2) (by omega) j0;omega
 obtain⟨nn,e0⟩:∃nn,nn=2 ^ a0:=⟨_,Z⟩;rw[←e0] at i0 ⊢;have S:=St.refl w0;refine a0a func77 Z ntmps77 Z ?_;refine wO1 Z ?_;refine r0a S L7b Z Z ((h0b M _ _ W (hW.keep (S.keep0 M)) h.wid (by have:=h.clen;have:=h.len;omega)).mono (fun v w' h=>⟨h.1.trans (by rw[hb]),h.2⟩)) ?_;intro w7 S7 X7;refine r0a S7 E6a Z Z ((S5a a0 _).mono (fun v w' h=>(⟨h.1.trans (by rw[e0]),h.2⟩:v=Value.int .i64 ((nn:Nat):Int)∧Below _ _ w'))) ?_;intro w8 S8 X8;refine lO1 Z (s7a (n:=nn) (c:=nn) S8 D6b Z Z Z Z ?_);intro c0 r0 f0 o0 m0;refine lC1 Z (wL (fun μk D ε w=>D=[]∧∃k:Nat,∃vs:LV,∃b0:List Ent,(k+μk=(nn))∧(U9a 4 nn b0 vs (fun _ _=>false) k)∧St [] w0 w ([(some c0,86,vs)]++b0)∧Sl ε [(3,.int .i64 nn),(4,.slice (some ⟨c0,0,none⟩) nn nn),(5,.int .i64 k)]) (μ:=(nn)) ⟨Z,0,_,[],by omega,U9a.nil,f0,Z⟩ ?_);rintro μk D ε w ⟨rfl,k,vs,b0,_,hT,S,eZ⟩;refine wK eZ (wB1 Z (fun g0=>?_) fun g0=>?_)
 ·refine lO1 Z (s7a (n:=nn) (c:=nn) S m4a Z Z Z Z ?_);intro g19 s0 d0 p0 n0;refine lO d0.k [.i] Z ⟨by omega,U⟩ ?_;have q0:=hT.2.1;refine X0a (hy:=Z) (kk:=1) d0 s4d Z Z Z (by omega) ?_;intro w6 S6 X6;rw[show 0+(k:Int).toNat*1=k by omega] at S6;refine lP1 Z ⟨μk-1,by omega,Z,k+1,_,_,by omega,(hT.push (by omega)),S6.pushR,Z⟩
 refine lR1 Z (w0a Z ?_);exact⟨⟨c0,vs,b0,Z,S,(show k=nn by omega)▸hT⟩,S.fin⟩
theorem u0c(M:List Nat)(w0:World)(v u i:Value)(C W:List Int)(l:List (Int×Int))(a0:Nat)(hv:∃A m c,v=.slice A m c)(hW:RdI M w0 u W)(hL:V7a M w0 i l)(h:V9a C W)(hb:c2a W=a0)(E0:a0≤6)(hl:∀x∈l,0≤x.1∧x.1<(2 ^ a0:Nat)∧0≤x.2∧x.2<(2 ^ a0:Nat)):
 A0a prog 91 #[.agg #[v,u,i]] w0 fun v w'=>j1b 86 4 w0 w' v (2 ^ a0) (fun(x y:Nat)=>decide (((x:Int),(y:Int))∈l))∧Bw w0 w':=by
 obtain⟨A,n,c,rfl⟩:=hv;obtain⟨A',n',c',rfl⟩:=hW.form;obtain⟨Al,nl,cl,rfl⟩:=hL.form;obtain⟨_,-,_⟩:=hL.len;obtain⟨nn,t0⟩:∃nn,nn=2 ^ a0:=⟨_,Z⟩;have S:=St.refl w0;refine a0a func91 Z ntmps91 Z ?_;refine wO1 Z (o0a S Z ?_);intro g1 w1 S1 X1 G1;refine lO S1.k [.o 0] Z ⟨Z,U⟩ (h0a S1 G8b Z Z (Y6a M _ _ C W a0 (hW.keep (S1.keep0 M)) h hb E0) ?_);rintro v7 w7 n0 S7 X7;obtain⟨g7,vs,d0,rfl,S2,i0⟩:=n0;have u0:=S1.joinR S2;rw[←t0] at i0 hl ⊢;have c0:(fun(_ _:Nat)=>false)=fun(x y:Nat)=>decide (((x:Int),(y:Int))∈l.take 0):=by funext x y;simp
 rw[c0] at i0;refine lC1 Z (wL (fun μk D ε w=>D=[]∧∃k:Nat,∃b0:List Ent,(k+μk=(l.length))∧(U9a 4 nn b0 vs (fun(x y:Nat)=>decide (((x:Int),(y:Int))∈l.take k)) nn)∧St [] w0 w ([(some g7,86,vs),(some g1,41,[.slice A n c,.slice A' n' c',.slice Al nl cl])]++b0)∧Sl ε [(1,.pointer (some ⟨g1,0,none⟩)),(3,.slice (some ⟨g7,0,none⟩) nn nn),(4,.int .i64 k)]) (μ:=(l.length)) ⟨Z,0,d0,by omega,i0,u0,Z⟩ ?_);rintro μk D ε w ⟨rfl,k,b0,_,hT,S,eZ⟩;refine wK eZ (wO1 Z ?_);refine G0a P4a Z (by exact S.cell 1 Z Z) Z ?_;refine lB1 Z (fun D0=>?_) fun D0=>?_
 ·obtain⟨x,e0⟩:∃x,l[k]?=some x:=⟨l[k]'(by omega),List.getElem?_eq_getElem _⟩;have hx:=hl x (c0a e0);obtain⟨_,F0,s0⟩:=hT.2.2 x.1.toNat (by omega);have I0:=hT.2.1;refine lC1 Z (y0a b0a [0,1,2,3,4,5,6,7,8,9,10,11,12,13,14,15] [] [16] Z (Cl _ _ _ _) (Cl.start S) ?_);refine qO1 Z (j0a P4a Z (fun w1 hw=>by exact hw.1.cell 1 Z Z) Z ?_);obtain⟨_,x0,G0,z0,q0,f0,_,_,j0,o0⟩:=RdS.get (hL) (k) (by omega);obtain rfl:=Option.some.inj (e0.symm.trans q0);obtain⟨B0,_⟩:=o0;obtain rfl:z0=pc x:=B0;refine qO S.q [.x x0 G0] Z ⟨⟨f0,by omega⟩,U⟩ (v0a S1a Z Z Z ?_);refine j0a E0a Z (fun w1 hw=>by exact hw.1.old (j0 _ _ Z)) Z ?_;refine qO S.q [.i] Z ⟨by omega,U⟩ ?_;refine j0a B1b Z (fun w1 hw=>by exact hw.1.cell 0 Z (by rw[show 0+x.1.toNat*1=x.1.toNat by omega];exact s0)) Z ?_;refine qO1 Z (j0a P4a Z (fun w1 hw=>by exact hw.1.cell 1 Z Z) Z ?_);obtain⟨_,y0,H0,A0,r0,g0,_,_,m0,p0⟩:=RdS.get (hL) (k) (by omega);obtain rfl:=Option.some.inj (e0.symm.trans r0);obtain⟨C0,_⟩:=p0;obtain rfl:A0=pc x:=C0;refine qO S.q [.x y0 H0] Z ⟨⟨g0,by omega⟩,U⟩ (v0a S1a Z Z Z ?_);refine j0a E0a Z (fun w1 hw=>by exact hw.1.old (m0 _ _ Z)) Z ?_;refine F0a m4a.slT Z (by rfl) Z Z ?_;refine lV Z ?_;rintro J0 ⟨v0,_⟩;refine X0a (hy:=Z) (kk:=2+x.1.toNat) v0 p4b Z Z (by rw[g7c [_,_] b0 _ 2 rfl];exact F0) (by rw[v8a];omega) ?_;intro w5 S5 X5;rw[y2d [_,_] b0 _ 2 Z,show 0+x.2.toNat*1=x.2.toNat by omega] at S5;refine lP1 Z ⟨μk-1,by omega,Z,k+1,_,by omega,?_,S5,Z⟩;refine hT.put (x:=x.1.toNat) (y:=x.2.toNat) (by omega) s0 fun a b=>?_;rw[u0a e0,Bool.eq_iff_iff,Bool.or_eq_true,decide_eq_true_eq,decide_eq_true_eq,decide_eq_true_eq,List.mem_append,List.mem_singleton,Prod.ext_iff];refine or_congr_right ⟨fun hh=>?_,fun hh=>?_⟩
  ·simp only at hh;omega
  ·simp only;omega
 refine lR1 Z (w0a Z ?_);obtain rfl:k=l.length:=by omega
 rw[List.take_length] at hT;refine⟨⟨g7,vs,b0,Z,?_,t0▸hT⟩,S.fin⟩;exact S.sublist (List.Sublist.cons_cons _ (List.sublist_cons_self _ _))
def o4b(f:Nat→Nat→Bool)(x n:Nat):List (Int×Int):=((List.range n).filter (f x)).map fun(y:Nat)=>((x:Int),(y:Int))
def v9a(f:Nat→Nat→Bool)(n k:Nat):List (Int×Int):=(List.range k).flatMap fun x=>o4b f x n
section
variable {f:Nat→Nat→Bool} {x n k:Nat}
theorem f8a:o4b f x (n+1)=if f x n=true then o4b f x n++[((x:Int),(n:Int))] else o4b f x n:=by
 unfold o4b;rw[List.range_succ,List.filter_append,List.map_append];by_cases h:f x n=true
 ·rw[if_pos h,List.filter_cons_of_pos h];rfl
 ·rw[if_neg h,List.filter_cons_of_neg h];simp
theorem w8a:v9a f n (k+1)=v9a f n k++o4b f k n:=by
 unfold v9a;rw[List.range_succ,List.flatMap_append];simp
theorem F8b{a:Int×Int}:a∈o4b f x n↔∃y,y<n∧f x y=true∧a=((x:Int),(y:Int)):=by
 unfold o4b;simp only[List.mem_map,List.mem_filter,List.mem_range];constructor
 ·rintro⟨y,⟨h1,h2⟩,rfl⟩;exact⟨y,h1,h2,Z⟩
 ·rintro⟨y,h1,h2,rfl⟩;exact⟨y,⟨h1,h2⟩,Z⟩
theorem r5a{a:Int×Int}:a∈v9a f n k↔∃x y,x<k∧y<n∧f x y=true∧a=((x:Int),(y:Int)):=by
 unfold v9a;simp only[List.mem_flatMap,List.mem_range,F8b];constructor
 ·rintro⟨x,h1,y,h2,h3,h4⟩;exact⟨x,y,h1,h2,h3,h4⟩
 ·rintro⟨x,y,h1,h2,h3,h4⟩;exact⟨x,h1,y,h2,h3,h4⟩
theorem o8c:(o4b f x n).Pairwise lt2:=by
 unfold o4b;rw[List.pairwise_map];refine((List.pairwise_lt_range (n:=n)).sublist List.filter_sublist).imp fun h=>?_;unfold lt2;simp;omega
theorem H0b:∀k,(v9a f n k).Pairwise lt2
 | 0=>by simp[v9a]
 | k+1=>by
   rw[w8a,List.pairwise_append];refine⟨H0b k,o8c,fun a ha b hb=>?_⟩;obtain⟨_,_,_,-,-,rfl⟩:=r5a.1 ha;obtain⟨_,-,-,rfl⟩:=F8b.1 hb;unfold lt2;simp;omega
theorem R3b:(o4b f x n).length≤n:=by
 unfold o4b;rw[List.length_map];have:=List.length_filter_le (f x) (List.range n);simpa using this
theorem X6a(hn:n≤64):∀k,(v9a f n k).length≤64*k
 | 0=>by simp[v9a]
 | k+1=>by
   rw[w8a,List.length_append];have:=X6a hn k;have:=R3b (f:=f) (x:=k) (n:=n);omega
end
structure Bfs (R:Nat→Nat→Prop) (n x:Nat) (L:List Int) (i y:Nat):Prop where
 nn:∀c∈L,0≤c∧c<n
 nd:L.Nodup
 inn:(x:Int)∈L
 snd:∀c:Nat,(c:Int)∈L→Clo R n x c
 cls:∀j,j<i→∀a:Int,L[j]?=some a→∀z:Nat,z<n→R a.toNat z→(z:Int)∈L
 cur:∀a:Int,L[i]?=some a→∀z:Nat,z<y→R a.toNat z→(z:Int)∈L
theorem J4c{n:Nat}{L:List Int}(h1:∀c∈L,0≤c∧c<n)(h2:L.Nodup):L.length≤n:=by
 have h3:(L.map Int.toNat).Nodup:=by
  unfold List.Nodup;rw[List.pairwise_map];refine(List.pairwise_iff_getElem.2 fun i j hi hj a0=>?_:L.Pairwise _);have h4:=List.pairwise_iff_getElem.1 h2 i j hi hj a0;have h5:=h1 _ (List.getElem_mem hi);have h6:=h1 _ (List.getElem_mem hj);intro h7;exact h4 (by omega)
 have h4:=List.Nodup.length_le_of_subset h3 (l₂:=List.range n) fun c hc=>by
  obtain⟨a,ha,rfl⟩:=List.mem_map.1 hc;have:=h1 a ha;rw[List.mem_range];omega
 simpa using h4
section
variable {R:Nat→Nat→Prop} {n x i y:Nat} {L:List Int}
theorem Bfs.len(h:Bfs R n x L i y):L.length≤n:=J4c h.nn h.nd
theorem Bfs.start(hx:x<n):Bfs R n x [(x:Int)] 0 0 where
 nn c hc:=by rw[List.mem_singleton.1 hc];omega
 nd:=by simp
 inn:=List.mem_singleton.2 Z
 snd c hc:=by
  have h:=List.mem_singleton.1 hc;have:c=x:=by omega
  subst this;exact .refl hx
 cls j hj:=by omega
 cur a ha z hz:=by omega
theorem Bfs.skip{a:Int}(h:Bfs R n x L i y)(ha:L[i]?=some a)(hs:R a.toNat y→(y:Int)∈L):Bfs R n x L i (y+1) :=
 ⟨h.nn,h.nd,h.inn,h.snd,h.cls,fun b hb z hz hr=>by
  rw[ha] at hb;cases hb;by_cases a0:z=y
  ·subst a0;exact hs hr
  ·exact h.cur a ha z (by omega) hr⟩
theorem Bfs.push{a:Int}(h:Bfs R n x L i y)(ha:L[i]?=some a)(hr:R a.toNat y)(hy:y<n)(hn:(y:Int)∉L):Bfs R n x (L++[(y:Int)]) i (y+1):=by
 have hi:=t5a ha;have hm:=List.mem_of_getElem? ha;refine⟨fun c hc=>?_,?_,List.mem_append_left _ h.inn,fun c hc=>?_,fun j hj b hb z hz a0=>?_,fun b hb z hz a0=>?_⟩
 ·rcases List.mem_append.1 hc with h1|h1
  ·exact h.nn c h1
  ·rw[List.mem_singleton.1 h1];omega
 ·rw[List.nodup_append];refine⟨h.nd,by simp,fun a ha b hb=>?_⟩;rw[List.mem_singleton.1 hb];intro he;subst he;exact hn ha
 ·rcases List.mem_append.1 hc with h1|h1
  ·exact h.snd c h1
  ·have h2:=List.mem_singleton.1 h1;have:c=y:=by omega
   subst this;have h3:=h.nn a hm;obtain⟨q,rfl⟩:=Int.eq_ofNat_of_zero_le h3.1;exact .tail (h.snd q hm) hr hy
 ·rw[List.getElem?_append_left (by omega)] at hb;exact List.mem_append_left _ (h.cls j hj b hb z hz a0)
 ·rw[List.getElem?_append_left hi,ha] at hb;cases hb;by_cases b0:z=y
  ·subst b0;exact List.mem_append_right _ (List.mem_singleton.2 Z)
  ·exact List.mem_append_left _ (h.cur a ha z (by omega) a0)
theorem Bfs.next(h:Bfs R n x L i n):Bfs R n x L (i+1) 0 :=
 ⟨h.nn,h.nd,h.inn,h.snd,fun j hj a ha z hz hr=>by
  by_cases a0:j=i
  ·subst a0;exact h.cur a ha z hz hr
  ·exact h.cls j (by omega) a ha z hz hr,fun a ha z hz=>by omega⟩
theorem Bfs.fin(h:Bfs R n x L i y)(hi:L.length≤i)(c:Nat):(c:Int)∈L↔Clo R n x c:=by
 refine⟨h.snd c,fun hc=>?_⟩
 induction hc with
 | refl _=>exact h.inn
 | tail hc h2 h3 ih =>
   obtain⟨j,hj,he⟩:=List.getElem_of_mem ih;exact h.cls j (by omega) _ (by rw[List.getElem?_eq_getElem hj,he]) _ h3 (by simpa using h2)
end
theorem a2c{n y:Nat}{g:Nat→Bool}{b:Bool}:(C3b n g).set y (.bool b)=C3b n fun z=>if z=y then b else g z:=by
 unfold C3b bV;refine List.ext_getElem? fun i=>?_;rw[List.getElem?_set];by_cases h:i<n
 ·by_cases hy:y=i
  ·subst hy;simp[h]
  ·have a0:¬i=y:=fun e=>hy e.symm;simp[h,hy,a0]
 ·simp[h];omega
theorem U9a.putV{tB n k x y g:Nat}{a0:List Ent}{vs:LV}{f f':Nat→Nat→Bool}{b:Bool}(h:U9a tB n a0 vs f k)(hx:x<k)(hr:vs[x]?=some (.slice (some ⟨g,0,none⟩) n n))(hf:∀a c,f' a c=if a=x∧c=y then b else f a c):U9a tB n (a0.set x (some g,tB,(C3b n (f x)).set y (.bool b))) vs f' k:=by
 obtain⟨h1,h2,h3⟩:=h;refine⟨by simp[h1],h2,fun a ha=>?_⟩;by_cases he:a=x
 ·subst he;refine⟨g,?_,hr⟩;rw[List.getElem?_set_self (by omega),a2c];rw[show f' a=fun z=>if z=y then b else f a z from funext fun z=>by rw[hf a z];simp]
 ·obtain⟨g',h4,h5⟩:=h3 a ha;refine⟨g',?_,h5⟩;rw[List.getElem?_set_ne (fun hh=>he hh.symm),h4,show f' a=f a from funext fun z=>by rw[hf a z];simp[he]]
def B5a(p:m0a)(m n:Int)(t k:Nat):Prop:=∃u uh j,p.threads[u]?=some uh∧uh.modules[j]?=some n∧m∈C1a p u∧(u<t∨(u=t∧j<k))
theorem B5a.all{p:m0a}(hp:W0a p){m n:Int}:B5a p m n p.threads.length 0↔k7a p p.threads.length (m,n):=by
 constructor
 ·rintro⟨u,uh,j,h1,h2,h3,h4⟩;rcases(X4a hp).1 h3 with⟨t,th,s,g1,g2,g3,g4,g5⟩|⟨th,s,h1,h2,-⟩
  ·exact⟨t,g1,u,th,uh,s,n,t5a h1,fun e=>g2 e.symm,g3,h1,g4,List.mem_of_getElem? h2,by rw[g5]⟩
  ·rw[List.getElem?_eq_none (Nat.le_refl _)] at h1;cases h1
 ·rintro⟨t,h1,u,th,uh,s,_,h2,h3,h4,h5,h6,h7,h8⟩;obtain⟨j,hj,rfl⟩:=List.getElem_of_mem h7;cases h8;exact⟨u,uh,j,h5,List.getElem?_eq_getElem hj,(X4a hp).2 (.inl ⟨t,th,s,h1,fun e=>h3 e.symm,h4,h6,Z⟩),.inl h2⟩
theorem B5a.zero{p:m0a}{m n:Int}:¬B5a p m n 0 0:=fun⟨_,_,_,_,_,_,h⟩=>by omega
theorem B5a.skip{p:m0a}{m n q:Int}{t k:Nat}{th:D1a}(h:¬B5a p m n t k)(ht:p.threads[t]?=some th)(hk:th.modules[k]?=some q)(hq:q=n→m∉C1a p t):¬B5a p m n t (k+1):=fun⟨u,uh,j,h1,h2,h3,h4⟩=>by
 by_cases hj:u=t∧j=k
 ·obtain⟨rfl,rfl⟩:=hj;rw[ht] at h1;cases h1;rw[hk] at h2;exact hq (Option.some.inj h2) h3
 ·exact h ⟨u,uh,j,h1,h2,h3,by omega⟩
theorem B5a.next{p:m0a}{m n:Int}{t k:Nat}{th:D1a}(h:¬B5a p m n t k)(ht:p.threads[t]?=some th)(hk:th.modules.length≤k):¬B5a p m n (t+1) 0:=fun⟨u,uh,j,h1,h2,h3,h4⟩=>by
 refine h ⟨u,uh,j,h1,h2,h3,?_⟩;by_cases hu:u=t
 ·subst hu;rw[ht] at h1;cases h1;have:=t5a h2;omega
 ·omega
theorem B5a.found{p:m0a}{m n:Int}{t k:Nat}{th:D1a}(ht:p.threads[t]?=some th)(hk:th.modules[k]?=some n)(hm:m∈C1a p t):B5a p m n p.threads.length 0:=⟨t,th,k,ht,hk,hm,.inl (t5a ht)⟩
theorem R3a(p:m0a)(M:List Nat)(w0:World)(cs:LV)(hI:NmP p M w0 cs):
 A0a prog 20 #[.agg cs.toArray] w0 fun v w'=>v=.bool (dec (W0a p))∧Bw w0 w':=by
 obtain⟨_,_,_,_,nm,_,_,_,_,_,_,_,rfl,-⟩:=hI.rd.open_;have S:=St.refl w0;refine a0a func20 Z ntmps20 Z ?_;refine wO1 Z (o0a S Z ?_);intro g1 w1 S1 X1 G1;refine lO S1.k [.w 0] Z ⟨⟨Z,Z⟩,U⟩ (h0a S1 S6c Z Z (s1b p M _ _ (hI.rd.keep (S1.keep0 M)) (hI.keep (S1.keep0 M)).lt hI.nm) ?_);rintro v8 w8 ⟨_,_,_,rfl,hv⟩ S8 X8;refine lB1 Z (fun a0=>?_) fun a0=>?_
 ·exact lU Z Z ⟨H1a (hv.1 a0),S8.fin⟩
 exact lU Z Z ⟨C0a (fun z=>a0 (hv.2 z)),S8.fin⟩
theorem Y9b(p:m0a)(m:Int)(f0:W0a p→m<0∨p.modules.length≤m)(M:List Nat)(w0:World)(cs:LV)(hI:NmP p M w0 cs):
 A0a prog 17 #[.agg cs.toArray,.int .i64 m] w0 fun v w'=>v=.agg #[.int .i64 0,.int .i64 0,.int .i64 0,.slice none 0 0]∧Bw w0 w':=by
 obtain⟨_,_,_,_,_,_,_,_,_,_,_,_,rfl,_⟩:=hI.rd.open_;have S:=St.refl w0;refine a0a func17 Z ntmps17 Z ?_;refine wO1 Z (o0a S Z ?_);intro g2 w2 S2 X2 G2;refine g0a S2 X1a Z Z ?_;intro g4 w4 S4 X4 G4;refine lO S4.k [.w 1] Z ⟨⟨Z,Z⟩,U⟩ (i0a S4 H8a Z Z (R3a p M _ _ (hI.keep (S4.keep0 M))) (fun h8 w8 S8 X8=>?_) (fun h8 w8 S8 X8=>?_))
 ·refine lB1 Z (fun d0=>?_) fun d0=>?_
  ·refine lO1 Z (s0a s1a (vs:=[]) (cs:=[_,_,_,_]) Z Z Z Z ?_);refine d0a (kk:=0) (vs:=[_,_,_,_]) S8 h1a Z Z Z Z Z Z Z ?_;intro c0 a0 b0;dsimp only[e0a,List.set] at a0;exact lR1 Z (t0a Z D0a Z (a0.cells 0 Z) Z ⟨Z,a0.fin⟩)
  refine lB S8.k [.o 1] Z ⟨Z,U⟩ (fun e0=>?_) (fun e0=>by have:=f0 (Q0a h8);omega);refine lO1 Z (s0a s1a (vs:=[]) (cs:=[_,_,_,_]) Z Z Z Z ?_);refine d0a (kk:=0) (vs:=[_,_,_,_]) S8 h1a Z Z Z Z Z Z Z ?_;intro c0 a0 b0;dsimp only[e0a,List.set] at a0;exact lR1 Z (t0a Z D0a Z (a0.cells 0 Z) Z ⟨Z,a0.fin⟩)
 refine lO1 Z (s0a s1a (vs:=[]) (cs:=[_,_,_,_]) Z Z Z Z ?_);refine d0a (kk:=0) (vs:=[_,_,_,_]) S8 h1a Z Z Z Z Z Z Z ?_;intro c0 a0 b0;dsimp only[e0a,List.set] at a0;exact lR1 Z (t0a Z D0a Z (a0.cells 0 Z) Z ⟨Z,a0.fin⟩)
theorem f6c(p:m0a)(t:Int)(j0:W0a p→t<0∨p.threads.length≤t)(M:List Nat)(w0:World)(cs:LV)(hI:NmP p M w0 cs):
 A0a prog 19 #[.agg cs.toArray,.int .i64 t] w0 fun v w'=>v=.agg #[.int .i64 0,.int .i64 0,.int .i64 0,.slice none 0 0]∧Bw w0 w':=by
 obtain⟨_,_,_,_,_,_,_,_,_,_,_,_,rfl,_⟩:=hI.rd.open_;have S:=St.refl w0;refine a0a func19 Z ntmps19 Z ?_;refine wO1 Z (o0a S Z ?_);intro g2 w2 S2 X2 G2;refine g0a S2 X1a Z Z ?_;intro g4 w4 S4 X4 G4;refine lO S4.k [.w 1] Z ⟨⟨Z,Z⟩,U⟩ (i0a S4 H8a Z Z (R3a p M _ _ (hI.keep (S4.keep0 M))) (fun e0 m0 b0 f0=>?_) (fun e0 m0 b0 f0=>?_))
 ·refine lB1 Z (fun g0=>?_) fun g0=>?_
  ·refine lO1 Z (s0a s1a (vs:=[]) (cs:=[_,_,_,_]) Z Z Z Z ?_);refine d0a (kk:=0) (vs:=[_,_,_,_]) b0 h1a Z Z Z Z Z Z Z ?_;intro d0 a0 c0;dsimp only[e0a,List.set] at a0;exact lR1 Z (t0a Z D0a Z (a0.cells 0 Z) Z ⟨Z,a0.fin⟩)
  refine lB b0.k [.o 1] Z ⟨Z,U⟩ (fun i0=>?_) (fun i0=>by have:=j0 (Q0a e0);omega);refine lO1 Z (s0a s1a (vs:=[]) (cs:=[_,_,_,_]) Z Z Z Z ?_);refine d0a (kk:=0) (vs:=[_,_,_,_]) b0 h1a Z Z Z Z Z Z Z ?_;intro d0 a0 c0;dsimp only[e0a,List.set] at a0;exact lR1 Z (t0a Z D0a Z (a0.cells 0 Z) Z ⟨Z,a0.fin⟩)
 refine lO1 Z (s0a s1a (vs:=[]) (cs:=[_,_,_,_]) Z Z Z Z ?_);refine d0a (kk:=0) (vs:=[_,_,_,_]) b0 h1a Z Z Z Z Z Z Z ?_;intro d0 a0 c0;dsimp only[e0a,List.set] at a0;exact lR1 Z (t0a Z D0a Z (a0.cells 0 Z) Z ⟨Z,a0.fin⟩)
theorem B6b(p:m0a)(m n:Int)(hm:0≤m∧m<p.modules.length)(M:List Nat)(w0:World)(cs:LV)(hI:InP p M w0 cs):
 A0a prog 54 #[.agg cs.toArray,.int .i64 m,.int .i64 n] w0 fun v w'=>v=.bool (dec (k7a p p.threads.length (m,n)))∧Bw w0 w':=by
 obtain⟨Ac,nc,cc,Am,nm,cm,Al,nl,cl,At,nt,ct,rfl,_,_,_,D0,_⟩:=hI.rd.open_;have hp:=hI.ok;have n2:=hp.nthreads;have S:=St.refl w0;refine a0a func54 Z ntmps54 Z ?_;refine wO1 Z (o0a S Z ?_);intro g3 w3 S3 X3 G3;refine lC1 Z (wL (fun μt D ε w=>D=[]∧∃t:Nat,(t+μt=(p.threads.length))∧(¬B5a p m n t 0)∧St [] w0 w [(some g3,27,pL Ac nc cc Am nm cm Al nl cl At nt ct)]∧Sl ε [(1,.int .i64 m),(2,.int .i64 n),(3,.pointer (some ⟨g3,0,none⟩)),(7,.int .i64 t)]) (μ:=(p.threads.length)) ⟨Z,0,by omega,B5a.zero,S3,Z⟩ ?_);rintro μt D ε w ⟨rfl,t,_,v0,S,eZ⟩;refine wK eZ (wB S.k [.o 0] Z ⟨Z,U⟩ (fun L0=>?_) fun L0=>?_)
 ·obtain⟨th,a0⟩:∃th,p.threads[t]?=some th:=⟨p.threads[t]'(by omega),List.getElem?_eq_getElem _⟩;have Q0:=(hp.thread a0).points;have P0:=(hp.thread a0).nmod;refine lC1 Z (wL (fun μk D ε w=>D=[]∧∃k:Nat,(k+μk=(th.modules.length))∧(¬B5a p m n t k)∧St [] w0 w [(some g3,27,pL Ac nc cc Am nm cm Al nl cl At nt ct)]∧Sl ε [(1,.int .i64 m),(2,.int .i64 n),(3,.pointer (some ⟨g3,0,none⟩)),(7,.int .i64 t),(8,.int .i64 k)]) (μ:=(th.modules.length)) ⟨Z,0,by omega,v0,S,Z⟩ ?_);rintro μk D ε w ⟨rfl,k,_,c0,S,eZ⟩;refine wK eZ ?_;obtain⟨_,G0,T0,_,A0,m0,_,_,s0,x0⟩:=RdS.get (D0) (t) (by omega);obtain rfl:=Option.some.inj (a0.symm.trans A0);obtain⟨_,_,_,_,_,_,_,_,_,_,_,_,rfl,_⟩:=Z0a.open_ x0;refine wB (S.k.a s0) [.o 0,.x G0 T0,.f 0 3] Z ⟨Z,⟨m0,by omega⟩,Z,U⟩ (fun N0=>?_) fun N0=>?_
  ·obtain⟨_,H0,U0,_,B0,n0,_,_,t0,y0⟩:=RdS.get (D0) (t) (by omega);obtain rfl:=Option.some.inj (a0.symm.trans B0);obtain⟨_,_,_,_,_,_,_,_,_,_,_,_,rfl,_,_,e0,_⟩:=Z0a.open_ y0;obtain⟨q,I0,V0,_,C0,o0,_,_,u0,z0⟩:=RdS.get (e0) (k) (by omega);obtain⟨rfl,_⟩:=id z0;refine lB ((S.k.a u0).a t0) [.o 0,.x H0 U0,.f 0 3,.x I0 V0,.f 1 0] Z ⟨Z,⟨o0,by omega⟩,Z,⟨n0,by omega⟩,Z,U⟩ (fun i0=>?_) fun i0=>?_
   ·refine lO S.k [.w 0] Z ⟨⟨Z,Z⟩,U⟩ (h0a S t7c Z Z (X1b p t M _ _ (hI.keep (S.keep0 M))) ?_);rintro Z0 a1 ⟨bs,hS,r0⟩ g0 X0;have q0:=r0 [] (by simp);obtain⟨_,_,_,rfl⟩:=q0.form;obtain⟨_,-,_⟩:=q0.len;have Y0:=hS.1;refine lOn 1 g0.k [] Z U ?_;obtain⟨z,J0,W0,K0,R0,p0,_,_,f0,d0⟩:=RdS.get (q0) (m.toNat) (by omega);obtain d0:=d0;obtain rfl:K0=[Value.bool z]:=d0;have hz:bs.getD m.toNat false=z:=by rw[List.getD_eq_getElem?_getD,R0];rfl
    have E0:z=true↔m∈C1a p t:=by
     have:=(hS.2 m.toNat (by omega)).trans (X4a hp).symm;rw[hz,show((m.toNat:Nat):Int)=m by omega] at this;exact this
    refine lO g0.k [.x J0 W0] Z ⟨⟨p0,by omega⟩,U⟩ ?_;cases b0:z
    ·refine G0a E2a Z (by exact(f0 0 _ Z).trans (congrArg (fun b=>some (Value.bool b)) b0)) Z ?_;refine lP1 Z ⟨μk-1,by omega,Z,k+1,by omega,?_,g0,Z⟩;have F0:z=false:=b0;exact B5a.skip c0 a0 C0 fun _ O0=>by rw[E0.2 O0] at F0;cases F0
    refine G0a E2a Z (by exact(f0 0 _ Z).trans (congrArg (fun b=>some (Value.bool b)) b0)) Z ?_;refine lR1 Z (w0a Z ?_);have S0:z=true:=b0;exact⟨H1a ((B5a.all hp).1 (B5a.found a0 (i0▸C0) (E0.1 S0))),g0.fin⟩
   refine lP1 Z ⟨μk-1,by omega,Z,k+1,by omega,?_,S,Z⟩;have j0:¬q=n:=i0;exact B5a.skip c0 a0 C0 fun e=>absurd e j0
  refine lP1 Z ⟨μt-1,by omega,Z,t+1,by omega,((B5a.next c0 a0 (by omega))),S,Z⟩
 refine lU Z Z ?_;exact⟨C0a fun h=>by rw[show t=p.threads.length by omega] at v0;exact v0 ((B5a.all hp).2 h),S.fin⟩
theorem K5b(M:List Nat)(w0:World)(v:Value)(l:List Int)(b:Nat)(hR:RdI M w0 v l):A0a prog 134 #[v,.int .i64 b] w0 fun v w'=>v=.bool (dec (OKL b l))∧Bw w0 w':=by
 obtain⟨A,n,c,rfl⟩:=hR.form;obtain⟨_,_⟩:=hR.len;have S:=St.refl w0;refine a0a func134 Z ntmps134 Z ?_;refine wC1 Z (wL (fun μk D ε w=>D=[]∧∃k:Nat,(k+μk=(l.length))∧(t1a (l.take k))∧(∀z∈l.take k,0≤z∧z<b)∧St [] w0 w []∧Sl ε [(0,.slice A n c),(1,.int .i64 b),(5,.int .i64 k)]) (μ:=(l.length)) ⟨Z,0,by omega,(by simp[t1a]),(by simp),S,Z⟩ ?_);rintro μk D ε w ⟨rfl,k,_,hr,f0,S,eZ⟩;refine wK eZ (wB1 Z (fun h9=>?_) fun h9=>?_)
 ·refine lC1 Z (y0a b0a [0,1,2,3,4,5,6,7,8,9,10,11,12,13,14,15,16,17,18,19,20,21,22,23,24,25,26,27,28] [] [] Z (Cl _ _ _ _) (Cl.start S) ?_);obtain⟨x,y0,H0,_,b0,i0,_,_,o0,r0⟩:=RdS.get (hR) (k) (by omega);obtain⟨rfl,_⟩:=id r0;refine qB (S.q.a o0) [.x y0 H0,.f 0 0] Z ⟨Z,⟨i0,by omega⟩,U⟩ (fun D0=>?_) fun D0=>?_
  ·refine lV Z ?_;rintro g0 ⟨a0,e0⟩;refine lU Z Z ?_;exact⟨C0a (fun hz=>by have:=hz.2 x (c0a b0);omega),a0.fin⟩
  obtain⟨_,z0,I0,_,v0,j0,_,_,p0,s0⟩:=RdS.get (hR) (k) (by omega);obtain rfl:=Option.some.inj (b0.symm.trans v0);obtain⟨rfl,_⟩:=id s0;refine qB (S.q.a p0) [.x z0 I0,.f 0 0] Z ⟨Z,⟨j0,by omega⟩,U⟩ (fun E0=>?_) fun E0=>?_
  ·refine lV Z ?_;rintro g0 ⟨a0,e0⟩;refine lU Z Z ?_;exact⟨C0a (fun hz=>by have:=hz.2 x (c0a b0);omega),a0.fin⟩
  refine qB1 Z (fun F0=>?_) fun F0=>?_
  ·obtain⟨_,A0,J0,_,x0,m0,_,_,q0,t0⟩:=RdS.get (hR) (k) (by omega);obtain rfl:=Option.some.inj (b0.symm.trans x0);obtain⟨rfl,_⟩:=id t0;obtain⟨_,B0,K0,_,d0,n0,_,_,c0,u0⟩:=RdS.get (hR) (k-1) (by omega);obtain⟨rfl,_⟩:=id u0;have C0:((k:Int)-1).toNat=k-1:=by omega
   rw[←C0] at c0;refine qB ((S.q.a c0).a q0) [.x A0 J0,.f 0 0,.x B0 K0,.f 1 0] Z ⟨Z,⟨n0,by omega⟩,by omega,Z,⟨m0,by omega⟩,U⟩ (fun G0=>?_) fun G0=>?_
   ·refine lV Z ?_;rintro g0 ⟨a0,e0⟩;refine lU Z Z ?_;exact⟨C0a (fun hz=>by have:=Q6a hz.1 d0 b0;omega),a0.fin⟩
   refine lV Z ?_;rintro g0 ⟨a0,e0⟩;refine lP1 Z ?_;refine⟨μk-1,by omega,Z,k+1,by omega,?_,((fun z hz=>by rw[u0a b0] at hz;rcases List.mem_append.1 hz with h|h;exact f0 z h;rw[List.mem_singleton.1 h];omega)),a0,Z⟩;exact Z0b hr d0 b0
  refine lV Z ?_;rintro g0 ⟨a0,e0⟩;refine lP1 Z ?_;refine⟨μk-1,by omega,Z,k+1,by omega,?_,((fun z hz=>by rw[u0a b0] at hz;rcases List.mem_append.1 hz with h|h;exact f0 z h;rw[List.mem_singleton.1 h];omega)),a0,Z⟩;obtain rfl:k=0:=by omega
  exact G9a l
 refine lU Z Z ?_;exact⟨H1a (by rw[List.take_of_length_le (by omega)] at hr f0;exact⟨hr,f0⟩),S.fin⟩
theorem R4b(p:List g1a)(C:List Int)(M:List Nat)(w0:World)(vc vl:Value)(hP:i0b M w0 vc p)(hC:RdI M w0 vl C)(hp:p.length≤32)(hw:∀c∈p,1≤c.w∧c.w≤8):
 A0a prog 73 #[vc,vl] w0 fun v w'=>(∃A n c,v=.tuple #[.slice A n c,.bool (dec (OKL p.length C))]∧(OKL p.length C→X3a w0 w' (.slice A n c) (wdL p C)))∧Bw w0 w':=by
 by_cases a0:OKL p.length C
 ·exact(U7a p C M w0 vc vl hP hC a0.1 a0.2 hp hw).mono fun v w' ⟨⟨u,hv,hn⟩,hb⟩=>by
   obtain⟨A,n,c,rfl⟩:=hn.form;exact⟨⟨A,n,c,by rw[hv,s6a a0],fun _=>hn⟩,hb⟩
 obtain⟨_,np,_,rfl⟩:=hP.form;obtain⟨c0,-,_⟩:=hP.len;obtain⟨A,n,c,rfl⟩:=hC.form;have S:=St.refl w0;have hb:=J7a a0;refine a0a func73 Z ntmps73 Z ?_;refine wO1 Z (q7c Z Z Z ?_);rw[show min (np:Int) 32=np by omega,c0];refine r0a S J3c Z Z (I4a (K5b M _ _ C p.length (hC.keep (S.keep0 M))) hb) ?_;intro e0 b0 d0;refine lR1 Z (o3b Z ?_);exact⟨⟨_,_,_,by rw[hb],fun z=>absurd z a0⟩,b0.fin⟩
theorem I9b(M:List Nat)(w0:World)(v:Value)(l:List Int)(x:Int)(hR:RdI M w0 v l):A0a prog 194 #[v,.int .i64 x] w0 fun v w'=>(∃r:Int,v=.int .i64 r∧(x∈l→0≤r))∧Bw w0 w':=by
 obtain⟨A,n,c,rfl⟩:=hR.form;obtain⟨_,_⟩:=hR.len;have S:=St.refl w0;refine a0a func194 Z ntmps194 Z ?_;refine wC1 Z (wL (fun μk D ε w=>D=[]∧∃k:Nat,(k+μk=(l.length))∧(x∉l.take k)∧St [] w0 w []∧Sl ε [(0,.slice A n c),(1,.int .i64 x),(5,.int .i64 k)]) (μ:=(l.length)) ⟨Z,0,by omega,by simp,S,Z⟩ ?_);rintro μk D ε w ⟨rfl,k,_,ha,S,eZ⟩;refine wK eZ (wB1 Z (fun h9=>?_) fun h9=>?_)
 ·obtain⟨_,e0,g0,_,f0,b0,_,_,c0,d0⟩:=RdS.get (hR) (k) (by omega);obtain⟨rfl,_⟩:=id d0;refine lB (S.k.a c0) [.x e0 g0,.f 0 0] Z ⟨Z,⟨b0,by omega⟩,U⟩ (fun a0=>?_) fun a0=>?_
  ·exact lU Z Z ⟨⟨_,Z,fun _=>by omega⟩,S.fin⟩
  refine lP1 Z ⟨μk-1,by omega,Z,k+1,by omega,?_,S,Z⟩;rw[u0a f0];intro hh;rcases List.mem_append.1 hh with h|h
  ·exact ha h
  ·rw[List.mem_singleton.1 h] at a0;exact a0 Z
 refine lU Z Z ?_;exact⟨⟨_,Z,fun hx=>absurd hx (by rw[List.take_of_length_le (by omega)] at ha;exact ha)⟩,S.fin⟩
theorem r0b(M:List Nat)(w0:World)(v u:Value)(a b:List Int)(hA:RdI M w0 v a)(hB:RdI M w0 u b)(h:∀x∈a,x∈b):A0a prog 140 #[v,u] w0 fun v w'=>v=.bool true∧Bw w0 w':=by
 obtain⟨A,n,c,rfl⟩:=hA.form;obtain⟨_,-,_⟩:=hA.len;obtain⟨A',n',c',rfl⟩:=hB.form;have S:=St.refl w0;refine a0a func140 Z ntmps140 Z ?_;refine wC1 Z (wL (fun μk D ε w=>D=[]∧∃k:Nat,(k+μk=(a.length))∧St [] w0 w []∧Sl ε [(0,.slice A n c),(1,.slice A' n' c'),(5,.int .i64 k)]) (μ:=(a.length)) ⟨Z,0,by omega,S,Z⟩ ?_);rintro μk D ε w ⟨rfl,k,_,S,eZ⟩;refine wK eZ (wB1 Z (fun h9=>?_) fun h9=>?_)
 ·obtain⟨x,e0,i0,_,g0,a0,_,_,b0,c0⟩:=RdS.get (hA) (k) (by omega);obtain⟨rfl,_⟩:=id c0;refine lO (S.k.a b0) [.x e0 i0,.f 0 0] Z ⟨Z,⟨a0,by omega⟩,U⟩ (h0a S H8c Z Z (I9b M _ _ b x (hB.keep (S.keep0 M))) ?_);rintro n0 o0 ⟨_,rfl,hr⟩ d0 j0;have m0:=hr (h x (c0a g0));refine lB1 Z (fun f0=>by exfalso;omega) fun f0=>?_;refine lP1 Z ⟨μk-1,by omega,Z,k+1,by omega,d0,Z⟩
 exact lU Z Z ⟨Z,S.fin⟩
theorem F5b(M:List Nat)(w0:World)(v u:Value)(a b:List Int)(hA:RdI M w0 v a)(hB:RdI M w0 u b):
 A0a prog 41 #[v,u] w0 fun v w'=>v=.bool (decide (a=b))∧Bw w0 w':=by
 obtain⟨A,n,c,rfl⟩:=hA.form;obtain⟨hn,-,_⟩:=hA.len;obtain⟨A',n',c',rfl⟩:=hB.form;obtain⟨_,-,_⟩:=hB.len;have S:=St.refl w0;refine a0a func41 Z ntmps41 Z ?_;refine wB1 Z (fun q0=>?_) fun q0=>?_
 ·refine lR1 Z (w0a Z ?_);exact⟨by rw[decide_eq_false (fun h=>by rw[h] at hn;omega)],S.fin⟩
 refine lC1 Z (wL (fun μk D ε w=>D=[]∧∃k:Nat,(k+μk=(a.length))∧(a.take k=b.take k)∧St [] w0 w []∧Sl ε [(0,.slice A n c),(1,.slice A' n' c'),(5,.int .i64 k)]) (μ:=(a.length)) ⟨Z,0,by omega,by simp,S,Z⟩ ?_);rintro μk D ε w ⟨rfl,k,_,he,S,eZ⟩;refine wK eZ (wB1 Z (fun r0=>?_) fun r0=>?_)
 ·refine lC1 Z (y0a b0a [0,1,2,3,4,5,6,7,8] [] [] Z (Cl _ _ _ _) (Cl.start S) ?_);obtain⟨x,o0,s0,_,j0,c0,_,_,e0,g0⟩:=RdS.get (hA) (k) (by omega);obtain⟨rfl,_⟩:=id g0;obtain⟨_,p0,t0,_,m0,d0,_,_,f0,i0⟩:=RdS.get (hB) (k) (by omega);obtain⟨rfl,_⟩:=id i0;refine qB ((S.q.a f0).a e0) [.x o0 s0,.f 0 0,.x p0 t0,.f 1 0] Z ⟨Z,⟨d0,by omega⟩,Z,⟨c0,by omega⟩,U⟩ (fun b0=>?_) fun b0=>?_
  ·refine lV Z ?_;rintro u0 ⟨a0,n0⟩;refine lR1 Z (w0a Z ?_);exact⟨by rw[decide_eq_false (fun h=>b0 (Option.some.inj (j0.symm.trans (by rw[h];exact m0))))],a0.fin⟩
  refine lV Z ?_;rintro u0 ⟨a0,n0⟩;refine lP1 Z ⟨μk-1,by omega,Z,k+1,by omega,?_,a0,Z⟩;rw[u0a j0,u0a m0,he,b0]
 refine lR1 Z (w0a Z ?_);exact⟨by rw[decide_eq_true (by rw[List.take_of_length_le (by omega),List.take_of_length_le (by omega)] at he;exact he)],S.fin⟩
theorem Z3b(C W:List Int)(n:Nat)(f:Nat→Nat→Bool)(M:List Nat)(w0:World)(vc vw vt:Value)(hC:RdI M w0 vc C)(hW:RdI M w0 vw W)(hT:i2c M w0 vt n f)(hn:n≤64:=by omega)(hlc:C.length≤1000:=by omega)(hlw:W.length≤1000:=by omega):
 A0a prog 80 #[vc,vw,vt] w0 fun v w'=>(∃a b c,v=.agg #[a,b,c]∧X3a w0 w' a C∧X3a w0 w' b W∧j4b w0 w' c (v9a f n n))∧Bw w0 w':=by
 obtain⟨_,_,c,rfl⟩:=hC.form;obtain⟨_,_,_,rfl⟩:=hW.form;obtain⟨At,nt,ct,rfl⟩:=hT.form;obtain⟨y0,-,_⟩:=hT.len;have E1:nt=n:=by rw[y0];simp[e7c]
 have iC:=hC.i64s;have iW:=hW.i64s;have b1:=X6a (f:=f) hn n;have S:=(St.refl w0).nilEnt 72;refine a0a func80 Z ntmps80 Z ?_;refine wO1 Z (g0a S J3a Z Z ?_);intro g6 w6 S6 X6 G6;refine lO1 Z (m6a S6 R0a Z ?_);intro X0 I1 D0 v1 r1;refine lO1 Z ?_;refine t0b v5a (k:=0) (M2:=[]) D0 R0a Z (T1a.new (g:=X0)) Z Z ((hC.less (M':=[]) (by simp)).keep (D0.keep0 [])) (by simp;omega) Z ?_;intro F1 B0 j0 J1 L0 p0 w1 o1;rw[List.nil_append] at p0;obtain⟨z0,H0,rfl⟩:=p0.form;refine m6a L0 R0a Z ?_;intro Y0 K1 E0 x1 s1;refine lO1 Z ?_;refine t0b v5a (k:=0) (M2:=[]) E0 R0a Z (T1a.new (g:=Y0)) Z Z ((hW.less (M':=[]) (by simp)).keep (E0.keep0 [])) (by simp;omega) Z ?_;intro G1 C0 m0 M1 N0 q0 y1 p1;rw[List.nil_append] at q0;obtain⟨A0,I0,rfl⟩:=q0.form;refine s0a v3a (vs:=[(0,.slice _ _ _),(1,.slice _ _ _)]) (cs:=[_,_,_]) Z Z Z Z ?_;refine g0a N0 J3a Z Z ?_;intro g7 w7 S7 X7 G7;refine d0a (kk:=0) (vs:=[_,_,_]) S7 B2a Z Z Z Z Z Z Z ?_;intro m1 i0 P0;dsimp only[e0a,List.set] at i0;refine lC1 Z (wL (fun μx D ε w=>D=[]∧∃x:Nat,∃G:Option Nat,∃cs:LV,∃v:Value,(x+μx=(n))∧(T1a r6a 2 [] w0 G cs v (v9a f n x))∧St [] w0 w [(some g7,41,[.slice z0 C.length H0,.slice A0 W.length I0,v]),(C0,3,m0),(B0,3,j0),(some g6,41,[.slice none 0 0,.slice none 0 0,.slice none 0 0]),(G,72,cs)]∧Sl ε [(2,.slice At nt ct),(6,.pointer (some ⟨g6,0,none⟩)),(7,.pointer (some ⟨g7,0,none⟩)),(8,.int .i64 x)]) (μ:=(n)) ⟨Z,0,none,[],.slice none 0 0,by omega,T1a.nil,i0,Z⟩ ?_);rintro μx D ε w ⟨rfl,x,G,cs,v,_,f0,S,eZ⟩;refine wK eZ (wB1 Z (fun Z0=>?_) fun Z0=>?_)
 ·refine lC1 Z (wL (fun μy D ε w=>D=[]∧∃y:Nat,∃G2:Option Nat,∃cs2:LV,∃v2:Value,(y+μy=(n))∧(T1a r6a 2 [] w0 G2 cs2 v2 (v9a f n x++o4b f x y))∧St [] w0 w [(some g7,41,[.slice z0 C.length H0,.slice A0 W.length I0,v2]),(C0,3,m0),(B0,3,j0),(some g6,41,[.slice none 0 0,.slice none 0 0,.slice none 0 0]),(G2,72,cs2)]∧Sl ε [(2,.slice At nt ct),(6,.pointer (some ⟨g6,0,none⟩)),(7,.pointer (some ⟨g7,0,none⟩)),(8,.int .i64 x),(9,.int .i64 y)]) (μ:=(n)) ⟨Z,0,_,_,_,by omega,(by simpa[o4b] using f0),S,Z⟩ ?_);rintro μy D ε w ⟨rfl,y,G2,cs2,v2,_,b0,S,eZ⟩;refine wK eZ (wB1 Z (fun a1=>?_) fun a1=>?_)
  ·obtain⟨_,R0,g1,T0,d1,s0,_,_,u0,d0⟩:=RdS.get (hT) (x) (by omega);obtain⟨j1,W0,g0⟩:=d0;obtain rfl:T0=[j1]:=W0;obtain⟨_,_,_,rfl⟩:=g0.form;have d0:=j3b (f:=f) (x:=x) (n:=n);rw[d1] at d0;cases d0;have v0:((List.range n).map (f x)).length=n:=by simp
   obtain⟨x0,-,_⟩:=g0.len;rw[v0] at x0;obtain⟨z,S0,i1,U0,J0,t0,_,_,o0,e0⟩:=RdS.get (g0) (y) (by omega);obtain e0:=e0;obtain rfl:U0=[Value.bool z]:=e0;rw[J8b] at J0;have hz:f x y=z:=Option.some.inj J0;refine lO (S.k.a u0) [.x R0 g1,.f 0 0,.x S0 i1] Z ⟨⟨t0,by omega⟩,Z,⟨s0,by omega⟩,U⟩ ?_;cases n0:z
   ·refine G0a E2a Z (by exact(S.old (o0 0 _ Z)).trans (congrArg (fun b=>some (Value.bool b)) n0)) Z ?_;refine lP1 Z ⟨μy-1,by omega,Z,y+1,_,_,_,by omega,?_,S,Z⟩;rw[f8a];rw[if_neg (by simp[*])];exact b0
   refine G0a E2a Z (by exact(S.old (o0 0 _ Z)).trans (congrArg (fun b=>some (Value.bool b)) n0)) Z ?_;refine lCn 3 S.k [] Z U ?_;have C1:f x y=true:=by rw[hz];assumption
   obtain⟨Av,cv,rfl⟩:=b0.form;have D1:(v9a f n x++o4b f x y).length≤64*64+64:=by
    have h1:=X6a (f:=f) hn x;have h2:=R3b (f:=f) (x:=x) (n:=y);rw[List.length_append];omega
   refine wO1 Z (G0a P4a Z (by exact S.cell 0 Z Z) Z ?_);refine lO1 Z (s0a T3a (vs:=[(0,.int .i64 _),(1,.int .i64 _)]) (cs:=[_,_]) Z Z Z Z ?_);refine k0a S S2a (vs:=[.agg _]) (cs:=[_,_]) Z Z Z Z Z Z ?_;intro B1 N1 F0 z1 t1;refine r1a g7a (k:=5) (M2:=[]) (e1:=((x:Int),(y:Int))) F0 S2a Z b0 Z Z (F0.cells 0 Z) ⟨Z,by unfold i64;omega,by unfold i64;omega⟩ (by omega) Z ?_;intro H1 u1 V0 O1 O0 c0 A1 q1;obtain⟨_,_,rfl⟩:=c0.form;refine lO1 Z (X0a (kk:=1) O0 C9c Z Z Z (by exact Nat.le_of_ble_eq_true Z) ?_);intro n1 r0 Q0;refine lP1 Z ⟨μy-1,by omega,Z,y+1,_,_,_,by omega,?_,r0.tail,Z⟩;rw[f8a];rw[if_pos (by assumption),←List.append_assoc];exact c0
  refine lP1 Z ⟨μx-1,by omega,Z,x+1,_,_,_,by omega,?_,S,Z⟩;have f1:y=n:=by omega
  rw[f1] at b0;rw[w8a];exact b0
 obtain⟨Av,cv,rfl⟩:=f0.form;refine lO S.k [.w 0] Z ⟨⟨Z,by rfl⟩,U⟩ (d0a (kk:=3) (vs:=[_,_,_]) S B2a Z Z Z Z Z Z Z ?_);intro K0 a0 G0;dsimp only[e0a,List.set] at a0;refine lR1 Z ?_;have c1:x=n:=by omega
 subst c1;exact t0a Z x1a Z (a0.cells 3 Z) Z ⟨⟨_,_,_,Z,fun M hM=>(T1a.newRow (k:=2) p0 a0 Z).rd hM iC a0.fin (by omega),fun M hM=>(T1a.newRow (k:=1) q0 a0 Z).rd hM iW a0.fin (by omega),fun M hM=>f0.newP a0 (k:=4) Z hM (by omega)⟩,a0.fin⟩
def ofT(C W:List Int)(e:E)(x y:Nat):Bool:=decide (e.val (stZ C W x R1a) (stZ C W y R1a)=1)
def upT(f:Nat→Nat→Bool)(x y a c:Nat):Bool:=if a<x∨(a=x∧c<y) then f a c else false
theorem F4c(f:Nat→Nat→Bool):upT f 0 0=fun _ _=>false:=by funext a c;simp[upT]
theorem G4c{f:Nat→Nat→Bool}{x y:Nat}(a c:Nat):upT f x (y+1) a c=if a=x∧c=y then f x y else upT f x y a c:=by
 unfold upT;by_cases h:a=x∧c=y
 ·rw[if_pos h,if_pos (.inr ⟨h.1,by omega⟩),h.1,h.2]
 ·rw[if_neg h];by_cases h2:a<x∨(a=x∧c<y)
  ·rw[if_pos h2,if_pos (by omega)]
  ·rw[if_neg h2,if_neg (by omega)]
theorem U9a.congr{tB n k:Nat}{a0:List Ent}{vs:LV}{f g:Nat→Nat→Bool}(h:U9a tB n a0 vs f k)(he:∀x,x<k→∀y,y<n→f x y=g x y):U9a tB n a0 vs g k :=
 ⟨h.1,h.2.1,fun x hx=>by
  obtain⟨b,h4,h5⟩:=h.2.2 x hx;refine⟨b,?_,h5⟩;rw[h4];unfold C3b;rw[List.map_congr_left fun y hy=>he x hx y (List.mem_range.1 hy)]⟩
def InB(rows:List Ent)(Gs:List Nat):Prop:=∀(i g t:Nat) (cs:LV),rows[i]?=some (some g,t,cs)→g∈Gs
theorem InB.refl(a0:List Ent):InB a0 (a0.filterMap (·.1)):=fun _ _ _ _ h=>List.mem_filterMap.2 ⟨_,List.mem_of_getElem? h,Z⟩
theorem InB.set{a0:List Ent}{Gs:List Nat}(h:InB a0 Gs){x g t:Nat}{cs:LV}(hg:g∈Gs):InB (a0.set x (some g,t,cs)) Gs:=fun i g' t' b0 hi=>by
 by_cases hx:x=i
 ·subst hx;by_cases hl:x<a0.length
  ·rw[List.getElem?_set_self hl] at hi;cases hi;exact hg
  ·rw[List.set_eq_of_length_le (by omega)] at hi;exact h _ _ _ _ hi
 ·rw[List.getElem?_set_ne hx] at hi;exact h _ _ _ _ hi
theorem St.newB{M:List Nat}{w0 w:World}{a0:List Ent}(S:St M w0 w a0):∀g∈a0.filterMap (·.1),w0.heap.size≤g∨g∈M:=fun g hg=>by
 obtain⟨⟨_,_⟩,he,hg⟩:=List.mem_filterMap.1 hg;simp only at hg;subst hg;obtain⟨i,hi,h2⟩:=List.getElem_of_mem he;exact S.new i (by rw[List.getElem?_eq_getElem hi,h2])
theorem St.ltB{M:List Nat}{w0 w:World}{a0:List Ent}(S:St M w0 w a0):∀g∈a0.filterMap (·.1),g<w.heap.size:=fun g hg=>by
 obtain⟨⟨_,_⟩,he,hg⟩:=List.mem_filterMap.1 hg;simp only at hg;subst hg;obtain⟨i,hi,h2⟩:=List.getElem_of_mem he;exact S.lt i (by rw[List.getElem?_eq_getElem hi,h2])
section
variable {P:Program} {N:Nat} {ops:Array Oper} {rest:List Oper} {C:World→Prop} {Kq:Env→Prop} {e:Env} {d:Nat} {t xt yt:TypeId} {p:String} {af:Array Edge} {x y:Operand} {kd:IntKind} {a b:Int}
theorem D2d(hx:ev e x=.int kd a)(hy:ev e y=.int kd b)(hd:Nat.ble (d+1) N=true)(h:QL P N ops C rest Kq (upd e d (.bool (decide (a=b))))):
 QL P N ops C (⟨some d,.binOp .eql xt x y yt,t,p,af,none⟩::rest) Kq e:=by
 refine y9b hx hy hd (fun hh=>?_) fun hh=>?_
 ·rwa [decide_eq_true hh] at h
 ·rwa [decide_eq_false hh] at h
end
theorem p9b(p:List g1a)(C:List Int)(M:List Nat)(w0:World)(vc vl:Value)(hP:i0b M w0 vc p)(hC:RdI M w0 vl C)(a0:OKL p.length C)(hp:p.length≤32)(hw:∀c∈p,1≤c.w∧c.w≤8)(hs:c2a (wdL p C)≤6):
 A0a prog 138 #[vc,vl] w0 fun v w'=>(∃A n c,v=.tuple #[.slice A n c,.int .i64 0]∧X3a w0 w' (.slice A n c) (wdL p C))∧Bw w0 w':=by
 obtain⟨_,_,_,rfl⟩:=hP.form;obtain⟨A,n,c,rfl⟩:=hC.form;have ho:=j4a a0.1 a0.2 hp hw;have g0:=ho.clen;have i0:=ho.len;have S:=St.refl w0;refine a0a func138 Z ntmps138 Z ?_;refine wO1 Z (h0a S m2c Z Z (U7a p C M _ _ _ (hP.keep (S.keep0 M)) (hC.keep (S.keep0 M)) a0.1 a0.2 hp hw) ?_);rintro j0 m0 ⟨_,rfl,hN⟩ b0 f0;obtain⟨_,_,_,rfl⟩:=hN.form;refine lO1 Z (r0a b0 L7b Z Z (h0b [] _ _ _ (hN [] (by simp)) ho.wid (by omega)) ?_);intro n0 c0 d0;refine lB1 Z (fun e0=>by exfalso;omega) fun e0=>?_;exact lT1 Z Z ⟨⟨_,_,_,Z,hN.keep d0⟩,c0.fin⟩
theorem P8c(p:List g1a)(C:List Int)(e:E)(M:List Nat)(w0:World)(vc vl:Value)(es:LV)(hP:i0b M w0 vc p)(hC:RdI M w0 vl C)(hE:RdE M w0 e es)(Z0:OKL p.length C)(hp:p.length≤32)(hw:∀c∈p,1≤c.w∧c.w≤8)(d0:Nat)(hb:c2a (wdL p C)=d0)(o1:d0≤6)(r1:e.valid p true=true)(v2:e.w=1)(a2:∀x∈e.sup 3,x∈C)(Z1:∀x∈e.sup 2,x∈C):
 A0a prog 76 #[vc,vl,.agg es.toArray] w0 fun v w'=>(∃a b c,v=.tuple #[.agg #[a,b,c],.int .i64 0]∧X3a w0 w' a C∧X3a w0 w' b (wdL p C)∧j4b w0 w' c (v9a (ofT C (wdL p C) e) (2 ^ d0) (2 ^ d0)))∧Bw w0 w':=by
 obtain⟨_,_,_,rfl⟩:=hP.form;obtain⟨A,n,c,rfl⟩:=hC.form;obtain⟨Ae,ne,ce,rfl,-⟩:=hE.cells;have ho:=j4a Z0.1 Z0.2 hp hw;have t2:=ho.clen;have w2:=ho.len;have u2:2 ^ d0≤64:=by have:=Nat.pow_le_pow_right (n:=2) (by omega) o1;omega
 have B0:=(h2a r1).2.1;obtain⟨nn,Y0⟩:∃nn,nn=2 ^ d0:=⟨_,Z⟩;have u1:∀x:Nat,x<nn→∀(M:List Nat) (w0:World) (v u i vb:Value),RdI M w0 v C→RdI M w0 u (wdL p C)→RdI M w0 vb R1a→A0a prog 44 #[.agg #[v,u,i],.int .i64 x,vb] w0 fun v w'=>X3a w0 w' v (stZ C (wdL p C) x R1a)∧Bw w0 w':=fun x hx M w0 v u i vb h1 h2 h3 =>
  a9a C (wdL p C) R1a x M w0 v u i vb h1 h2 ho (by rw[hb,Int.toNat_natCast,←Y0];exact hx) h3 W2a i3a
 obtain⟨F,hF⟩:∃F,F=ofT C (wdL p C) e:=⟨_,Z⟩;rw[←Y0,←hF];have S:=St.refl w0;refine a0a func76 Z ntmps76 Z ?_;refine wO1 Z (o0a S Z ?_);intro g5 w5 S5 X5 G5;refine g0a S5 J3a Z Z ?_;intro g6 w6 S6 X6 G6;refine lO1 Z (h0a S6 m9c Z Z (p9b p C M _ _ _ (hP.keep (S6.keep0 M)) (hC.keep (S6.keep0 M)) Z0 hp hw (by omega)) ?_);rintro v20 y1 ⟨A1,n1,c1,rfl,hN⟩ D0 o2;have KW:=x0a.refl [] y1;refine lB1 Z (fun Q1=>by exfalso;omega) fun Q1=>?_;refine lO D0.k [.w 1] Z ⟨⟨Z,Z⟩,U⟩ (r0a D0 F0b Z Z (Z1a (A8a e M _ [_,_,_,_] _ p true (RdE.keep (D0.keep0 M) _ _ hE) (hP.keep (D0.keep0 M))) r1) ?_);intro E2 E0 J1;replace KW:=KW.trans J1;refine lB E0.k [.o 1] Z ⟨Z,U⟩ (fun R1=>by exfalso;omega) fun R1=>?_;refine lO E0.k [.w 1] Z ⟨⟨Z,Z⟩,U⟩ (h0a E0 D8b Z Z (k5a e [] _ [_,_,_,_] ((RdE.keep (E0.keep0 M) _ _ hE).less (by simp)) (by simp)) ?_);rintro v39 F2 ⟨_,_,rfl,y0,z0⟩ d1 K1;replace KW:=KW.trans K1;obtain⟨_,_,_,rfl⟩:=y0.form;obtain⟨_,_,_,rfl⟩:=z0.form;refine lO1 Z (r0a d1 X3c Z Z (r0b [] _ _ _ (e.sup 3) C y0 ((hC.keep (d1.keep0 M)).less (by simp)) a2) ?_);intro G2 f1 j1;replace KW:=KW.trans j1;refine lO1 Z (r0a f1 X3c Z Z (r0b [] _ _ _ (e.sup 2) C (z0.keep j1) ((hC.keep (f1.keep0 M)).less (by simp)) Z1) ?_);intro d2 g1 M1;replace KW:=KW.trans M1;refine lO1 Z ?_;have q2:=KW.size;have A0:=Y6a [] d2 _ C (wdL p C) d0 ((hN [] (by simp)).keep KW) ho hb o1;rw[←Y0] at A0;refine h0a g1 G8b Z Z A0 ?_;rintro y2 C0 X0 n2 N1;obtain⟨r0,vs,m0,rfl,S2,X1⟩:=X0;have K0:=g1.joinR S2;obtain⟨Gs,T0⟩:∃Gs,Gs=m0.filterMap (·.1):=⟨_,Z⟩;have W1:∀g∈Gs,y1.heap.size≤g:=fun g hg=>by
  rcases S2.tail.newB g (T0▸hg) with h|h
  ·omega
  ·cases h
 have V1:∀g∈Gs,g<C0.heap.size:=fun g hg=>S2.tail.ltB g (T0▸hg);have q0:RdI Gs C0 (.slice A1 n1 c1) (wdL p C):=(RdS.more (hN [] (by simp)) (by omega) (fun g hg=>.inr (W1 g hg))).keep (KW.trans N1).of_nil;have KB:=x0a.refl Gs C0;refine lO1 Z (s0a r7a (vs:=[(0,.slice _ _ _),(1,.slice _ _ _)]) (cs:=[_,_,_]) Z Z Z Z ?_);refine g0a K0 D5a Z Z ?_;intro H0 C2 F1 I1 C1;have s0:=Nat.le_trans KB.size C1;replace KB:=KB.trans (I1.of_nil);refine d0a (kk:=0) (vs:=[_,_,_]) F1 i5a Z Z Z Z Z Z Z ?_;intro v1 n0 t0;dsimp only[e0a,List.set] at n0;replace KB:=KB.fresh2 t0 (by exact .inl s0);refine lC1 Z (wL (fun μx D ε w=>D=[]∧∃x:Nat,∃f0:List Ent,(x+μx=(nn))∧(U9a 4 nn f0 vs (upT F x 0) nn)∧(InB f0 Gs)∧(x0a Gs C0 w)∧St [] w0 w ([(some H0,89,[.slice A n c,.slice A1 n1 c1,.slice none 0 0]),(some r0,86,vs),(some g6,41,[.slice none 0 0,.slice none 0 0,.slice none 0 0]),(some g5,37,[.int .i64 e.op,.int .i64 e.w,.int .i64 e.n,.slice Ae ne ce])]++f0)∧Sl ε [(1,.slice A n c),(5,.pointer (some ⟨g5,0,none⟩)),(6,.pointer (some ⟨g6,0,none⟩)),(8,.slice A1 n1 c1),(12,.slice (some ⟨r0,0,none⟩) nn nn),(13,.pointer (some ⟨H0,0,none⟩)),(14,.int .i64 x)]) (μ:=(nn)) ⟨Z,0,m0,by omega,F4c F▸X1,T0▸InB.refl m0,KB,n0,Z⟩ ?_);rintro μx D ε w ⟨rfl,x,f0,hx,hT,hB,KB,S,eZ⟩;refine wK eZ (wB1 Z (fun T1=>?_) fun T1=>?_)
 ·refine lC1 Z (y0a b0a [0,1] [2] [3,4] Z (Cl _ _ _ _) (Cl.start S) ?_);refine z1a A2a Z (fun w1 hw=>hw.1.cells 0 Z) Z Z ?_;refine qN1 Z (h4a ?_);refine b4b (n:=32) (c:=32) Z Z R0a Z Z Z ?_;refine O1a ?_;rintro i2 ⟨i0,Q0⟩;intro r2 V0 D1 a1;dsimp only[V3a];replace KB:=KB.trans (Q0.of_nil);clear a1;replace i0:=i0.push_new S V0 D1;have ZB:=KB.size;refine h0a i0 U8b Z Z (u1 x (by omega) [] _ _ _ _ _ ((hC.keep (i0.keep0 M)).less (by simp)) ((q0.keep KB).less (by simp)) (k6a (i0.blk 0 Z))) ?_;rintro z2 z1 v0 G1 O1;replace KB:=KB.trans (O1.of_nil);obtain⟨B1,b2,P1,rfl⟩:=v0.form;have S0:=v0 Gs (fun g hg=>by have:=V1 g hg;omega);have KT:=x0a.refl Gs z1;refine lC1 Z (wL (fun μy D ε w=>D=[]∧∃y:Nat,∃c0:List Ent,(y+μy=(nn))∧(U9a 4 nn c0 vs (upT F x y) nn)∧(InB c0 Gs)∧(x0a Gs C0 w)∧(x0a Gs z1 w)∧St [] w0 w ([(some H0,89,[.slice A n c,.slice A1 n1 c1,.slice none 0 0]),(some r0,86,vs),(some g6,41,[.slice none 0 0,.slice none 0 0,.slice none 0 0]),(some g5,37,[.int .i64 e.op,.int .i64 e.w,.int .i64 e.n,.slice Ae ne ce])]++c0)∧Sl ε [(1,.slice A n c),(5,.pointer (some ⟨g5,0,none⟩)),(6,.pointer (some ⟨g6,0,none⟩)),(8,.slice A1 n1 c1),(12,.slice (some ⟨r0,0,none⟩) nn nn),(13,.pointer (some ⟨H0,0,none⟩)),(14,.int .i64 x),(15,.slice B1 b2 P1),(16,.int .i64 y)]) (μ:=(nn)) ⟨Z,0,f0,by omega,hT,hB,KB,KT,G1.tail,Z⟩ ?_);rintro μy D ε w ⟨rfl,y,c0,_,I0,R0,e0,KT,S,eZ⟩;refine wK eZ (wB1 Z (fun U1=>?_) fun U1=>?_)
  ·obtain⟨_,t1,s1⟩:=I0.2.2 x (by omega);have x2:=I0.2.1;have W0:=R0 _ _ _ _ t1;refine lC1 Z (Y6c b0a (fun i=>[0,1,2,3,4,5,6,7,8,12,13].contains i) [0,1,2,3,4,5,6,7,8,9,10,11,12,13] 14 (M4d S) _ Z ?_);have b0:=S.drew;have a0:x0a [] w w.drew:=Z4a _ _;generalize w.drew=j2 at b0 a0 ⊢;replace e0:=e0.trans (a0.of_nil);replace KT:=KT.trans (a0.of_nil);refine f3a ⟨b0,a0⟩ Z Z Z ?_;refine i1a Z ?_;refine n0a ?_;refine f3a ⟨b0,a0⟩ Z Z Z ?_;refine i1a (hv:=Z) (v:=.int .i64 _) Z ?_;refine n0a ?_;refine f3a ⟨b0,a0⟩ Z Z Z ?_;refine F0a D6b.slT Z (by rfl) Z Z ?_;refine n0a ?_;refine f3a ⟨b0,a0⟩ Z Z Z ?_;refine j0a B1b Z (fun w1 hw=>by exact hw.1.cell 1 Z (by rw[show 0+(x:Int).toNat*1=x by omega];exact s1)) Z ?_;refine n0a ?_;refine f3a ⟨b0,a0⟩ Z Z Z ?_;refine i1a (hv:=Z) (v:=.int .i64 _) Z ?_;refine n0a ?_;refine f3a ⟨b0,a0⟩ Z Z Z ?_;refine z1a D0a Z (fun w1 hw=>hw.1.cells 3 Z) Z Z ?_;refine n0a ?_;refine f3a ⟨b0,a0⟩ Z Z Z ?_;refine i1a Z ?_;refine n0a ?_;refine f3a ⟨b0,a0⟩ Z Z Z ?_;refine z1a A2a Z (fun w1 hw=>hw.1.cells 0 Z) Z Z ?_;refine n0a ?_;refine f3a ⟨b0,a0⟩ Z Z Z ?_;refine i1a (hv:=Z) (v:=.int .i64 _) Z ?_;refine n0a ?_;refine q8b ⟨b0,a0⟩ Z Z Z Z ?_;refine s7a (n:=32) (c:=32) b0 R0a Z Z Z Z ?_;intro s2 H2 F0 N0 m2;have o0:=a0.trans N0;replace e0:=e0.trans (N0.of_nil);replace KT:=KT.trans (N0.of_nil);refine S0a ⟨Z,?_⟩;refine q8b ⟨F0.tail,o0⟩ Z Z Z Z ?_;refine h0a F0 U8b Z Z (u1 y (by omega) [] _ _ _ _ _ ((hC.keep (F0.keep0 M)).less (by simp)) ((q0.keep e0).less (by simp)) (k6a (F0.blk 0 Z))) ?_;rintro A2 e2 x0 L0 O0;have p0:=o0.trans O0;replace e0:=e0.trans (O0.of_nil);replace KT:=KT.trans (O0.of_nil);obtain⟨_,_,_,rfl⟩:=x0.form;have E1:=x0a.refl [] e2;refine S0a ⟨Z,?_⟩;refine q8b ⟨L0.tail,p0⟩ Z Z Z Z ?_;refine r0a L0 J2c Z Z (i9b e [] _ [_,_,_,_] _ _ (stZ C (wdL p C) x R1a) (stZ C (wdL p C) y R1a) 40 ((RdE.keep (L0.keep0 M) _ _ hE).less (by simp)) ((S0.keep KT).less (by simp)) ((x0 [] (by simp)).keep E1) B0) ?_;intro f2 G0 P0;have j0:=p0.trans P0;replace e0:=e0.trans (P0.of_nil);replace KT:=KT.trans (P0.of_nil);refine S0a ⟨Z,?_⟩;refine f3a ⟨G0.tail,j0⟩ Z Z Z ?_;refine D2d Z Z Z ?_;refine n0a ?_;refine f3a ⟨G0.tail,j0⟩ Z Z Z ?_;refine F0a m4a.slT Z (by rfl) Z Z ?_;refine n0a ?_;refine K7b ⟨G0.tail,j0⟩ ?_;have J0:St [] w0 f2 ([_,_,_,_,_]++c0):=G0;refine X0a (hy:=(by rw[hF];rfl)) (kk:=5+x) (v:=.bool (F x y)) J0 p4b Z Z (by rw[g7c [_,_,_,_,_] c0 _ 5 rfl];exact t1) (by rw[v8a];omega) ?_;intro D2 b1 i1;rw[y2d [_,_,_,_,_] c0 _ 5 Z,show 0+(y:Int).toNat*1=y by omega] at b1;replace e0:=e0.trans (i1.mono (by simpa using W0));replace KT:=KT.trans (i1.mono (by simpa using W0));refine S0a ⟨Z,?_⟩;refine fP0 Z ⟨by omega,U⟩ ⟨μy-1,by omega,Z,y+1,_,by omega,?_,?_,(e0),(KT),b1.tail,Z⟩
   ·refine I0.putV (b:=F x y) (by omega) s1 fun a b=>G4c a b
   ·exact R0.set W0
  refine lP1 Z ⟨μx-1,by omega,Z,x+1,_,by omega,?_,(R0),(e0),S,Z⟩;exact I0.congr fun a ha c hc=>by
   unfold upT;by_cases h:a<x+1
   ·rw[if_pos (by omega),if_pos (by omega)]
   ·rw[if_neg (by omega),if_neg (by omega)]
 obtain rfl:x=nn:=by omega
 have Y1:i2c [] w (.slice (some ⟨r0,0,none⟩) x x) x F:=j1b.rd ⟨r0,vs,f0,Z,S.sublist (List.Sublist.cons _ (List.Sublist.cons_cons _ (List.Sublist.cons _ (List.sublist_cons_self _ _)))),hT.congr fun a ha c hc=>by show(if _ then _ else _)=_;rw[if_pos (.inl ha)]⟩ (by omega) (fun _ hg=>absurd hg List.not_mem_nil);have Z9:=S.size;have U0:∀g∈[g6],g<w.heap.size:=fun g hg=>by rw[List.mem_singleton.1 hg];exact S.lt 2 Z
 refine lO1 Z (h0a S o3c Z Z (Z3b C (wdL p C) x F [] _ _ _ _ ((hC.keep (S.keep0 M)).less (M':=[]) (by simp)) ((q0.keep KB).less (M':=[]) (by simp)) Y1) ?_);rintro B2 g2 ⟨_,_,_,rfl,m1,p1,q1⟩ H1 p2;obtain⟨_,_,_,rfl⟩:=m1.form;obtain⟨_,_,_,rfl⟩:=p1.form;obtain⟨_,_,_,rfl⟩:=q1.form;have K9:=x0a.refl [g6] g2;refine d0a (kk:=2) (vs:=[_,_,_]) H1 B2a Z Z Z Z Z Z Z ?_;intro x1 g0 u0;dsimp only[e0a,List.set] at g0;replace K9:=K9.fresh2 u0 (by exact .inr (by simp));exact lR1 Z (L0a (n:=3) Z x1a Z (g0.cells 2 Z) Z Z ⟨⟨_,_,_,Z,m1.later K9 U0 Z9,p1.later K9 U0 Z9,q1.later K9 U0 Z9⟩,g0.fin⟩)
theorem a7b{M:List Nat}{w:World}{g:Nat}{x:Int}(h:i64 x):T1a (fun _ _=>r9b) 1 M w (some g) [.int .i64 x] (.slice (some ⟨g,0,none⟩) 1 1) [x] :=
 ⟨[[.int .i64 x]],Z,by simp,⟨Z,.inr ⟨g,1,Z,Z,by simp,by unfold maxLen;omega,by simp,by simp⟩⟩,fun i y hi=>by
   cases i with
   | zero=>simp at hi;subst hi;exact⟨_,Z,Z,h⟩
   | succ i=>simp at hi⟩
theorem i5c{n y:Nat}{g:Nat→Bool}(h:y<n):(C3b n g)[y]?=some (.bool (g y)):=by unfold C3b bV;simp[h]
noncomputable def cloT(R:Nat→Nat→Prop)(n x a c:Nat):Bool:=if a<x then dec (Clo R n a c) else false
noncomputable def cloU(R:Nat→Nat→Prop)(n x:Nat)(L:List Int)(a c:Nat):Bool:=if a=x then decide ((c:Int)∈L) else cloT R n x a c
theorem A2c(R:Nat→Nat→Prop)(n:Nat):cloT R n 0=fun _ _=>false:=by funext a c;simp[cloT]
theorem x5b{R:Nat→Nat→Prop}{n x y:Nat}{L:List Int}(a c:Nat):cloU R n x (L++[(y:Int)]) a c=if a=x∧c=y then true else cloU R n x L a c:=by
 unfold cloU;by_cases h:a=x
 ·subst h;by_cases h2:c=y
  ·subst h2;simp
  ·have h3:¬(c:Int)=y:=by omega
   simp[h2,h3]
 ·simp[h]
theorem j6c(R:Nat→Nat→Prop)(n x:Nat):cloU R n x []=cloT R n x:=by
 funext a c;unfold cloU cloT
 by_cases h:a=x
 ·subst h;simp
 ·rw[if_neg h]
theorem S5c{R:Nat→Nat→Prop}{n x:Nat}(a c:Nat):cloU R n x [(x:Int)] a c=if a=x∧c=x then true else cloT R n x a c:=by
 rw[←j6c,←x5b];rfl
theorem t4c{R:Nat→Nat→Prop}{n x i y:Nat}{L:List Int}(h:Bfs R n x L i y)(hi:L.length≤i)(a c:Nat):cloU R n x L a c=cloT R n (x+1) a c:=by
 unfold cloU cloT;by_cases h1:a=x
 ·subst h1;rw[if_pos rfl,if_pos (by omega)];by_cases h2:Clo R n a c
  ·rw[s6a h2,decide_eq_true ((h.fin hi c).2 h2)]
  ·rw[J7a h2,decide_eq_false fun h3=>h2 ((h.fin hi c).1 h3)]
 ·rw[if_neg h1];by_cases h2:a<x
  ·rw[if_pos h2,if_pos (by omega)]
  ·rw[if_neg h2,if_neg (by omega)]
theorem y4b(M:List Nat)(w0:World)(v u i:Value)(C W:List Int)(l:List (Int×Int))(a0:Nat)(hC:RdI M w0 v C)(hW:RdI M w0 u W)(hL:V7a M w0 i l)(h:V9a C W)(hb:c2a W=a0)(L0:a0≤6)(hl:∀x∈l,0≤x.1∧x.1<(2 ^ a0:Nat)∧0≤x.2∧x.2<(2 ^ a0:Nat))(u2:l.Pairwise lt2):
 A0a prog 79 #[.agg #[v,u,i]] w0 fun v w'=>(∃a b c,v=.tuple #[.agg #[a,b,c],.int .i64 0]∧X3a w0 w' a C∧X3a w0 w' b W∧j4b w0 w' c (v9a (cloT (fun(x y:Nat)=>((x:Int),(y:Int))∈l) (2 ^ a0) (2 ^ a0)) (2 ^ a0) (2 ^ a0)))∧Bw w0 w':=by
 obtain⟨A,n,c,rfl⟩:=hC.form;obtain⟨A',n',c',rfl⟩:=hW.form;obtain⟨Al,nl,cl,rfl⟩:=hL.form;obtain⟨_,-,_⟩:=hL.len;have m2:2 ^ a0≤64:=by have:=Nat.pow_le_pow_right (n:=2) (by omega) L0;omega
 have Q2:=h.clen;have U2:=h.len;have y0:=fun(w1:World) (h1:RdI [] w1 (.slice A' n' c') W) (h2:V7a [] w1 (.slice Al nl cl) l)=>u0c [] w1 (.slice A n c) _ _ C W l a0 ⟨_,_,_,Z⟩ h1 h2 h hb L0 hl;have F0:=fun(w1:World) (h1:RdI [] w1 (.slice A' n' c') W)=>Y6a [] w1 _ C W a0 h1 h hb L0;have m1:=fun(w1:World) (h0:RdI [] w1 (.slice A n c) C) (h1:RdI [] w1 (.slice A' n' c') W) (h2:V7a [] w1 (.slice Al nl cl) l)=>O9b [] w1 _ _ _ C W l a0 h0 h1 h2 h hb L0 hl u2;obtain⟨nn,t2⟩:∃nn,nn=2 ^ a0:=⟨_,Z⟩;rw[←t2] at m2 hl y0 F0 ⊢;obtain⟨R,hR⟩:∃R:Nat→Nat→Prop,R=fun(x y:Nat)=>((x:Int),(y:Int))∈l:=⟨_,Z⟩;obtain⟨F,hF⟩:∃F,F=fun(x y:Nat)=>decide (((x:Int),(y:Int))∈l):=⟨_,Z⟩;have r1:∀x y,F x y=true↔R x y:=fun x y=>by rw[hF,hR];exact decide_eq_true_iff
 rw[←hF] at y0;rw[←hR];have S:=St.refl w0;refine a0a func79 Z ntmps79 Z ?_;refine wO1 Z (o0a S Z ?_);intro g1 w1 S1 X1 G1;refine g0a S1 J3a Z Z ?_;intro g2 w2 S2 X2 G2;refine lO S2.k [.w 1] Z ⟨⟨Z,Z⟩,U⟩ (r0a S2 U2d Z Z (m1 _ ((hC.keep (S2.keep0 M)).less (by simp)) ((hW.keep (S2.keep0 M)).less (by simp)) ((hL.keep (S2.keep0 M)).less (by simp))) ?_);intro b3 J0 J2;refine lO J0.k [.w 1] Z ⟨⟨Z,Z⟩,U⟩ (h0a J0 X1d Z Z (y0 _ ((hW.keep (J0.keep0 M)).less (by simp)) ((hL.keep (J0.keep0 M)).less (by simp))) ?_);rintro W2 r0 Y0 K0 K2;have s0:=Y0.rd (by omega) (M:=[]) (by simp);obtain⟨P0,O0,S0,rfl⟩:=s0.form;obtain⟨d1,-,_⟩:=s0.len;have C1:O0=nn:=by rw[d1];simp[e7c]
 have n1:=x0a.refl [] r0;refine lO K0.k [.o 1] Z ⟨Z,U⟩ ?_;have O2:=n1.size;refine h0a K0 G8b Z Z (F0 _ ((hW.keep (K0.keep0 M)).less (by simp))) ?_;rintro Y2 E2 i1 I2 P1;obtain⟨g18,vs,n0,rfl,S2,p2⟩:=i1;have R0:=K0.joinR S2;obtain⟨Gs,X0⟩:∃Gs,Gs=n0.filterMap (·.1):=⟨_,Z⟩;have s1:∀g∈Gs,r0.heap.size≤g:=fun g hg=>by
  rcases S2.tail.newB g (X0▸hg) with h|h
  ·omega
  ·cases h
 have R2:∀g∈Gs,g<E2.heap.size:=fun g hg=>S2.tail.ltB g (X0▸hg);have KT:=n1.trans P1;refine lC1 Z (wL (fun μx D ε w=>D=[]∧∃x:Nat,∃e0:List Ent,(x+μx=(nn))∧(U9a 4 nn e0 vs (cloT R nn x) nn)∧(InB e0 Gs)∧(x0a [] r0 w)∧St [] w0 w ([(some g18,86,vs),(some g2,41,[.slice none 0 0,.slice none 0 0,.slice none 0 0]),(some g1,41,[.slice A n c,.slice A' n' c',.slice Al nl cl])]++e0)∧Sl ε [(1,.pointer (some ⟨g1,0,none⟩)),(2,.pointer (some ⟨g2,0,none⟩)),(4,.slice P0 O0 S0),(5,.slice (some ⟨g18,0,none⟩) nn nn),(6,.int .i64 x)]) (μ:=(nn)) ⟨Z,0,n0,by omega,A2c R nn▸p2,X0▸InB.refl n0,KT,R0,Z⟩ ?_);rintro μx D ε w ⟨rfl,x,e0,_,hT,hB,KT,S,eZ⟩;refine wK eZ (wB1 Z (fun f2=>?_) fun f2=>?_)
 ·obtain⟨_,D1,B1⟩:=hT.2.2 x (by omega);have V2:=hT.2.1;have A1:=hB _ _ _ _ D1;refine lO S.k [.i] Z ⟨by omega,U⟩ ?_;refine G0a B1b Z (S.cell 0 Z (by rw[show 0+(x:Int).toNat*1=x by omega];exact B1)) Z ?_;refine lO1 Z (N0a m4a.slT Z (by rfl) Z Z ?_);refine X0a (hy:=Z) (kk:=3+x) (v:=.bool true) S p4b Z Z (by rw[g7c [_,_,_] e0 _ 3 rfl];exact D1) (by rw[v8a];omega) ?_;intro w8 S8 X8;rw[y2d [_,_,_] e0 _ 3 Z,show 0+(x:Int).toNat*1=x by omega] at S8;replace KT:=KT.fresh X8 (s1 _ A1);refine lO1 Z (k0a S8 R0a (vs:=[.int .i64 _]) (cs:=[_]) Z Z Z Z Z Z ?_);intro d2 e3 K1 Q1 I1;have B0:=Nat.le_trans KT.size I1;replace KT:=KT.trans Q1;refine lC1 Z ?_;refine wL (fun μi D ε w=>D=[]∧∃i:Nat,∃f0:List Ent,∃L:List Int,∃G:Option Nat,∃cs2:LV,∃v2:Value,(i+μi=(nn))∧(U9a 4 nn f0 vs (cloU R nn x L) nn)∧(InB f0 Gs)∧(Bfs R nn x L i 0)∧(T1a (fun _ _=>r9b) 1 [] w0 G cs2 v2 L)∧(∀g∈G.toList,r0.heap.size≤g)∧(x0a [] r0 w)∧St [] w0 w ([(G,3,cs2),(some g18,86,vs),(some g2,41,[.slice none 0 0,.slice none 0 0,.slice none 0 0]),(some g1,41,[.slice A n c,.slice A' n' c',.slice Al nl cl])]++f0)∧Sl ε [(1,.pointer (some ⟨g1,0,none⟩)),(2,.pointer (some ⟨g2,0,none⟩)),(4,.slice P0 O0 S0),(5,.slice (some ⟨g18,0,none⟩) nn nn),(6,.int .i64 x),(7,v2),(8,.int .i64 i)]) (μ:=(nn)) ⟨Z,0,_,[(x:Int)],some d2,_,_,by omega,hT.putV (b:=true) (by omega) B1 (fun a c=>S5c a c),hB.set A1,Bfs.start (by omega),a7b iO,(fun g hg=>by simp at hg;subst hg;exact B0),KT,K1,Z⟩ ?_;rintro μi D ε w ⟨rfl,i,f0,L,G,cs2,v2,_,u1,q1,Z0,I0,s2,o1,S,eZ⟩;refine wK eZ ?_;obtain⟨_,_,rfl⟩:=I0.form;have T2:=Z0.len;refine wOn 4 S.k [] Z U (J0a Z ?_);refine lB1 Z (fun i2=>?_) fun i2=>?_
  ·refine lC1 Z (wL (fun μy D ε w=>D=[]∧∃y:Nat,∃b0:List Ent,∃L2:List Int,∃G2:Option Nat,∃T0:LV,∃v3:Value,(y+μy=(nn))∧(U9a 4 nn b0 vs (cloU R nn x L2) nn)∧(InB b0 Gs)∧(Bfs R nn x L2 i y)∧(T1a (fun _ _=>r9b) 1 [] w0 G2 T0 v3 L2)∧(∀g∈G2.toList,r0.heap.size≤g)∧(x0a [] r0 w)∧(i<L2.length)∧St [] w0 w ([(G2,3,T0),(some g18,86,vs),(some g2,41,[.slice none 0 0,.slice none 0 0,.slice none 0 0]),(some g1,41,[.slice A n c,.slice A' n' c',.slice Al nl cl])]++b0)∧ε 1=.pointer (some ⟨g1,0,none⟩)∧ε 2=.pointer (some ⟨g2,0,none⟩)∧ε 4=.slice P0 O0 S0∧ε 5=.slice (some ⟨g18,0,none⟩) nn nn∧ε 6=.int .i64 x∧ε 7=v3∧ε 8=.int .i64 i∧ε 9=.int .i64 y) (μ:=(nn)) ⟨Z,0,_,L,_,_,_,by omega,u1,q1,Z0,I0,s2,o1,by omega,S,Z,Z,Z,Z,Z,Z,Z,Z⟩ ?_);rintro μy D ε w ⟨rfl,y,b0,L2,G2,T0,v3,_,A0,D0,d0,c0,j0,g0,t1,S,e1,e2,e4,e5,e6,e7,e8,e9⟩;refine q0a 1 e1 (q0a 2 e2 (q0a 4 e4 (q0a 5 e5 (q0a 6 e6 (q0a 7 e7 (q0a 8 e8 (q0a 9 e9 ?_)))))));clear e1 e2 e4 e5 e6 e7 e8 e9;obtain⟨A3,c3,rfl⟩:=c0.form;have n2:=d0.len;refine wB1 Z (fun j2=>?_) fun j2=>?_
   ·have o2:RdI [] w (.slice A3 L2.length c3) L2:=(T1a.newRow (k:=0) c0 S Z).rd (by simp) (fun z hz=>by have:=d0.nn z hz;unfold i64;omega) S.fin (by omega);obtain⟨_,q0,v0⟩:=A0.2.2 x (by omega);have x2:=A0.2.1;have G0:=D0 _ _ _ _ q0;have z1:(C3b nn (cloU R nn x L2 x))[y]?=some (.bool (decide ((y:Int)∈L2))):=by rw[i5c (by omega)];unfold cloU;rw[if_pos rfl]
    refine lOn 10 S.k [] Z U (J0a Z ?_);obtain⟨a,U1,A2,_,N0,U0,_,_,a1,j1⟩:=RdS.get (o2) (i) (by omega);obtain⟨rfl,_⟩:=id j1;have r2:=d0.nn a (c0a N0);obtain⟨_,V1,B2,Y1,y2,V0,_,_,t0,p0⟩:=RdS.get (s0) (a.toNat) (by omega);obtain⟨D2,b2,z0⟩:=p0;replace t0:=t0.keep g0 List.not_mem_nil;obtain rfl:Y1=[D2]:=b2;obtain⟨_,_,_,rfl⟩:=z0.form;have p0:=j3b (f:=F) (x:=a.toNat) (n:=nn);rw[y2] at p0;cases p0;have c1:((List.range nn).map (F a.toNat)).length=nn:=by simp
    obtain⟨f1,-,_⟩:=z0.len;rw[c1] at f1;obtain⟨z,W1,C2,Z1,E1,W0,_,_,u0,x0⟩:=RdS.get (z0) (y) (by omega);obtain x0:=x0;replace u0:=u0.keep g0 List.not_mem_nil;obtain rfl:Z1=[Value.bool z]:=x0;rw[J8b] at E1;have hz:F a.toNat y=z:=Option.some.inj E1;refine lOn 8 (((S.k.b u0).b t0).b a1) [.x U1 A2,.f 0 0,.x V1 B2,.f 1 0,.x W1 C2,.f 2 0] Z ⟨Z,⟨W0,by omega⟩,Z,⟨V0,by omega⟩,Z,⟨U0,by omega⟩,U⟩ ?_;cases E0:z
    ·refine J0a (hv:=Z) (v:=.bool _) Z ?_;refine lP1 Z ?_;have z2:z=false:=E0;exact⟨μy-1,by omega,Z,y+1,_,L2,_,_,_,by omega,A0,D0,d0.skip N0 (fun hs=>absurd ((r1 _ _).2 hs) (by rw[hz,z2];simp)),c0,j0,g0,t1,S,Z,Z,Z,Z,Z,Z,Z,Z⟩
    refine J0a (hv:=Z) (v:=.bool _) Z ?_;refine lO S.k [.i] Z ⟨by omega,U⟩ ?_;refine G0a B1b Z (S.cell 1 Z (by rw[show 0+(x:Int).toNat*1=x by omega];exact v0)) Z ?_;refine lO1 Z (N0a m4a.slT Z (by rfl) Z Z ?_);refine lO1 Z ?_;cases o0:decide ((y:Int)∈L2)
    ·refine G0a E2a Z (S.cell (4+x) (by rw[g7c [_,_,_,_] b0 _ 4 rfl];exact q0) (by rw[show 0+(y:Int).toNat*1=y by omega,z1,o0])) Z ?_;refine lO S.k [.i] Z ⟨by omega,U⟩ ?_;refine G0a B1b Z (S.cell 1 Z (by rw[show 0+(x:Int).toNat*1=x by omega];exact v0)) Z ?_;refine lO1 Z (N0a m4a.slT Z (by rfl) Z Z ?_);refine X0a (hy:=Z) (kk:=4+x) (v:=.bool true) S p4b Z Z (by rw[g7c [_,_,_,_] b0 _ 4 rfl];exact q0) (by rw[v8a];omega) ?_;intro d3 Q0 O1;rw[y2d [_,_,_,_] b0 _ 4 Z,show 0+(y:Int).toNat*1=y by omega] at Q0;replace g0:=g0.fresh O1 (s1 _ G0);refine lOn 3 Q0.k [] Z U (J0a Z ?_);refine lO1 Z (k0a Q0 R0a (vs:=[.int .i64 _]) (cs:=[_]) Z Z Z Z Z Z ?_);intro P2 g3 p1 R1 H2;replace g0:=g0.trans R1;refine r1a v5a (k:=1) (M2:=[]) (e1:=(y:Int)) p1 R0a Z c0 Z Z (p1.cells 0 Z) ⟨Z,by unfold i64;omega⟩ (by omega) Z ?_;intro Z2 J1 a2 h3 M1 m0 T1 H1;have H0:∀g∈J1.toList,r0.heap.size≤g:=fun g hg=>by
      rcases H1 g hg with h|h
      ·exact j0 g h
      ·have:=g0.size;omega
     replace g0:=g0.freshL T1 (fun g hg=>.inl (j0 g hg));obtain⟨_,_,rfl⟩:=m0.form;refine lP1 Z ?_;exact⟨μy-1,by omega,Z,y+1,_,L2++[(y:Int)],_,_,_,by omega,A0.putV (b:=true) (by omega) v0 (fun a c=>x5b a c),D0.set G0,d0.push N0 ((r1 _ _).1 (hz.trans E0)) (by omega) (of_decide_eq_false o0),m0,H0,g0,by simp;omega,M1.tail,Z,Z,Z,Z,Z,Z,Z,Z⟩
    refine G0a E2a Z (S.cell (4+x) (by rw[g7c [_,_,_,_] b0 _ 4 rfl];exact q0) (by rw[show 0+(y:Int).toNat*1=y by omega,z1,o0])) Z ?_;exact lP1 Z ⟨μy-1,by omega,Z,y+1,_,L2,_,_,_,by omega,A0,D0,d0.skip N0 (fun _=>of_decide_eq_true o0),c0,j0,g0,t1,S,Z,Z,Z,Z,Z,Z,Z,Z⟩
   refine lP1 Z ⟨μi-1,by omega,Z,i+1,_,(L2),_,_,_,by omega,(A0),(D0),(((show y=nn by omega)▸d0).next),(c0),(j0),(g0),S,Z⟩
  refine lP1 Z ⟨μx-1,by omega,Z,x+1,_,by omega,?_,(q1),(o1),S.tail,Z⟩;exact u1.congr fun a _ c _=>t4c Z0 (by omega) a c
 obtain rfl:x=nn:=by omega
 have q2:i2c [] w (.slice (some ⟨g18,0,none⟩) x x) x (cloT R x x):=j1b.rd ⟨g18,vs,e0,Z,S.sublist (List.Sublist.cons_cons _ (List.Sublist.cons _ (List.sublist_cons_self _ _))),hT⟩ (by omega) (fun _ hg=>absurd hg List.not_mem_nil);have Z9:=S.size;have b1:∀g∈[g2],g<w.heap.size:=fun g hg=>by rw[List.mem_singleton.1 hg];exact S.lt 1 Z
 refine lO1 Z (G0a o6a Z (by exact S.cell 2 Z Z) Z ?_);refine lO1 Z (G0a o6a Z (by exact S.cell 2 Z Z) Z ?_);refine lO1 Z (h0a S o3c Z Z (Z3b C W x (cloT R x x) [] _ _ _ _ ((hC.keep (S.keep0 M)).less (M':=[]) (by simp)) ((hW.keep (S.keep0 M)).less (M':=[]) (by simp)) q2) ?_);rintro a3 F2 ⟨_,_,_,rfl,v1,x1,y1⟩ N1 N2;obtain⟨_,_,_,rfl⟩:=v1.form;obtain⟨_,_,e9,rfl⟩:=x1.form;obtain⟨_,_,_,rfl⟩:=y1.form;have K9:=x0a.refl [g2] F2;refine d0a (kk:=1) (vs:=[_,_,_]) N1 B2a Z Z Z Z Z Z Z ?_;intro F1 i0 C0;dsimp only[e0a,List.set] at i0;replace K9:=K9.fresh2 C0 (by first  | exact .inr (by simp));exact lR1 Z (L0a (n:=3) Z x1a Z (i0.cells 1 Z) Z Z ⟨⟨_,_,_,Z,v1.later K9 b1 Z9,x1.later K9 b1 Z9,y1.later K9 b1 Z9⟩,i0.fin⟩)
theorem z1c(w0:World)(v u i v' u' i':Value)(C W:List Int)(l:List (Int×Int))(hC:RdI [] w0 v C)(hW:RdI [] w0 u W)(hL:V7a [] w0 i l)(q0:RdI [] w0 v' C)(r0:RdI [] w0 u' W)(d0:V7a [] w0 i' l):
 A0a prog 24 #[.agg #[v,u,i],.agg #[v',u',i']] w0 fun v w'=>v=.bool true∧Bw w0 w':=by
 obtain⟨A,n,c,rfl⟩:=hC.form;obtain⟨A1,n1,c1,rfl⟩:=hW.form;obtain⟨A2,n2,c2,rfl⟩:=hL.form;obtain⟨_,-,_⟩:=hL.len;obtain⟨A3,n3,c3,rfl⟩:=q0.form;obtain⟨A4,n4,c4,rfl⟩:=r0.form;obtain⟨A5,n5,c5,rfl⟩:=d0.form;obtain⟨_,-,_⟩:=d0.len;have S:=St.refl w0;refine a0a func24 Z ntmps24 Z ?_;refine wO1 Z (o0a S Z ?_);intro g2 w2 S2 X2 G2;refine o0a S2 Z ?_;intro g3 w3 S3 X3 G3;refine lO S3.k [.o 1,.o 0] Z ⟨Z,Z,U⟩ (r0a S3 J7c Z Z (Z1a (F5b [] _ _ _ C C (hC.keep (S3.keep0 [])) (q0.keep (S3.keep0 []))) (decide_eq_true Z)) ?_);intro H0 a0 F0;refine lO a0.k [.o 1,.o 0] Z ⟨Z,Z,U⟩ (r0a a0 J7c Z Z (Z1a (F5b [] _ _ _ W W (hW.keep (a0.keep0 [])) (r0.keep (a0.keep0 []))) (decide_eq_true Z)) ?_);intro I0 o0 G0;refine lB o0.k [.o 1,.o 0] Z ⟨Z,Z,U⟩ (fun A0=>by exfalso;omega) fun A0=>?_;refine lC1 Z (wL (fun μk D ε w=>D=[]∧∃k:Nat,(k+μk=(l.length))∧St [] w0 w [(some g3,41,[.slice A3 n3 c3,.slice A4 n4 c4,.slice A5 n5 c5]),(some g2,41,[.slice A n c,.slice A1 n1 c1,.slice A2 n2 c2])]∧Sl ε [(2,.pointer (some ⟨g2,0,none⟩)),(3,.pointer (some ⟨g3,0,none⟩)),(5,.int .i64 k)]) (μ:=(l.length)) ⟨Z,0,by omega,o0,Z⟩ ?_);rintro μk D ε w ⟨rfl,k,_,S,eZ⟩;refine wK eZ (wB S.k [.o 1] Z ⟨Z,U⟩ (fun B0=>?_) fun B0=>?_)
 ·refine lC1 Z (y0a b0a [0,1,2,3,4,5,6,7,8,9,10] [] [] Z (Cl _ _ _ _) (Cl.start S) ?_);obtain⟨x,t0,D0,v0,C0,b0,_,g0,e0,j0⟩:=RdS.get (hL) (k) (by omega);obtain⟨y0,_⟩:=j0;obtain rfl:v0=pc x:=y0;obtain⟨_,u0,E0,x0,n0,c0,_,i0,f0,m0⟩:=RdS.get (d0) (k) (by omega);obtain rfl:=Option.some.inj (C0.symm.trans n0);obtain⟨z0,_⟩:=m0;obtain rfl:x0=pc x:=z0;refine qOn 10 ((S.q.a f0).a e0) [.o 1,.x t0 D0,.v 0,.o 0,.x u0 E0,.v 1] Z ⟨⟨Z,i0⟩,⟨c0,by omega⟩,Z,⟨Z,g0⟩,⟨b0,by omega⟩,Z,U⟩ (s7c (a:=x) (b:=x) d4b Z Z Z (fun p0=>absurd Z p0) (fun p0=>?_));refine lV Z ?_;rintro J0 ⟨s0,_⟩;refine lP1 Z ⟨μk-1,by omega,Z,k+1,by omega,s0,Z⟩
 exact lU Z Z ⟨Z,S.fin⟩
noncomputable def pairF(p:m0a)(m n:Nat):Bool:=dec (k7a p p.threads.length ((m:Int),(n:Int)))
theorem R6b(bs:List Bool)(k:Nat):t1a (K1a bs k):=by
 unfold K1a t1a;rw[List.pairwise_map];exact((List.pairwise_lt_range (n:=k)).sublist List.filter_sublist).imp fun h=>Int.ofNat_lt.2 h
def m5a(l:List Int):List Bool:=(List.range 32).map fun(c:Nat)=>decide ((c:Int)∈l)
theorem d3a(l:List Int):(m5a l).length=32:=by simp[m5a]
theorem n9b:List.replicate 32 (Value.bool false)=(m5a []).map Value.bool:=by unfold m5a;simp;rfl
theorem w9a{l:List Int}{x:Int}(h0:0≤x:=by omega):((m5a l).map Value.bool).set x.toNat (.bool true)=(m5a (l++[x])).map Value.bool:=by
 refine List.ext_getElem? fun i=>?_;rw[List.getElem?_set];unfold m5a;by_cases h:i<32
 ·by_cases hx:x.toNat=i
  ·subst hx;simp[h,show((x.toNat:Nat):Int)=x by omega]
  ·have h2:¬(i:Int)=x:=by omega
   simp[h,hx,h2]
 ·simp[h];omega
theorem i4b{l ul:List Int}(h:∀x∈l,0≤x∧x<32)(hu:t1a ul)(hm:∀x,x∈ul↔x∈l):j3a (m5a l)=ul:=by
 refine J4a _ _ (R6b _ _) hu fun x=>?_;rw[hm];unfold j3a;rw[q5a];constructor
 ·rintro⟨_,rfl,h1,h2⟩;unfold m5a at h2;rw[d3a] at h1;simp[h1] at h2;exact h2
 ·intro hx;have h1:=h x hx;refine⟨x.toNat,by omega,by rw[d3a];omega,?_⟩;unfold m5a;simp[show x.toNat<32 by omega,show((x.toNat:Nat):Int)=x by omega,hx]
theorem W9b(p:m0a)(M:List Nat)(w0:World)(cs:LV)(hI:InP p M w0 cs):
 A0a prog 14 #[.agg cs.toArray] w0 fun v w'=>j4b w0 w' v (v9a (pairF p) p.modules.length p.modules.length)∧Bw w0 w':=by
 obtain⟨Ac,nc,cc,Am,nm,cm,Al,nl,cl,At,nt,ct,rfl,_⟩:=hI.rd.open_;have hp:=hI.ok;have n3:=hp.nmodules;have o0:=X6a (f:=pairF p) (n:=p.modules.length) (by omega) p.modules.length;have S:=(St.refl w0).nilEnt 72;refine a0a func14 Z ntmps14 Z ?_;refine wO1 Z (o0a S Z ?_);intro g1 w1 S1 X1 G1;refine lO S1.k [.w 0] Z ⟨⟨Z,Z⟩,U⟩ (r0a S1 H8a Z Z (a6a p M _ _ (hI.keep (S1.keep0 M))) ?_);intro w7 S7 X7;refine lC1 Z (wL (fun μm D ε w=>D=[]∧∃m:Nat,∃G:Option Nat,∃cs:LV,∃v:Value,(m+μm=(p.modules.length))∧(T1a r6a 2 [] w0 G cs v (v9a (pairF p) p.modules.length m))∧St [] w0 w [(some g1,27,pL Ac nc cc Am nm cm Al nl cl At nt ct),(G,72,cs)]∧Sl ε [(1,.pointer (some ⟨g1,0,none⟩)),(3,v),(4,.int .i64 m)]) (μ:=(p.modules.length)) ⟨Z,0,none,[],.slice none 0 0,by omega,T1a.nil,S7,Z⟩ ?_);rintro μm D ε w ⟨rfl,m,G,cs,v,_,d0,S,eZ⟩;refine wK eZ (wB S.k [.o 0] Z ⟨Z,U⟩ (fun j0=>?_) fun j0=>?_)
 ·refine lC1 Z (wL (fun μn D ε w=>D=[]∧∃n:Nat,∃G2:Option Nat,∃cs2:LV,∃v2:Value,(n+μn=(p.modules.length))∧(T1a r6a 2 [] w0 G2 cs2 v2 (v9a (pairF p) p.modules.length m++o4b (pairF p) m n))∧St [] w0 w [(some g1,27,pL Ac nc cc Am nm cm Al nl cl At nt ct),(G2,72,cs2)]∧Sl ε [(1,.pointer (some ⟨g1,0,none⟩)),(3,v2),(4,.int .i64 m),(5,.int .i64 n)]) (μ:=(p.modules.length)) ⟨Z,0,_,_,_,by omega,(by simpa[o4b] using d0),S,Z⟩ ?_);rintro μn D ε w ⟨rfl,n,G2,cs2,v2,_,a0,S,eZ⟩;refine wK eZ (wB S.k [.o 0] Z ⟨Z,U⟩ (fun m0=>?_) fun m0=>?_)
  ·refine lO S.k [.w 0] Z ⟨⟨Z,Z⟩,U⟩ (i0a S k3d Z Z (B6b p m n (by omega) M _ _ (hI.keep (S.keep0 M))) (fun n0 q0 c0 g0=>?_) (fun n0 q0 c0 g0=>?_))
   ·refine lCn 3 c0.k [] Z U ?_;have y0:(v9a (pairF p) p.modules.length m++o4b (pairF p) m n).length≤64*64+64:=by
     have h1:=X6a (f:=pairF p) (n:=p.modules.length) (by omega) m;have h2:=R3b (f:=pairF p) (x:=m) (n:=n);rw[List.length_append];omega
    obtain⟨_,_,rfl⟩:=a0.form;refine wOn 1 c0.k [] Z U (J0a Z ?_);refine lO1 Z (s0a T3a (vs:=[(0,.int .i64 _),(1,.int .i64 _)]) (cs:=[_,_]) Z Z Z Z ?_);refine k0a c0 S2a (vs:=[.agg _]) (cs:=[_,_]) Z Z Z Z Z Z ?_;intro x0 A0 e0 u0 s0;refine r1a g7a (k:=2) (M2:=[]) (e1:=((m:Int),(n:Int))) e0 S2a Z a0 Z Z (e0.cells 0 Z) ⟨Z,by unfold i64;omega,by unfold i64;omega⟩ (by omega) Z ?_;intro z0 t0 i0 B0 f0 b0 v0 r0;obtain⟨_,_,rfl⟩:=b0.form;refine lP1 Z ⟨μn-1,by omega,Z,n+1,_,_,_,by omega,?_,f0.tail,Z⟩;rw[f8a];rw[if_pos (show pairF p m n=true by assumption),←List.append_assoc];exact b0
   refine lP1 Z ⟨μn-1,by omega,Z,n+1,_,_,_,by omega,?_,c0,Z⟩;rw[f8a];rw[if_neg (show ¬pairF p m n=true from fun z=>by rw[show pairF p m n=false by assumption] at z;cases z)];exact a0
  refine lP1 Z ⟨μm-1,by omega,Z,m+1,_,_,_,by omega,?_,S,Z⟩;have p0:n=p.modules.length:=by omega
  rw[p0] at a0;rw[w8a];exact a0
 obtain rfl:m=p.modules.length:=by omega
 refine lOn 7 S.k [] Z U (J0a Z ?_);refine B0a Z ?_;refine lR1 Z (w0a Z ?_);exact⟨fun M hM=>d0.newP S (k:=1) Z hM (by omega),S.fin⟩
theorem U6b(p:m0a)(a0:¬W0a p)(M:List Nat)(w0:World)(cs:LV)(hI:NmP p M w0 cs):
 A0a prog 14 #[.agg cs.toArray] w0 fun v w'=>v=.slice none 0 0∧Bw w0 w':=by
 obtain⟨_,_,_,_,_,_,_,_,_,_,_,_,rfl,-⟩:=hI.rd.open_;have S:=St.refl w0;refine a0a func14 Z ntmps14 Z ?_;refine wO1 Z (o0a S Z ?_);intro g1 w1 S1 X1 G1;refine lO S1.k [.w 0] Z ⟨⟨Z,Z⟩,U⟩ (r0a S1 H8a Z Z (I4a (R3a p M _ _ (hI.keep (S1.keep0 M))) (J7a a0)) ?_);intro w7 S7 X7;exact lU Z Z ⟨Z,S7.fin⟩
theorem r0c(a b c ul:List Int)(w0:World)(va vb vc:Value)(hA:RdI [] w0 va a)(hB:RdI [] w0 vb b)(hC:RdI [] w0 vc c)(ha:∀x∈a,0≤x∧x<32)(hb:∀x∈b,0≤x∧x<32)(hc:∀x∈c,0≤x∧x<32)(hu:t1a ul)(hm:∀x,x∈ul↔x∈a∨x∈b∨x∈c):
 A0a prog 75 #[va,vb,vc] w0 fun v w'=>RdI [] w' v ul∧Bw w0 w':=by
 obtain⟨A,n,c0,rfl⟩:=hA.form;obtain⟨_,-,_⟩:=hA.len;obtain⟨A1,n1,c1,rfl⟩:=hB.form;obtain⟨_,-,_⟩:=hB.len;obtain⟨A2,n2,c2,rfl⟩:=hC.form;obtain⟨_,-,_⟩:=hC.len;have S:=St.refl w0;refine a0a func75 Z ntmps75 Z ?_;refine wO1 Z (s7a (n:=32) (c:=32) S m4a Z Z Z Z ?_);intro a0 Q0 u0 I0 H0;refine lC1 Z ?_;refine wL (fun μk D ε w=>D=[]∧∃k:Nat,(k+μk=(a.length))∧St [] w0 w [(some a0,4,(m5a (a.take k)).map Value.bool)]∧Sl ε [(0,.slice A n c0),(1,.slice A1 n1 c1),(2,.slice A2 n2 c2),(7,.slice (some ⟨a0,0,none⟩) 32 32),(8,.int .i64 k)]) (μ:=(a.length)) ⟨Z,0,by omega,(by have S9:=u0;rw[n9b] at S9;exact S9),Z⟩ ?_;rintro μk D ε w ⟨rfl,k,_,S,eZ⟩;refine wK eZ (wB1 Z (fun A0=>?_) fun A0=>?_)
 ·obtain⟨x,x0,E0,_,r0,e0,_,_,i0,n0⟩:=RdS.get (hA) (k) (by omega);obtain⟨rfl,_⟩:=id n0;have L0:=ha x (c0a r0);refine lO (S.k.a i0) [.x x0 E0,.f 0 0,.i] Z ⟨by omega,Z,⟨e0,by omega⟩,U⟩ ?_;refine X0a (hy:=Z) (kk:=0) (v:=.bool true) S p4b Z Z Z (by rw[List.length_map,d3a];omega) ?_;intro w5 S5 X5;dsimp only[List.set] at S5;rw[show 0+x.toNat*1=x.toNat by omega,w9a,←u0a r0] at S5;refine lP1 Z ⟨μk-1,by omega,Z,k+1,by omega,S5,Z⟩
 refine lC1 Z ?_;refine wL (fun μj D ε w=>D=[]∧∃j:Nat,(j+μj=(b.length))∧St [] w0 w [(some a0,4,(m5a (a++b.take j)).map Value.bool)]∧Sl ε [(1,.slice A1 n1 c1),(2,.slice A2 n2 c2),(7,.slice (some ⟨a0,0,none⟩) 32 32),(9,.int .i64 j)]) (μ:=(b.length)) ⟨Z,0,by omega,((show a.take k=a++b.take 0 by rw[List.take_of_length_le (by omega)];simp)▸S),Z⟩ ?_;rintro μj D ε w ⟨rfl,j,_,S,eZ⟩;refine wK eZ (wB1 Z (fun B0=>?_) fun B0=>?_)
 ·obtain⟨y,y0,F0,_,s0,f0,_,_,j0,o0⟩:=RdS.get (hB) (j) (by omega);obtain⟨rfl,_⟩:=id o0;have N0:=hb y (c0a s0);refine lO (S.k.a j0) [.x y0 F0,.f 0 0,.i] Z ⟨by omega,Z,⟨f0,by omega⟩,U⟩ ?_;refine X0a (hy:=Z) (kk:=0) (v:=.bool true) S p4b Z Z Z (by rw[List.length_map,d3a];omega) ?_;intro w9 S9 X9;dsimp only[List.set] at S9;rw[show 0+y.toNat*1=y.toNat by omega,w9a,List.append_assoc,←u0a s0] at S9;refine lP1 Z ⟨μj-1,by omega,Z,j+1,by omega,S9,Z⟩
 refine lC1 Z ?_;refine wL (fun μi D ε w=>D=[]∧∃i:Nat,(i+μi=(c.length))∧St [] w0 w [(some a0,4,(m5a ((a++b)++c.take i)).map Value.bool)]∧Sl ε [(2,.slice A2 n2 c2),(7,.slice (some ⟨a0,0,none⟩) 32 32),(10,.int .i64 i)]) (μ:=(c.length)) ⟨Z,0,by omega,((show a++b.take j=(a++b)++c.take 0 by rw[List.take_of_length_le (by omega)];simp)▸S),Z⟩ ?_;rintro μi D ε w ⟨rfl,i,_,S,eZ⟩;refine wK eZ (wB1 Z (fun C0=>?_) fun C0=>?_)
 ·obtain⟨z,z0,G0,_,t0,g0,_,_,m0,p0⟩:=RdS.get (hC) (i) (by omega);obtain⟨rfl,_⟩:=id p0;have O0:=hc z (c0a t0);refine lO (S.k.a m0) [.x z0 G0,.f 0 0,.i] Z ⟨by omega,Z,⟨g0,by omega⟩,U⟩ ?_;refine X0a (hy:=Z) (kk:=0) (v:=.bool true) S p4b Z Z Z (by rw[List.length_map,d3a];omega) ?_;intro R0 d0 J0;dsimp only[List.set] at d0;rw[show 0+z.toNat*1=z.toNat by omega,w9a,List.append_assoc,←u0a t0] at d0;refine lP1 Z ⟨μi-1,by omega,Z,i+1,by omega,d0,Z⟩
 have q0:(a++b)++c.take i=(a++b)++c:=by rw[List.take_of_length_le (by omega)]
 have D0:RdB [] w (.slice (some ⟨a0,0,none⟩) 32 32) (m5a ((a++b)++c)):=by
  have h9:=S.blk 0 Z;rw[q0] at h9;have:=T9c (M:=[]) h9 List.not_mem_nil (by rw[d3a];omega)
  rwa [d3a] at this
 refine lO1 Z ?_;refine h0a S Y6b Z Z (u0b [] _ _ _ D0 (by simp) (by rw[d3a];omega)) ?_;rintro P0 S0 b0 v0 K0;rw[i4b (ul:=ul) (fun x hx=>by rcases List.mem_append.1 hx with h|h;rcases List.mem_append.1 h with h|h;exact ha x h;exact hb x h;exact hc x h) hu (fun x=>by rw[hm,List.mem_append,List.mem_append,or_assoc])] at b0;obtain⟨_,_,_,rfl⟩:=b0.form;refine lR1 Z (w0a Z ?_);exact⟨b0,v0.fin⟩
noncomputable def erC(p:m0a)(t:Nat)(l:List Int):Int:=if dec (OKL p.cells.length l)=true then(if dec (u1b p t l)=true then 0 else 2) else 1
theorem g3c{p:m0a}{t:Nat}{l:List Int}(h:¬OKL p.cells.length l):erC p t l=1:=by unfold erC;rw[J7a h];rfl
theorem q1b{p:m0a}{t:Nat}{l:List Int}(h:OKL p.cells.length l)(h2:¬u1b p t l):erC p t l=2:=by unfold erC;rw[s6a h,J7a h2];rfl
theorem O3b{p:m0a}{t:Nat}{l:List Int}(h:OKL p.cells.length l)(h2:u1b p t l):erC p t l=0:=by unfold erC;rw[s6a h,s6a h2];rfl
theorem F6a{p:m0a}(hp:W0a p){t:Nat}{l:List Int}(h:OKL p.cells.length l)(hon:onE p t≠zE):u1b p t l↔c2a (wdL p.cells (allC p t l))≤6:=by
 rw[C1c hp h.1 h.2 hon];exact⟨fun z=>z.2,fun z=>⟨hon,z⟩⟩
theorem U1d{p:m0a}{t:Nat}(h:(onE p t).op≠0):onE p t≠zE:=fun z=>h (by rw[z];rfl)
theorem p1c{p:m0a}(hp:W0a p){t:Nat}(h:(onE p t).op=0):onE p t=zE:=by
 by_cases z:onE p t=zE
 ·exact z
 ·have:=R2d (h2a (o8a hp z)).1;omega
noncomputable def bigL(p:m0a)(t:Nat)(l:List Int):List (Int×Int):=v9a (ofT (allC p t l) (wdL p.cells (allC p t l)) (onE p t)) (2 ^ m7a p (allC p t l)) (2 ^ m7a p (allC p t l))
theorem J8c{p:m0a}(hp:W0a p){t:Nat}{l:List Int}(a0:u1b p t l)(x y:Nat):((x:Int),(y:Int))∈(bigL p t l).map (prj (allC p t l) (wdL p.cells (allC p t l)) l (wdL p.cells l))↔C5b p t l x y:=by
 have b0:=o8a hp a0.1;have c0:(onE p t).w=1:=Y3c (.inr Z) a0.1;rw[List.mem_map];unfold C5b bigL;constructor
 ·rintro⟨_,hq,he⟩;obtain⟨a,b,h1,h2,h3,rfl⟩:=r5a.1 hq;unfold prj at he;simp only[Prod.mk.injEq,Int.toNat_natCast,Int.natCast_inj] at he;exact⟨a,b,⟨h1,h2,(R8b b0 c0 _ _).1.2 (of_decide_eq_true h3)⟩,he.1.symm,he.2.symm⟩
 ·rintro⟨a,b,⟨h1,h2,h3⟩,rfl,rfl⟩;refine⟨((a:Int),(b:Int)),r5a.2 ⟨a,b,h1,h2,decide_eq_true ((R8b b0 c0 _ _).1.1 h3),Z⟩,?_⟩;unfold prj;simp only[Int.toNat_natCast]
theorem g8b{R:Nat→Nat→Prop}{n:Nat}(p:Int×Int):p∈v9a (cloT R n n) n n↔∃x y,Clo R n x y∧p=((x:Int),(y:Int)):=by
 rw[r5a];constructor
 ·rintro⟨x,y,h1,_,h3,rfl⟩;unfold cloT at h3;rw[if_pos h1] at h3;exact⟨x,y,Q0a h3,Z⟩
 ·rintro⟨x,y,h,rfl⟩;have hl:=h.lt;refine⟨x,y,hl.1,hl.2,?_,Z⟩;unfold cloT;rw[if_pos hl.1,s6a h]
theorem i5b(p:m0a)(t:Nat)(ht:t<p.threads.length)(l:List Int)(w0:World)(cs:LV)(vl:Value)(hI:InP p [] w0 cs)(hL:RdI [] w0 vl l):
 A0a prog 23 #[.agg cs.toArray,.int .i64 t,vl] w0 fun v w'=>(∃u,v=.tuple #[u,.int .i64 (erC p t l)]∧(erC p t l=0→D5b w0 w' u l (wdL p.cells l) (C5b p t l) (2 ^ m7a p l))∧(erC p t l≠0→u=.agg #[.slice none 0 0,.slice none 0 0,.slice none 0 0]))∧Bw w0 w':=by
 obtain⟨Ac,nc,cc,Am,nm,cm,Al,nl,cl,At,nt,ct,rfl,hC,_⟩:=hI.rd.open_;obtain⟨A,n,c,rfl⟩:=hL.form;have hp:=hI.ok;have t1:∀c∈p.cells,1≤c.w∧c.w≤8:=fun c hc=>(hp.cells c hc).w;have p0:=hp.ncells;have S:=St.refl w0;refine a0a func23 Z ntmps23 Z ?_;refine wO1 Z (o0a S Z ?_);intro g3 w3 S3 X3 G3;refine g0a S3 J3a Z Z ?_;intro g6 w6 S6 X6 G6;refine lO S6.k [.w 1] Z ⟨⟨Z,Z⟩,U⟩ (r0a S6 H8a Z Z (a6a p [] _ _ (hI.keep (S6.keep0 []))) ?_);intro n5 U0 T4;refine lB1 Z (fun c4=>by exfalso;omega) fun c4=>?_;refine lB U0.k [.o 1] Z ⟨Z,U⟩ (fun e4=>by exfalso;omega) fun e4=>?_;refine lO U0.k [.o 1] Z ⟨Z,U⟩ (h0a U0 m2c Z Z (R4b p.cells l [] _ _ _ (hC.keep (U0.keep0 [])) (hL.keep (U0.keep0 [])) p0 t1) ?_);rintro a5 I4 ⟨A8,n8,c8,rfl,j3⟩ V0 U4;have K8:=x0a.refl [] I4;refine lOn 2 V0.k [] Z U ?_;cases n1:dec (OKL p.cells.length l)
 ·refine A4b Z Z Z ?_;refine lO1 Z (s0a v3a (vs:=[]) (cs:=[_,_,_]) Z Z Z Z ?_);refine d0a (kk:=0) (vs:=[_,_,_]) V0 B2a Z Z Z Z Z Z Z ?_;intro L4 z0 V3;dsimp only[e0a,List.set] at z0;refine lR1 Z ?_;have o0:erC p t l=1:=g3c (K0a n1);exact L0a (n:=3) Z x1a Z (z0.cells 0 Z) Z Z ⟨⟨_,congrArg (fun e=>Value.tuple #[_,.int .i64 e]) o0.symm,fun z=>by rw[o0] at z;omega,fun _=>rfl⟩,z0.fin⟩
 refine A4b Z Z Z ?_;have e0:=Q0a n1;have ho:=j4a e0.1 e0.2 p0 t1;refine lO V0.k [.w 1] Z ⟨⟨Z,Z⟩,U⟩ (h0a V0 M2c Z Z (r1c p t ht [] _ _ (hI.keep (V0.keep0 []))) ?_);rintro v51 J4 ⟨_,rfl,P2⟩ O3 U3;replace K8:=K8.trans U3;obtain⟨J3,A4,B4,rfl,_⟩:=P2.cells;have KE:=x0a.refl [] J4;refine g0a O3 X1a Z Z ?_;intro Z3 g5 K3 X2 U2;have E0:=Nat.le_trans K8.size U2;have I0:=Nat.le_trans KE.size U2;replace K8:=K8.trans X2;replace KE:=KE.trans X2;refine d0a (kk:=0) (vs:=[_,_,_,_]) K3 h1a Z Z Z Z Z Z Z ?_;intro N4 m0 Z0;dsimp only[e0a,List.set] at m0;replace K8:=K8.fresh Z0 (by exact E0);replace KE:=KE.fresh Z0 (by exact I0);refine lB m0.k [.o 0] Z ⟨Z,U⟩ (fun v2=>?_) fun v2=>?_
 ·refine lO1 Z (s0a v3a (vs:=[]) (cs:=[_,_,_]) Z Z Z Z ?_);refine d0a (kk:=1) (vs:=[_,_,_]) m0 B2a Z Z Z Z Z Z Z ?_;intro O4 A0 W3;dsimp only[e0a,List.set] at A0;refine lR1 Z ?_;have o0:erC p t l=2:=q1b e0 fun z=>z.1 (p1c hp v2);exact L0a (n:=3) Z x1a Z (A0.cells 1 Z) Z Z ⟨⟨_,congrArg (fun e=>Value.tuple #[_,.int .i64 e]) o0.symm,fun z=>by rw[o0] at z;omega,fun _=>rfl⟩,A0.fin⟩
 have hon:onE p t≠zE:=U1d v2;have w4:=o8a hp hon;have y4:(onE p t).w=1:=Y3c (.inr Z) hon;have hA:=v8b (l:=l) hp e0.2 hon;have C0:=j4a hA.1 hA.2 p0 t1;have d4:=C0.clen;have X4:=C0.len;have x3:∀x,(x∈(onE p t).sup 3∨x∈(onE p t).sup 2)→0≤x∧x<32:=fun x hx=>by have:=hA.2 x (a4a.2 (.inr hx));omega
 refine lO m0.k [.w 0] Z ⟨⟨Z,Z⟩,U⟩ (h0a m0 D8b Z Z (k5a (onE p t) [] _ _ (RdE.keep KE _ _ P2) (by simp)) ?_);rintro b5 K4 ⟨_,_,rfl,i1,o1⟩ W2 Z2;replace K8:=K8.trans Z2;replace KE:=KE.trans Z2;obtain⟨_,_,_,rfl⟩:=i1.form;obtain⟨_,_,_,rfl⟩:=o1.form;have KS:=x0a.refl [] K4;refine lO1 Z ?_;refine h0a W2 q2d Z Z (r0c l ((onE p t).sup 3) ((onE p t).sup 2) (allC p t l) _ _ _ _ (hL.keep (W2.keep0 [])) (i1.keep KS) (o1.keep KS) (fun x hx=>by have:=e0.2 x hx;omega) (fun x hx=>x3 x (.inl hx)) (fun x hx=>x3 x (.inr hx)) hA.1 (fun x=>a4a)) ?_;rintro c5 M4 hU Z1 a3;replace K8:=K8.trans a3;replace KE:=KE.trans a3;obtain⟨A6,n6,c6,rfl⟩:=hU.form;have KU:=x0a.refl [] M4;refine lO Z1.k [.o 2] Z ⟨Z,U⟩ (h0a Z1 m2c Z Z (U7a p.cells (allC p t l) [] _ _ _ (hC.keep (Z1.keep0 [])) (hU.keep KU) hA.1 hA.2 p0 t1) ?_);rintro d5 F3 ⟨_,rfl,g1⟩ P3 f2;replace K8:=K8.trans f2;replace KE:=KE.trans f2;replace KU:=KU.trans f2;obtain⟨A7,n7,c7,rfl⟩:=g1.form;have hV:RdI [] F3 (.slice A7 n7 c7) (wdL p.cells (allC p t l)):=g1 [] (by simp);have KV:=x0a.refl [] F3;refine lO1 Z (r0a P3 L7b Z Z (h0b [] _ _ (wdL p.cells (allC p t l)) (hV.keep KV) C0.wid (by omega)) ?_);intro o5 K1 P1;replace K8:=K8.trans P1;replace KE:=KE.trans P1;replace KU:=KU.trans P1;replace KV:=KV.trans P1;refine lB1 Z (fun g4=>?_) fun g4=>?_
 ·refine lO1 Z (s0a v3a (vs:=[]) (cs:=[_,_,_]) Z Z Z Z ?_);refine d0a (kk:=1) (vs:=[_,_,_]) K1 B2a Z Z Z Z Z Z Z ?_;intro C3 g0 Y2;dsimp only[e0a,List.set] at g0;refine lR1 Z ?_;have o0:erC p t l=2:=q1b e0 fun z=>by have:=(F6a hp e0 hon).1 z;omega
  exact L0a (n:=3) Z x1a Z (g0.cells 1 Z) Z Z ⟨⟨_,congrArg (fun e=>Value.tuple #[_,.int .i64 e]) o0.symm,fun z=>by rw[o0] at z;omega,fun _=>rfl⟩,g0.fin⟩
 have E2:u1b p t l:=(F6a hp e0 hon).2 (by omega);obtain⟨R1,y2,o4,p4⟩:=t9b hp e0.1 e0.2 E2;refine lO K1.k [.o 2,.w 0] Z ⟨⟨Z,Z⟩,Z,U⟩ (h0a K1 I3d Z Z (P8c p.cells (allC p t l) (onE p t) [] _ _ _ _ (hC.keep (K1.keep0 [])) (hU.keep KU) (RdE.keep KE _ _ P2) hA p0 t1 (m7a p (allC p t l)) o4 p4 w4 y4 (fun x hx=>a4a.2 (.inr (.inl hx))) (fun x hx=>a4a.2 (.inr (.inr hx)))) ?_);rintro e5 I3 ⟨_,_,_,rfl,x2,A2,C2⟩ Q3 g2;replace K8:=K8.trans g2;replace KU:=KU.trans g2;replace KV:=KV.trans g2;obtain⟨B1,m1,e1,rfl⟩:=x2.form;obtain⟨B2,m2,e2,rfl⟩:=A2.form;have hG:=C2 [] (by simp);obtain⟨B3,m3,e3,rfl⟩:=hG.form;obtain⟨u4,-,_⟩:=hG.len;have KG:=x0a.refl [] I3;refine lO1 Z (g0a Q3 J3a Z Z ?_);intro b3 h5 L3 M1 G1;have F0:=Nat.le_trans K8.size G1;have N0:=Nat.le_trans KU.size G1;have Q0:=Nat.le_trans KV.size G1;have J0:=Nat.le_trans KG.size G1;replace K8:=K8.trans M1;replace KU:=KU.trans M1;replace KV:=KV.trans M1;replace KG:=KG.trans M1;refine d0a (kk:=0) (vs:=[_,_,_]) L3 B2a Z Z Z Z Z Z Z ?_;intro D3 v0 b0;dsimp only[e0a,List.set] at v0;replace K8:=K8.fresh b0 (by exact F0);replace KU:=KU.fresh b0 (by exact N0);replace KV:=KV.fresh b0 (by exact Q0);replace KG:=KG.fresh b0 (by exact J0);refine lO1 Z (s0a r7a (vs:=[(0,.slice _ _ _),(1,.slice _ _ _)]) (cs:=[_,_,_]) Z Z Z Z ?_);refine g0a v0 D5a Z Z ?_;intro g18 i5 M3 N1 I1;have G0:=Nat.le_trans K8.size I1;have O0:=Nat.le_trans KU.size I1;have R0:=Nat.le_trans KV.size I1;have K0:=Nat.le_trans KG.size I1;replace K8:=K8.trans N1;replace KU:=KU.trans N1;replace KV:=KV.trans N1;replace KG:=KG.trans N1;refine d0a (kk:=0) (vs:=[_,_,_]) M3 i5a Z Z Z Z Z Z Z ?_;intro E3 x0 c0;dsimp only[e0a,List.set] at x0;replace K8:=K8.fresh c0 (by exact G0);replace KU:=KU.fresh c0 (by exact O0);replace KV:=KV.fresh c0 (by exact R0);replace KG:=KG.fresh c0 (by exact K0);refine lO1 Z (s0a r7a (vs:=[(0,.slice _ _ _),(1,.slice _ _ _)]) (cs:=[_,_,_]) Z Z Z Z ?_);refine g0a x0 D5a Z Z ?_;intro g19 j5 N3 O1 J1;have H0:=Nat.le_trans K8.size J1;have P0:=Nat.le_trans KU.size J1;have S0:=Nat.le_trans KV.size J1;have L0:=Nat.le_trans KG.size J1;replace K8:=K8.trans O1;replace KU:=KU.trans O1;replace KV:=KV.trans O1;replace KG:=KG.trans O1;refine d0a (kk:=0) (vs:=[_,_,_]) N3 i5a Z Z Z Z Z Z Z ?_;intro r0 i0 d0;dsimp only[e0a,List.set] at i0;replace K8:=K8.fresh d0 (by exact H0);replace KU:=KU.fresh d0 (by exact P0);replace KV:=KV.fresh d0 (by exact S0);replace KG:=KG.fresh d0 (by exact L0);refine lO1 Z ?_;obtain⟨n0,u0⟩:∃b,b=bigL p t l:=⟨_,Z⟩;have i4:V7a [] I3 (.slice B3 m3 e3) n0:=u0▸hG;have v4:m3=n0.length:=u0▸u4;obtain⟨nn,B0⟩:∃nn,nn=2 ^ m7a p l:=⟨_,Z⟩;have f4:nn≤64:=by have:=Nat.pow_le_pow_right (n:=2) (by omega) y2;omega
 obtain⟨Q,hQ⟩:∃Q,Q=prj (allC p t l) (wdL p.cells (allC p t l)) l (wdL p.cells l):=⟨_,Z⟩;obtain⟨wb,D0⟩:∃x,x=r0:=⟨_,Z⟩;have u1:=Y6a [] r0 _ l (wdL p.cells l) (m7a p l) ((j3 e0 [] (by simp)).keep K8) ho R1 y2;rw[←B0] at u1;have H1:RdI [] wb (.slice A8 n8 c8) (wdL p.cells l):=D0▸(j3 e0 [] (by simp)).keep K8;have H2:RdI [] wb (.slice A6 n6 c6) (allC p t l):=D0▸hU.keep KU;have H3:RdI [] wb (.slice A7 n7 c7) (wdL p.cells (allC p t l)):=D0▸hV.keep KV;have H4:V7a [] wb (.slice B3 m3 e3) n0:=D0▸i4.keep KG;have V4:wb.heap.size≤r0.heap.size:=by rw[D0];exact Nat.le_refl _
 refine h0a i0 G8b Z Z u1 ?_;rintro f5 P4 F2 S4 Y3;obtain⟨Q1,vs,f0,rfl,S2,k4⟩:=F2;have a2:=i0.joinR S2;obtain⟨Gs,d3⟩:∃Gs,Gs=f0.filterMap (·.1):=⟨_,Z⟩;have j4:∀g∈Gs,wb.heap.size≤g:=fun g hg=>by
  rcases S2.tail.newB g (d3▸hg) with h|h
  ·omega
  ·cases h
 have KT:x0a [] wb P4:=D0▸Y3;have m4:U9a 4 nn f0 vs (fun(a b:Nat)=>decide (((a:Int),(b:Int))∈(n0.take 0).map Q)) nn:=by
  have e:(fun(a b:Nat)=>decide (((a:Int),(b:Int))∈(n0.take 0).map Q))=fun _ _=>false:=by funext a b;simp
  rw[e];exact k4
 refine lC1 Z (wL (fun μk D ε w=>D=[]∧∃k:Nat,∃a0:List Ent,(k+μk=(n0.length))∧(U9a 4 nn a0 vs (fun(a b:Nat)=>decide (((a:Int),(b:Int))∈(n0.take k).map Q)) nn)∧(InB a0 Gs)∧(x0a [] wb w)∧St [] w0 w ([(some Q1,86,vs),(some g19,89,[.slice A n c,.slice A8 n8 c8,.slice none 0 0]),(some g18,89,[.slice A6 n6 c6,.slice A7 n7 c7,.slice none 0 0]),(some b3,41,[.slice B1 m1 e1,.slice B2 m2 e2,.slice B3 m3 e3]),(some Z3,37,[.int .i64 (onE p t).op,.int .i64 (onE p t).w,.int .i64 (onE p t).n,.slice J3 A4 B4]),(some g6,41,[.slice none 0 0,.slice none 0 0,.slice none 0 0]),(some g3,27,pL Ac nc cc Am nm cm Al nl cl At nt ct)]++a0)∧Sl ε [(2,.slice A n c),(6,.pointer (some ⟨g6,0,none⟩)),(8,.slice A8 n8 c8),(16,.pointer (some ⟨b3,0,none⟩)),(18,.pointer (some ⟨g18,0,none⟩)),(19,.pointer (some ⟨g19,0,none⟩)),(20,.slice (some ⟨Q1,0,none⟩) nn nn),(21,.int .i64 k)]) (μ:=(n0.length)) ⟨Z,0,f0,by omega,m4,d3▸InB.refl f0,KT,a2,Z⟩ ?_);rintro μk D ε w ⟨rfl,k,a0,_,hT,hB,KT,S,eZ⟩;refine wK eZ (wO1 Z ?_);refine G0a P4a Z (by exact S.cell 3 Z Z) Z ?_;refine lB1 Z (fun h4=>?_) fun h4=>?_
 ·refine lC1 Z (y0a b0a [0,1,2,3,4,5,6] [7] [8,9] Z (Cl _ _ _ _) (Cl.start S) ?_);refine z1a A2a Z (fun w1 hw=>hw.1.cells 2 Z) Z Z ?_;refine qO1 Z (j0a P4a Z (fun w1 hw=>by exact hw.1.cell 3 Z Z) Z ?_);obtain⟨x,n2,L2,p2,K2,d1,_,_,p1,y1⟩:=RdS.get ((H4.keep KT)) (k) (by omega);obtain⟨t2,_⟩:=y1;obtain rfl:p2=pc x:=t2;obtain⟨y,z,hy,hz,-,rfl⟩:=r5a.1 (show x∈bigL p t l from u0▸c0a K2);refine qO S.q [.x n2 L2] Z ⟨⟨d1,by omega⟩,U⟩ (v0a S1a Z Z Z ?_);refine j0a E0a Z (fun w1 hw=>by exact hw.2.cell List.not_mem_nil (p1 _ _ Z)) Z ?_;refine qN1 Z (h4a ?_);refine b4b (n:=32) (c:=32) Z Z R0a Z Z Z ?_;refine O1a ?_;rintro Q4 ⟨s0,i2⟩;intro a4 v1 T1 D1;dsimp only[V3a];replace KT:=KT.trans i2;clear D1;replace s0:=s0.push_new S v1 T1;refine h0a s0 U8b Z Z (a9a (allC p t l) (wdL p.cells (allC p t l)) R1a y [] _ _ _ _ _ (H2.keep KT) (H3.keep KT) C0 hy (k6a (s0.blk 0 Z)) W2a i3a) ?_;rintro C4 F4 b1 y0 d2;replace KT:=KT.trans d2;obtain⟨_,_,_,rfl⟩:=b1.form;have q0:=b1 [] (by simp);refine lC1 Z (y0a b0a [0,1,2,3,4,5,6] [7] [8,9] Z (Cl _ _ _ _) (Cl.start y0) ?_);refine z1a A2a Z (fun w1 hw=>hw.1.cells 3 Z) Z Z ?_;refine qO1 Z (j0a P4a Z (fun w1 hw=>by exact hw.1.cell 4 Z Z) Z ?_);obtain⟨_,o2,N2,s2,C1,f1,_,_,s1,A1⟩:=RdS.get ((H4.keep KT)) (k) (by omega);obtain rfl:=Option.some.inj (K2.symm.trans C1);obtain⟨u2,_⟩:=A1;obtain rfl:s2=pc ((y:Int),(z:Int)):=u2;refine qO y0.q [.x o2 N2] Z ⟨⟨f1,by omega⟩,U⟩ (v0a S1a Z Z Z ?_);refine j0a E0a Z (fun w1 hw=>by exact hw.2.cell List.not_mem_nil (s1 _ _ Z)) Z ?_;refine qN1 Z (h4a ?_);refine b4b (n:=32) (c:=32) Z Z R0a Z Z Z ?_;refine O1a ?_;rintro R4 ⟨t0,a1⟩;intro b4 x1 U1 E1;dsimp only[V3a];replace KT:=KT.trans a1;replace q0:=q0.keep (a1.of_nil);clear E1;replace t0:=t0.push_new y0 x1 U1;refine h0a t0 U8b Z Z (a9a (allC p t l) (wdL p.cells (allC p t l)) R1a z [] _ _ _ _ _ (H2.keep KT) (H3.keep KT) C0 hz (k6a (t0.blk 0 Z)) W2a i3a) ?_;rintro D4 G4 c1 T0 W0;replace KT:=KT.trans W0;replace q0:=q0.keep (W0.of_nil);obtain⟨_,_,_,rfl⟩:=c1.form;have O2:=c1 [] (by simp);have A3:=H1.keep KT;obtain⟨q1,G2⟩:∃q,q=nuZ l (wdL p.cells l) (stZ (allC p t l) (wdL p.cells (allC p t l)) y R1a):=⟨_,Z⟩;obtain⟨q2,J2⟩:∃q,q=nuZ l (wdL p.cells l) (stZ (allC p t l) (wdL p.cells (allC p t l)) z R1a):=⟨_,Z⟩;have w2:Q ((y:Int),(z:Int))=((q1:Int),(q2:Int)):=by rw[hQ,G2,J2];unfold prj;simp only[Int.toNat_natCast]
  have t3:∀s,nuZ l (wdL p.cells l) s<nn:=fun s=>by have h1:=P8b l (wdL p.cells l) s ho.wid;rw[R1,Int.toNat_natCast,←B0] at h1;exact h1
  have I2:q1<nn:=G2▸t3 _;have x4:q2<nn:=J2▸t3 _;obtain⟨_,u3,s3⟩:=hT.2.2 q1 I2;have Z4:=hT.2.1;have q3:=hB _ _ _ _ u3;have y3:∀m,∀c∈l,c<(stZ (allC p t l) (wdL p.cells (allC p t l)) m R1a).length:=fun m c hc=>by have:=e0.2 c hc;rw[a1b,W2a];omega
  have v3:∀m,∀x∈stZ (allC p t l) (wdL p.cells (allC p t l)) m R1a,0≤x:=fun m x hx=>(y1b _ _ m _ C0.wid i3a x hx).1;refine lC1 Z (y0a b0a [0,1,2,3,4,5,6,7,8,9] [] [10] Z (Cl _ _ _ _) (Cl.start T0) ?_);refine qO1 Z (z1a A2a Z (fun w1 hw=>hw.1.cells 3 Z) Z Z ?_);refine qO1 Z (k1a B6c Z Z (fun w1 S1 X1=>G2▸o1b l (wdL p.cells l) _ [] _ _ _ _ _ (hL.keep (S1.keep0 [])) (A3.keep X1) ho (q0.keep X1) (y3 y) (v3 y)) ?_);refine qO T0.q [.i] Z ⟨by omega,U⟩ ?_;refine j0a B1b Z (fun w1 hw=>by exact hw.1.cell 2 Z (by rw[show 0+(q1:Int).toNat*1=q1 by omega];exact s3)) Z ?_;refine z1a A2a Z (fun w1 hw=>hw.1.cells 3 Z) Z Z ?_;refine qO1 Z (k1a B6c Z Z (fun w1 S1 X1=>J2▸o1b l (wdL p.cells l) _ [] _ _ _ _ _ (hL.keep (S1.keep0 [])) (A3.keep X1) ho (O2.keep X1) (y3 z) (v3 z)) ?_);refine F0a m4a.slT Z (by rfl) Z Z ?_;refine lV Z ?_;rintro T2 ⟨b2,j2⟩;replace KT:=KT.trans j2;have Y1:St [] w0 T2 ([_,_,_,_,_,_,_,_,_]++a0):=b2;refine X0a (hy:=Z) (kk:=9+q1) (v:=.bool true) Y1 p4b Z Z (by rw[g7c [_,_,_,_,_,_,_,_,_] a0 _ 9 rfl];exact u3) (by rw[v8a];omega) ?_;intro m5 V2 T3;rw[y2d [_,_,_,_,_,_,_,_,_] a0 _ 9 Z,show 0+(q2:Int).toNat*1=q2 by omega] at V2;replace KT:=KT.fresh T3 (j4 _ q3);refine lP1 Z ⟨μk-1,by omega,Z,k+1,_,by omega,?_,?_,(KT),V2.tail.tail,Z⟩
  ·refine hT.put (x:=q1) (y:=q2) (by omega) s3 fun a b=>?_;rw[u0a K2,List.map_append,Bool.eq_iff_iff,Bool.or_eq_true,decide_eq_true_eq,decide_eq_true_eq,decide_eq_true_eq,List.mem_append];refine or_congr_right ?_;rw[List.map_singleton,List.mem_singleton,w2,Prod.ext_iff];refine⟨fun hh=>?_,fun hh=>?_⟩
   ·simp only at hh;omega
   ·simp only;omega
  ·exact hB.set q3
 obtain rfl:k=n0.length:=by omega
 have i3:i2c [] w (.slice (some ⟨Q1,0,none⟩) nn nn) nn (fun(a b:Nat)=>decide (((a:Int),(b:Int))∈n0.map Q)):=j1b.rd ⟨Q1,vs,a0,Z,S.sublist (List.Sublist.cons_cons _ (List.Sublist.cons _ (List.Sublist.cons _ (List.Sublist.cons _ (List.Sublist.cons _ (List.Sublist.cons _ (List.sublist_cons_self _ _))))))),by rw[List.take_length] at hT;exact hT⟩ (by omega) (fun _ hg=>absurd hg List.not_mem_nil);obtain⟨F,hF⟩:∃F,F=fun(a b:Nat)=>decide (((a:Int),(b:Int))∈n0.map Q):=⟨_,Z⟩;rw[←hF] at i3;have Z9:=S.size;have t4:∀g∈[g6],g<w.heap.size:=fun g hg=>by rw[List.mem_singleton.1 hg];exact S.lt 5 Z
 have Y4:=ho.len;have W4:=ho.clen;have p3:=fun(w1:World) (v u i:Value) h1 h2 h3=>y4b [] w1 v u i l (wdL p.cells l) (v9a F nn nn) (m7a p l) h1 h2 h3 ho R1 y2 (fun x hx=>by obtain⟨a,b,z1,z2,-,rfl⟩:=r5a.1 hx;rw[←B0];simp only;omega) (H0b _);rw[←B0] at p3;refine lO1 Z (h0a S o3c Z Z (Z3b l (wdL p.cells l) nn F [] _ _ _ _ (hL.keep (S.keep0 [])) (H1.keep KT) i3) ?_);rintro E4 Q2 ⟨_,_,_,rfl,n4,q4,r4⟩ V1 X0;have D2:∀g∈[g6],g<Q2.heap.size:=fun g hg=>Nat.lt_of_lt_of_le (t4 g hg) X0.size;have Z8:=Nat.le_trans Z9 X0.size;have r1:=n4 [] (by simp);have r2:=q4 [] (by simp);have r3:=r4 [] (by simp);refine h0a V1 b3d Z Z (p3 _ _ _ _ r1 r2 r3) ?_;rintro v131 R2 ⟨_,_,_,rfl,n3,j1,o3⟩ W1 R3;obtain⟨_,_,_,rfl⟩:=n3.form;obtain⟨_,_,_,rfl⟩:=j1.form;obtain⟨_,_,_,rfl⟩:=o3.form;have K9:=x0a.refl [g6] R2;refine lO1 Z (d0a (kk:=5) (vs:=[_,_,_]) W1 B2a Z Z Z Z Z Z Z ?_);intro F1 j0 Y0;dsimp only[e0a,List.set] at j0;replace K9:=K9.fresh2 Y0 (by exact .inr (by simp));refine lR1 Z ?_;have o0:=O3b e0 E2;have hR:∀x y:Nat,((x:Int),(y:Int))∈v9a F nn nn↔C5b p t l x y:=fun x y=>by
  rw[←J8c hp E2,←u0,←hQ,r5a,hF];constructor
  ·rintro⟨a,b,z1,z2,z3,z4⟩;rw[z4];exact of_decide_eq_true z3
  ·intro z;obtain⟨q,_,he⟩:=List.mem_map.1 z;have hb:=A7b (Ca:=allC p t l) (Wa:=wdL p.cells (allC p t l)) (C:=l) ho.wid R1 q;rw[←hQ,he,←B0] at hb;exact⟨x,y,by simp only at hb;omega,by simp only at hb;omega,decide_eq_true z,Z⟩
 have s4:D5b w0 F1 _ l (wdL p.cells l) _ nn:=⟨_,_,_,_,Z,n3.later K9 D2 Z8,j1.later K9 D2 Z8,o3.later K9 D2 Z8,H0b _,by have:=X6a (f:=cloT (fun(x y:Nat)=>((x:Int),(y:Int))∈v9a F nn nn) nn nn) f4 nn;omega,fun q=>g8b q⟩;exact L0a (n:=3) Z x1a Z (j0.cells 5 Z) Z Z ⟨⟨_,congrArg (fun e=>Value.tuple #[_,.int .i64 e]) o0.symm,fun _=>B0▸s4.congr hR,fun z=>absurd o0 z⟩,j0.fin⟩
end Go.Fw
