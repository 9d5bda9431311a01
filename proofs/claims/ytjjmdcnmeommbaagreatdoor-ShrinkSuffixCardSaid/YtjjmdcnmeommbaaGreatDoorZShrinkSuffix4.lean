/-
  Part 4 of 8 of the proof of ShrinkSuffix: what it leans on. No conditions.
-/
import Derived.Test.YtjjmdcnmeommbaaGreatDoorZShrinkSuffix3
import Derived.Laws.CopyRow
import Derived.Laws.IdiomCopy
import Derived.Laws.StructEq
import Derived.Lib.SliceRun
import Derived.Laws.OwnMore
set_option maxRecDepth 100000
namespace Go.Proofs.YtjjmdcnmeommbaaGreatDoor
open Go.Fw Go.RowKit
theorem s0b (p : e0a) (c : B0a) (t i : Nat) (th : S0a) (s : k1a) (M : List Nat) (w0 : World) (cs xs : List Value) (hI : InP p M w0 cs) (hX : K0a M w0 c xs) (hf : b6a p c) (he : J5a c) (hxth : p.threads[t]? = some th) (hxs : th.steps[i]? = some s) :
 J0a Tryz.prog 204 #[.agg cs.toArray, .agg xs.toArray, .int .i64 t, .int .i64 i] w0 fun v w' => v = .bool (P0a p 0 c t s) ∧ Below w0.heap.size w0 w' := by
 obtain ⟨_, _, _, _, _, _, _, _, _, _, _, _, rfl, _, _, _, hTh, _, _, _, _, _, _, _, _⟩ := hI.rd.open_
 obtain ⟨_, _, _, _, _, _, _, _, _, rfl, hMem, hAt, _, _, hxa, hxb, _, _, _⟩ := hX.open_
 have S := St.refl w0
 have f2 := hf.nat
 have hp := hI.ok
 have ht := z1a hxth
 have hi := z1a hxs
 have hto := hp.thread hxth
 have hso := hto.steps s (h0a hxs)
 have hk6 : 6 ≤ s.kind → 0 ≤ s.target ∧ s.target < p.threads.length := fun h => (hso.row.k6 h).1
 refine a0a Tryz.func204 rfl Tryz.ntmps204 rfl ?_
 refine wO0 rfl ⟨⟩ (m0a S (by conv => lhs; whnf) rfl ?_)
 intro g4 w4 S4 X4 G4
 refine m0a S4 (by conv => lhs; whnf) rfl ?_
 intro g5 w5 S5 X5 G5
 obtain ⟨_, b13, p13, _, hx13, hA13, _, _, hc13, hr13⟩ := RdS.get (hTh) (t) (by omega)
 obtain rfl := Option.some.inj (hxth.symm.trans hx13)
 obtain ⟨_, _, _, _, _, _, _, _, _, _, _, _, rfl, _, _, _, hSt13, _, _, _, _, _, _, _, _, _⟩ := T0a.open_ hr13
 obtain ⟨_, b17, p17, _, hx17, hA17, _, hl17, hc17, hr17⟩ := RdS.get (hSt13) (i) (by omega)
 obtain rfl := Option.some.inj (hxs.symm.trans hx17)
 obtain ⟨_, _, _, _, _, _, rfl, ⟨_, _, _, _, _⟩, hG17, _, _, _⟩ := s1a.open_ hr17
 refine lO ((S5.k.a hc17).a hc13) [.o 1,.x b13 p13,.f 0 4,.x b17 p17,.v 1] rfl ⟨⟨rfl,hl17⟩,⟨hA17,by omega⟩,rfl,⟨hA13,by omega⟩,rfl,⟨⟩⟩ (g0a S5 o2b rfl rfl ?_)
 intro g9 w9 S9 X9 G9
 refine d0a (kk := 0) (vs := [_, _, _, _, _, _, _, _, _, _, _]) S9 i2b rfl rfl rfl rfl rfl rfl rfl ?_
 intro w1_10 S1_10 X1_10
 dsimp only [n0a, List.set] at S1_10
 refine lC0 rfl ⟨⟩ (A0a b0a [0, 1, 2, 3, 4, 5, 6, 7, 8, 9, 10, 11, 12, 13, 14, 15, 16, 17] [] [] (by kernel_rfl) rfl (Cl _ _ _ _) (Cl.start S1_10) ?_)
 obtain ⟨a, b22, p22, _, hxa, hA22, _, _, hc22, hr22⟩ := RdS.get (hAt) (t) (by omega)
 obtain ⟨rfl, _⟩ := id hr22
 refine qB (S1_10.q.a hc22) [.o 1,.x b22 p22,.f 0 0,.o 0] rfl ⟨rfl,rfl,⟨hA22,by omega⟩,rfl,⟨⟩⟩ (fun h26 => ?_) fun h26 => ?_
 ·refine qD rfl ⟨⟩ ?_
  rintro wR2 ⟨SR2, XR2⟩
  refine lT rfl ⟨⟩ rfl ⟨congrArg Value.bool ?_, SR2.fin⟩
  rw [a4a he, getD_some hxa]
  simp [h26]; done
 refine qO S1_10.q [.o 0,.o 1,.o 1] rfl ⟨rfl,rfl,rfl,⟨⟩⟩ (p2a f9a rfl rfl (fun w1 S1 X1 => A6a s.guard M _ _ _ _ c.mem c.mem (RdE.keep (S1.keep0 M) _ _ hG17) (hI.keep (S1.keep0 M)).msk (hMem.keep (S1.keep0 M)) (hMem.keep (S1.keep0 M))) ?_)
 refine qB0 rfl ⟨⟩ (fun h35 => ?_) fun h35 => ?_
 ·refine qD rfl ⟨⟩ ?_
  rintro wR2 ⟨SR2, XR2⟩
  refine lT rfl ⟨⟩ rfl ⟨congrArg Value.bool ?_, SR2.fin⟩
  rw [a4a he, getD_some hxa]
  simp [h26, h35]; done
 refine qD rfl ⟨⟩ ?_
 rintro wR2 ⟨SR2, XR2⟩
 refine lB SR2.k [.o 0] rfl ⟨rfl,⟨⟩⟩ (fun h40 => ?_) fun h40 => ?_
 ·have q6 := hk6 (by omega)
  obtain ⟨b, b45, p45, _, hxb, hA45, _, _, hc45, hr45⟩ := RdS.get (hAt) (s.target.toNat) (by omega)
  obtain ⟨rfl, _⟩ := id hr45
  refine lB (SR2.k.a hc45) [.o 1,.o 0,.x b45 p45,.f 0 0] rfl ⟨rfl,⟨hA45,by omega⟩,rfl,rfl,⟨⟩⟩ (fun h47 => ?_) fun h47 => ?_
  ·refine lT rfl ⟨⟩ rfl ⟨congrArg Value.bool ?_, SR2.fin⟩
   rw [a4a he, getD_some hxa]
   simp [h26, h35, h40, hxb, h47]; done
  refine lT rfl ⟨⟩ rfl ⟨congrArg Value.bool ?_, SR2.fin⟩
  rw [a4a he, getD_some hxa]
  simp [h26, h35, h40, hxb, h47]; done
 refine lB0 rfl ⟨⟩ (fun h49 => ?_) fun h49 => ?_
 ·refine lC0 rfl ⟨⟩ (A0a b0a [0, 1, 2, 3, 4, 5, 6, 7, 8, 9, 10, 11, 12, 13, 14, 15] [] [] (by kernel_rfl) rfl (Cl _ _ _ _) (Cl.start SR2) ?_)
  have q6 := hk6 (by omega)
  obtain ⟨b, b54, p54, _, hxb, hA54, _, _, hc54, hr54⟩ := RdS.get (hAt) (s.target.toNat) (by omega)
  obtain ⟨rfl, _⟩ := id hr54
  obtain ⟨_, b60, p60, _, hxu, hA60, _, _, hc60, hr60⟩ := RdS.get (hTh) (s.target.toNat) (by omega)
  obtain ⟨_, _, _, _, _, _, _, _, _, _, _, _, rfl, _, _, _, _, _, _, _, _, _, _, _, _, _⟩ := T0a.open_ hr60
  have q7 := (hp.thread hxu).points
  refine qB ((SR2.q.a hc60).a hc54) [.o 1,.o 0,.x b54 p54,.f 0 0,.o 2,.o 0,.x b60 p60,.f 1 1] rfl ⟨by omega,rfl,⟨hA60,by omega⟩,rfl,rfl,rfl,⟨hA54,by omega⟩,rfl,rfl,⟨⟩⟩ (fun h64 => ?_) fun h64 => ?_
  ·refine qD rfl ⟨⟩ ?_
   rintro wR8 ⟨SR8, XR8⟩
   refine lT rfl ⟨⟩ rfl ⟨congrArg Value.bool ?_, SR8.fin⟩
   rw [a4a he, getD_some hxa]
   simp [h26, h35, h49, hxb, hxu, h64]; done
  refine qD rfl ⟨⟩ ?_
  rintro wR8 ⟨SR8, XR8⟩
  refine lT rfl ⟨⟩ rfl ⟨congrArg Value.bool ?_, SR8.fin⟩
  rw [a4a he, getD_some hxa]
  simp [h26, h35, h49, hxb, hxu, h64]; done
 refine lT rfl ⟨⟩ rfl ⟨congrArg Value.bool ?_, SR2.fin⟩
 rw [a4a he, getD_some hxa]
 simp [h26, h35, h40, h49]; done
theorem d6a (p : e0a) (c : B0a) (M : List Nat) (w0 : World) (cs xs : List Value) (hI : InP p M w0 cs) (hX : K0a M w0 c xs) (hf : b6a p c) (he : J5a c) :
 J0a Tryz.prog 170 #[.agg cs.toArray, .agg xs.toArray] w0 fun v w' => q5a M w' v (N0a p 0 c) ∧ Below w0.heap.size w0 w' := by
 obtain ⟨Ac, nc, cc, Am, nm, cm, Al, nl, cl, At, nt, ct, rfl, _, _, _, hTh, _, _, _, _, _, _, _, _⟩ := hI.rd.open_
 obtain ⟨Xm, xm, ym, Xa, xa, ya, Xb, xb, yb, rfl, _, _, _, _, _, _, _, _, _⟩ := hX.open_
 have S := (St.refl w0).nilEnt 68
 have hp := hI.ok
 have n2 := hp.nthreads
 refine a0a Tryz.func170 rfl Tryz.ntmps170 rfl ?_
 refine wO0 rfl ⟨⟩ (m0a S (by conv => lhs; whnf) rfl ?_)
 intro g2 w2 S2 X2 G2
 refine m0a S2 (by conv => lhs; whnf) rfl ?_
 intro g3 w3 S3 X3 G3
 refine lC S3.k [.o 1] rfl ⟨rfl,⟨⟩⟩ (wL (fun μk D ε w => D = [] ∧ ∃ k : Nat, ∃ G : Option Nat, ∃ cs' : List Value, ∃ v : Value, (k + μk = (p.threads.length)) ∧ (m2a (fun _ _ => T4a) 3 [] w0 G cs' v (A3a p 0 c k)) ∧ St [] w0 w [(some g3, 52, [.slice Xm xm ym, .slice Xa xa ya, .slice Xb xb yb]), (some g2, 27, [.slice Ac nc cc, .slice Am nm cm, .slice Al nl cl, .slice At nt ct]), (G, 68, cs')] ∧ Sl ε [(2, .pointer (some ⟨g2, 0, none⟩)), (3, .pointer (some ⟨g3, 0, none⟩)), (5, v), (10, .int .i64 nt), (11, .int .i64 k)]) (μ := (p.threads.length)) ⟨rfl, 0, none, [], .slice none 0 0, by omega, m2a.nil, S3, rfl⟩ ?_)
 rintro μk D ε w ⟨rfl, k, G, cs', v, _, hrow, S, eZ⟩
 refine wK eZ (wB0 rfl ⟨⟩ (fun h12 => ?_) fun h12 => ?_)
 ·obtain ⟨th, b17, p17, _, hxth, hA17, _, _, hc17, hr17⟩ := RdS.get (hTh) (k) (by omega)
  obtain ⟨_, _, _, _, _, _, _, ns17, _, _, _, _, rfl, _, _, _, _, _, _, _, _, _, _, _, _, _⟩ := T0a.open_ hr17
  have hns := (hp.thread hxth).nsteps
  refine lC (S.k.a hc17) [.o 1,.x b17 p17,.f 0 4] rfl ⟨rfl,⟨hA17,by omega⟩,rfl,⟨⟩⟩ (wL (fun μj D ε w => D = [] ∧ ∃ j : Nat, ∃ G2 : Option Nat, ∃ cs2 : List Value, ∃ v2 : Value, (j + μj = (th.steps.length)) ∧ (m2a (fun _ _ => T4a) 3 [] w0 G2 cs2 v2 (A3a p 0 c k ++ Z2a p 0 c k j)) ∧ St [] w0 w [(some g3, 52, [.slice Xm xm ym, .slice Xa xa ya, .slice Xb xb yb]), (some g2, 27, [.slice Ac nc cc, .slice Am nm cm, .slice Al nl cl, .slice At nt ct]), (G2, 68, cs2)] ∧ Sl ε [(2, .pointer (some ⟨g2, 0, none⟩)), (3, .pointer (some ⟨g3, 0, none⟩)), (5, v2), (6, .int .i64 k), (10, .int .i64 nt), (11, .int .i64 k), (20, .int .i64 ns17), (21, .int .i64 j)]) (μ := (th.steps.length)) ⟨rfl, 0, G, cs', v, by omega, by simpa [Z2a] using hrow, S, rfl⟩ ?_)
  rintro μj D ε w ⟨rfl, j, G2, cs2, v2, _, hrow2, S, eZ⟩
  refine wK eZ (wB0 rfl ⟨⟩ (fun h22 => ?_) fun h22 => ?_)
  ·refine lO S.k [.w 1,.w 0] rfl ⟨⟨rfl,rfl⟩,⟨rfl,rfl⟩,⟨⟩⟩ ?_
   obtain ⟨s, hxs⟩ : ∃ s, th.steps[j]? = some s := ⟨th.steps[j]'(by omega), List.getElem?_eq_getElem _⟩
   refine v0a S Y5c rfl rfl (s0b p c k j th s M _ _ _ (hI.keep (S.keep0 M)) (hX.keep (S.keep0 M)) hf he hxth hxs) (fun h28 w28 S28 X28 => ?_) (fun h28 w28 S28 X28 => ?_)
   ·refine lOn 4 S28.k [] rfl ⟨⟩ (Q0a (by conv => lhs; whnf) rfl ?_)
    refine lO0 rfl ⟨⟩ (p1a R6b (vs := [(0, .int .i64 _), (1, .int .i64 _)]) (cs := [_, _, _]) rfl rfl rfl rfl ?_)
    refine t0a S28 V2a (vs := [.agg _]) (cs := [_, _, _]) (by rfl) rfl rfl rfl rfl rfl rfl ?_
    intro g33 w33 S33 X33 G33
    have l1 := e5a hp hf 0 k (by omega)
    have l2 := Y8a p 0 c k j
    refine q1a C2a (k := 3) (M2 := []) (e1 := ⟨k, j, 0⟩) S33 V2a (by decide) rfl hrow2 rfl rfl (S33.cells 0 rfl) (T4a.of (by unfold i64; omega) (by unfold i64; omega) (by unfold i64; omega)) (by rw [List.length_append]; omega) rfl ?_
    intro v34 G34 cs34 w34 S34 hrow34 X34 F34
    refine y0a (by conv => lhs; whnf) rfl ?_
    refine lP0 rfl ⟨by omega,⟨⟩⟩ ⟨μj - 1, by omega, rfl, (j + 1), (_), (_), (_), (by omega), ?_, S34.tail, rfl⟩
    rw [B5b hxth hxs h28, ← List.append_assoc]; exact hrow34
   refine lP0 rfl ⟨by omega,⟨⟩⟩ ⟨μj - 1, by omega, rfl, (j + 1), (_), (_), (_), (by omega), ?_, S28, rfl⟩
   rw [T7b hxth hxs h28]; exact hrow2
  refine lP0 rfl ⟨by omega,⟨⟩⟩ ⟨μk - 1, by omega, rfl, (k + 1), (_), (_), (_), (by omega), ?_, S, rfl⟩
  rw [f6a, c0b, N1a hxth, he.getD]
  rw [show th.steps.length = j by omega]
  rw [show Z2a p 0 c k j ++ e0b 0 c k ([] : List G0a).length = Z2a p 0 c k j by simp [e0b]]
  exact hrow2
 refine lOn 8 S.k [] rfl ⟨⟩ (Q0a (by conv => lhs; whnf) rfl ?_)
 refine y0a (by conv => lhs; whnf) rfl ?_
 refine lR0 rfl ⟨⟩ (o0a rfl (by conv => lhs; whnf) ?_)
 obtain rfl : k = p.threads.length := by omega
 have l1 := e5a hp hf 0 _ (Nat.le_refl _)
 rw [q2b] at l1
 exact ⟨m2a.rd (M := M) C2a hrow S (k := 2) rfl (fun g hg => by subst hg; exact R0a hI.lt (S.new 2 rfl)) (by omega), S.fin⟩
end Go.Proofs.YtjjmdcnmeommbaaGreatDoor
namespace Go.Fw
open Go.RowKit
section
variable {P : Program} {r : Option Nat} {N : Nat} {D : List Deferred} {e : Env} {w w0 : World} {ops : Array Oper} {rest : List Oper} {K : List Deferred → Env → World → Prop} {L : List Ent} {M : List Nat}
variable {d : Nat} {t : TypeId} {p : String} {af : Array Edge} {x y : Operand}
theorem RdI.oneCells {M' : List Nat} {A : Option Addr} {m c : Nat} {l : List Int} (h : RdI M' w (.slice A m c) l) (hm : 0 < m) : ∃ b o, A = some ⟨b, o, none⟩ ∧ o1a w b o (l.map (Value.int .i64)) := by
 obtain ⟨_, _, _, _, h5⟩ := h.at
 obtain ⟨b, o, h6, _, h8⟩ := h5 hm
 refine ⟨b, o, h6, fun j v hj => ?_⟩
 rw [List.getElem?_map, Option.map_eq_some_iff] at hj
 obtain ⟨a, ha, rfl⟩ := hj
 obtain ⟨_, _, h10, h11⟩ := h8 j a ha
 rw [h11.1] at h10
 have := h10 0 _ rfl
 simpa using this
theorem i0c {ty el bytes k n c g tb : Nat} {z : Value} {A : Option Addr} {cs : List Value} {l : List Int} {M' : List Nat} (S : St M w0 w L) (hS : SlZ P ty el 1 z bytes) (hk : L[k]? = some (some g, tb, cs)) (hx : ev e x = .slice (some ⟨g, 0, none⟩) n n) (hy : ev e y = .slice A n c) (hcs : cs.length = n)
 (hR : RdI M' w (.slice A n c) l) (hd : Nat.ble (d + 1) N = true)
 (h : ∀ w1, St M w0 w1 (L.set k (some g, tb, l.map (Value.int .i64))) → x0a [g] w w1 → WL P r N ops rest K D (upd e d (.int .i64 n)) w1) :
 WL P r N ops (⟨some d, .call { callee := .builtin .copy, args := #[x, y], argTypes := #[ty, ty] }, t, p, af, none⟩ :: rest) K D e w := by
 obtain ⟨_, hi, _, hsz, _⟩ := hS.parts
 have hs1 : (P.info? el).map (·.size) = some 1 := by rw [hi]; simp [hsz]
 have hn : n = l.length := hR.len.1
 by_cases h0 : n = 0
 ·have e1 : l.map (Value.int .i64) = cs := by
   have a1 : l = [] := List.eq_nil_of_length_eq_zero (by omega)
   have a2 : cs = [] := List.eq_nil_of_length_eq_zero (by omega)
   rw [a1, a2]; rfl
  have hrun := run_copy_none (P := P) w ty ty t el (some ⟨g, 0, none⟩) A n n n c hS.und hs1 (by rw [h0]; rfl)
  have S' := S.setEnt k hk e1.symm
  refine X0a (v := .int .i64 n) (w' := w) rfl rfl hd (by simp) ?_ (h w S' (x0a.refl _ _))
  subst h0
  simp [execOp, resolve, invoke, builtin, hx, hy, hrun, goInt]
 ·obtain ⟨b, o, rfl, hc⟩ := hR.oneCells (by omega)
  have hrun := run_copy_row (P := P) w ty ty t el g 0 n n ⟨b, o, none⟩ n c cs.toArray tb (l.map (Value.int .i64)) hS.und hs1 (S.blk k hk) (by simp [hn]) (fun j v hj => by rw [Addr.add_lit]; exact hc j v hj) (by simp; omega)
   (fun v hv => by obtain ⟨a, _, rfl⟩ := List.mem_map.1 hv; rfl)
  have e1 : (cs.toArray.toList.take 0 ++ l.map (Value.int .i64) ++ cs.toArray.toList.drop (0 + (l.map (Value.int .i64)).length)).toArray = (l.map (Value.int .i64)).toArray := by
   have : cs.length ≤ l.length := by omega
   simp [List.drop_of_length_le this]
  rw [e1] at hrun
  have hb : F0a [g] w (w.setRow g (l.map (Value.int .i64)).toArray) := ⟨rfl, rfl, rfl, by simp [World.setRow], fun q hq hm => setRow_other w g q _ (by simpa using hm)⟩
  refine X0a (v := .int .i64 n) rfl rfl hd (by simp) ?_ (h _ (S.changed1 k hk hb (setRow_heap w g _ _ tb _ (S.blk k hk))) ⟨hb.size, fun q hq hm => hb.block q hq hm⟩)
  rw [List.length_map, ← hn] at hrun
  simp [execOp, resolve, invoke, builtin, hx, hy, hrun, goInt]
def Eq3 (P : Program) (ty : TypeId) : Prop := P.eqGuardType P.depth ty = false ∧ ∀ (w : World) (a b c a' b' c' : Int),
 (binOp .eql ty (.agg #[.int .i64 a, .int .i64 b, .int .i64 c]) (.agg #[.int .i64 a', .int .i64 b', .int .i64 c'])).run P w = .ok (.bool (decide (a = a' ∧ b = b' ∧ c = c'))) w
theorem z3c {ty : TypeId} {a b c a' b' c' : Int} (hE : Eq3 P ty) (hx : ev e x = .agg #[.int .i64 a, .int .i64 b, .int .i64 c]) (hy : ev e y = .agg #[.int .i64 a', .int .i64 b', .int .i64 c']) (hd : Nat.ble (d + 1) N = true)
 (h1 : a = a' ∧ b = b' ∧ c = c' → WL P r N ops rest K D (upd e d (.bool true)) w) (h2 : ¬ (a = a' ∧ b = b' ∧ c = c') → WL P r N ops rest K D (upd e d (.bool false)) w) {yt : TypeId} :
 WL P r N ops (⟨some d, .binOp .eql ty x y yt, t, p, af, none⟩ :: rest) K D e w := by
 by_cases hh : a = a' ∧ b = b' ∧ c = c'
 ·exact X0a rfl rfl hd (by simp) (by simp only [execOp, hx, hy, Sem.run_bind, run_eqGuard_agg w _ _ _ _ _ _ hE.1, Result.andThen_ok, hE.2, Sem.run_pure, decide_eq_true hh]) (h1 hh)
 ·exact X0a rfl rfl hd (by simp) (by simp only [execOp, hx, hy, Sem.run_bind, run_eqGuard_agg w _ _ _ _ _ _ hE.1, Result.andThen_ok, hE.2, Sem.run_pure, decide_eq_false hh]) (h2 hh)
end
end Go.Fw
namespace Go.Proofs.YtjjmdcnmeommbaaGreatDoor
open Go.Fw Go.RowKit
theorem j0b : Eq3 Tryz.prog 68 := by
 refine ⟨Tryz.eqGuardType68, fun w a b c a' b' c' => ?_⟩
 have ht : Tryz.prog.underlying 68 = some (.struct (Tryz.prog.fieldsOf 68)) := by unfold Program.fieldsOf; rw [Tryz.underlying68]
 have hag : ∀ w, (isAgg 3).run Tryz.prog w = .ok false w := fun w => by simp [isAgg, run_underlying Tryz.underlying3]
 rw [run_eql_struct, run_equalIn_struct w 9999 _ _ _ ht Tryz.stoodInHeld68]
 unfold Program.fieldsOf
 rw [Tryz.underlying68]
 by_cases h1 : a = a' <;> by_cases h2 : b = b' <;> by_cases h3 : c = c' <;> simp [Op.eqFields, part, hag, run_equalIn_int _ 9998 _ .i64 .i64 _ _ Tryz.underlying3, h1, h2, h3]
end Go.Proofs.YtjjmdcnmeommbaaGreatDoor
namespace Go.Proofs.YtjjmdcnmeommbaaGreatDoor
open Go.Fw Go.RowKit
theorem q0b (p : e0a) (c : B0a) (t i : Nat) (th : S0a) (s : k1a) (M : List Nat) (w0 : World) (cs xs : List Value) (hI : InP p M w0 cs) (hX : K0a M w0 c xs) (hf : b6a p c) (he : J5a c) (hxth : p.threads[t]? = some th) (hxs : th.steps[i]? = some s) (hf' : b6a p (doC p 0 c ⟨t, i, 0⟩)) :
 J0a Tryz.prog 171 #[.agg cs.toArray, .agg xs.toArray, .agg #[.int .i64 t, .int .i64 i, .int .i64 0]] w0 fun v w' => (∃ ys, v = .agg ys.toArray ∧ K0a M w' (doC p 0 c ⟨t, i, 0⟩) ys) ∧ Below w0.heap.size w0 w' := by
 obtain ⟨Ac, nc, cc, Am, nm, cm, Al, nl, cl, At, nt, ct, rfl, _, _, _, hTh, _, _, _, _, _, _, _, _⟩ := hI.rd.open_
 obtain ⟨Xm, xm, ym, Xa, xa, ya, Xb, xb, yb, rfl, hMem, hAt, _, hxm, hxa, hxb, b1, b2, b3⟩ := hX.open_
 have S := St.refl w0
 have f1 := hf.mem.len
 have f2 := hf.nat
 have f3 := hf.nbuf
 have hp := hI.ok
 have n1 := hp.ncells
 have n2 := hp.nthreads
 have ht := z1a hxth
 have hi := z1a hxs
 have hso := (hp.thread hxth).steps s (h0a hxs)
 have hk6 : 6 ≤ s.kind → 0 ≤ s.target ∧ s.target < p.threads.length := fun h => (hso.row.k6 h).1
 refine a0a Tryz.func171 rfl Tryz.ntmps171 rfl ?_
 refine wO0 rfl ⟨⟩ (m0a S (by conv => lhs; whnf) rfl ?_)
 intro g3 w3 S3 X3 G3
 refine m0a S3 (by conv => lhs; whnf) rfl ?_
 intro g4 w4 S4 X4 G4
 refine m0a S4 (by conv => lhs; whnf) rfl ?_
 intro g5 w5 S5 X5 G5
 refine g0a S5 c6a rfl rfl ?_
 intro g6 w6 S6 X6 G6
 refine lC0 rfl ⟨⟩ (o3c b0a [0, 1, 2, 3, 4, 5, 6, 7, 8, 9, 10, 11, 12, 13] 14 (by kernel_rfl) (by kernel_rfl) (Cl _ _ _ _) (Cl.start S6) _ rfl ?_)
 refine m5a rfl rfl ?_
 refine U0a e5b rfl rfl ?_
 refine q0a ?_
 refine m5a rfl rfl ?_
 refine j0a Z3a rfl (fun w1 hw => by exact hw.1.cell 2 rfl rfl) rfl ?_
 refine q0a ?_
 refine N0b rfl W0a.slT rfl rfl ?_
 refine D7a (n := xm) (c := xm) rfl rfl rfl W0a rfl rfl (by omega) (by omega) (by omega) rfl ?_
 intro g14 G14 ng14
 refine m5a rfl rfl ?_
 refine U0a D5b rfl rfl ?_
 refine q0a ?_
 refine m5a rfl rfl ?_
 refine j0a Z3a rfl (fun w1 hw => by exact hw.1.cell 2 rfl rfl) rfl ?_
 refine q0a ?_
 refine N0b rfl W0a.slT rfl rfl ?_
 refine D7a (n := xa) (c := xa) rfl rfl rfl W0a rfl rfl (by omega) (by omega) (by omega) rfl ?_
 intro g18 G18 ng18
 refine m5a rfl rfl ?_
 refine U0a b5a rfl rfl ?_
 refine q0a ?_
 refine m5a rfl rfl ?_
 refine j0a h6a rfl (fun w1 hw => by exact hw.1.cell 2 rfl rfl) rfl ?_
 refine q0a ?_
 refine N0b rfl I4a.slT rfl rfl ?_
 refine D7a (n := xb) (c := xb) rfl rfl rfl I4a rfl rfl (by omega) (by omega) (by omega) rfl ?_
 intro g22 G22 ng22
 refine m5a rfl rfl ?_
 refine Q2a j5a (vs := [(0, .slice _ _ _), (1, .slice _ _ _), (2, .slice _ _ _)]) (cs := [_, _, _]) rfl rfl rfl rfl ?_
 refine q0a ?_
 refine s6b rfl rfl rfl c6a rfl ?_
 intro g7 G7 ng7
 refine Z5b ?_
 rintro wR1 ⟨SR1, _⟩ ⟨⟨⟨⟨-, hg14⟩, hg18⟩, hg22⟩, hg7⟩
 clear ng14
 replace SR1 := SR1.push_new S6 hg14 G14
 replace SR1 := SR1.push_more (L1 := [_]) S6 hg18 G18 (by simpa [eq_comm] using ng18)
 replace SR1 := SR1.push_more (L1 := [_, _]) S6 hg22 G22 (by simpa [eq_comm] using ng22)
 replace SR1 := SR1.push_more (L1 := [_, _, _]) S6 hg7 G7 (by simpa [eq_comm] using ng7)
 refine d0a (kk := 0) (vs := [_, _, _]) SR1 K2a rfl rfl rfl rfl rfl rfl rfl ?_
 intro w1_14 S1_14 X1_14
 dsimp only [n0a, List.set] at S1_14
 refine L0a ⟨rfl, ?_⟩
 refine fO S1_14.k [.o 0,.o 6] rfl ⟨rfl,rfl,⟨⟩⟩ (i0c (k := 3) S1_14 W0a rfl rfl rfl (by simp) (hMem.keep (S1_14.keep0 M)) rfl ?_)
 intro w28 S28 X28
 refine lO S28.k [.o 0,.o 6] rfl ⟨rfl,rfl,⟨⟩⟩ (i0c (k := 2) S28 W0a rfl rfl rfl (by simp) (hAt.keep (S28.keep0 M)) rfl ?_)
 intro w33 S33 X33
 refine lC0 rfl ⟨⟩ (A0a b0a [0, 1, 2, 3, 4, 5, 6, 7, 8, 9, 10] [11] [12] (by kernel_rfl) rfl (Cl _ _ _ _) (Cl.start S33) ?_)
 obtain ⟨_, b38, p38, _, hx38, hA38, _, _, hc38, hr38⟩ := RdS.get (hTh) (t) (by omega)
 obtain rfl := Option.some.inj (hxth.symm.trans hx38)
 obtain ⟨_, _, _, _, _, _, _, _, _, _, _, _, rfl, _, _, _, hSt38, _, _, _, _, _, _, _, _, _⟩ := T0a.open_ hr38
 obtain ⟨_, b43, p43, _, hx43, hA43, _, hl43, hc43, hr43⟩ := RdS.get (hSt38) (i) (by omega)
 obtain rfl := Option.some.inj (hxs.symm.trans hx43)
 obtain ⟨Ag43, ng43, cg43, As43, ns43, cs43, rfl, ⟨_, _, _, _, _⟩, _, hSet43, _, _⟩ := s1a.open_ hr43
 refine qN ((S33.q.a hc43).a hc38) [.o 7,.o 5,.x b38 p38,.f 0 4,.o 5,.x b43 p43,.v 1] rfl ⟨⟨rfl,hl43⟩,⟨hA43,by omega⟩,rfl,rfl,⟨hA38,by omega⟩,rfl,rfl,⟨⟩⟩ (h4a ?_)
 refine S6a rfl rfl o2b rfl ?_
 refine Q1a ?_
 rintro wR4 ⟨SR4, _⟩
 intro g8 hg8 G8 ng8
 dsimp only [C3a]
 clear ng8
 replace SR4 := SR4.push_new S33 hg8 G8
 refine d0a (kk := 0) (vs := [_, _, _, _, _, _, _, _, _, _, _]) SR4 i2b rfl rfl rfl rfl rfl rfl rfl ?_
 intro w4_12 S4_12 X4_12
 dsimp only [n0a, List.set] at S4_12
 refine lC S4_12.k [.o 0] rfl ⟨rfl,⟨⟩⟩ (wL (fun μk D ε w => D = [] ∧ ∃ k : Nat, (k + μk = (s.set.length)) ∧ St [] w0 w [(some g8, 88, [.int .i64 s.kind, .int .i64 s.frm, .int .i64 s.to, .int .i64 s.guard.op, .int .i64 s.guard.w, .int .i64 s.guard.n, .slice Ag43 ng43 cg43, .slice As43 ns43 cs43, .bool s.release, .int .i64 s.target, .int .i64 s.module_]), (some g7, 52, [.slice (some ⟨g14, 0, none⟩) xm xm, .slice (some ⟨g18, 0, none⟩) xa xa, .slice (some ⟨g22, 0, none⟩) xb xb]), (some g22, 118, List.replicate xb (.slice none 0 0)), (some g18, 3, c.at_.map (Value.int .i64)), (some g14, 3, (v0b (s.set.take k) c.mem c.mem).map (Value.int .i64)), (some g6, 52, [.slice none 0 0, .slice none 0 0, .slice none 0 0]), (some g5, 68, [.int .i64 t, .int .i64 i, .int .i64 0]), (some g4, 52, [.slice Xm xm ym, .slice Xa xa ya, .slice Xb xb yb]), (some g3, 27, [.slice Ac nc cc, .slice Am nm cm, .slice Al nl cl, .slice At nt ct])] ∧ Sl ε [(4, .pointer (some ⟨g4, 0, none⟩)), (5, .pointer (some ⟨g5, 0, none⟩)), (6, .pointer (some ⟨g6, 0, none⟩)), (7, .pointer (some ⟨g7, 0, none⟩)), (8, .pointer (some ⟨g8, 0, none⟩)), (46, .slice As43 ns43 cs43), (47, .int .i64 ns43), (48, .int .i64 k)]) (μ := (s.set.length)) ⟨rfl, 0, by omega, S4_12, rfl⟩ ?_)
 rintro μk D ε w ⟨rfl, k, _, S, eZ⟩
 refine wK eZ (wB0 rfl ⟨⟩ (fun h49 => ?_) fun h49 => ?_)
 ·obtain ⟨a, b50, p50, _, hxa, hA50, _, hl50, hc50, hr50⟩ := RdS.get (hSet43) (k) (by omega)
  obtain ⟨_, _, _, rfl, _, hE50⟩ := O0a.open_ hr50
  have q1 := (hso.set a (h0a hxa)).1
  unfold j3a at q1
  refine lO (S.k.a hc50) [.x b50 p50,.v 0] rfl ⟨⟨rfl,hl50⟩,⟨hA50,by omega⟩,⟨⟩⟩ (g0a S R1b rfl rfl ?_)
  intro g10 w10 S10 X10 G10
  refine d0a (kk := 0) (vs := [_, _, _, _, _]) S10 u1b rfl rfl rfl rfl rfl rfl rfl ?_
  intro w7_3 S7_3 X7_3
  dsimp only [n0a, List.set] at S7_3
  refine lC0 rfl ⟨⟩ (A0a b0a [0, 1, 2, 3, 4, 5, 6, 7, 8, 9, 10, 11] [] [12] (by kernel_rfl) rfl (Cl _ _ _ _) (Cl.start S7_3) ?_)
  refine qO S7_3.q [.o 2,.o 0,.o 0,.o 8,.o 8] rfl ⟨rfl,rfl,rfl,rfl,rfl,⟨⟩⟩ (p2a f9a rfl rfl (fun w1 S1 X1 => A6a a.to M _ _ _ _ c.mem c.mem (RdE.keep (S1.keep0 M) _ _ hE50) (hI.keep (S1.keep0 M)).msk (hMem.keep (S1.keep0 M)) (hMem.keep (S1.keep0 M))) ?_)
  refine p0a W0a.slT rfl (by rfl) rfl (by omega) (by omega) rfl ?_
  refine qD rfl ⟨⟩ ?_
  rintro wR8 ⟨SR8, _⟩
  first | refine u0a (kk := 5) SR8 D8a rfl (by conv => lhs; whnf) rfl rfl (by (simp; omega)) ?_
  intro w8_12 S8_12 X8_12
  refine lP0 rfl ⟨by omega,⟨⟩⟩ ⟨μk - 1, by omega, rfl, (k + 1), (by omega), (S8_12.tail.setEnt 4 rfl (H9b hxa (by simp))), rfl⟩
 refine lO S.k [.o 1,.o 6,.o 0] rfl ⟨rfl,rfl,rfl,⟨⟩⟩ (H0a W0a.slT rfl (by rfl) rfl (by omega) (by omega) rfl ?_)
 first | refine u0a (kk := 3) S D8a rfl (by conv => lhs; whnf) rfl rfl (by (simp; omega)) ?_
 intro w10_7 S10_7 X10_7
 refine lB S10_7.k [.o 0] rfl ⟨rfl,⟨⟩⟩ (fun h74 => ?_) fun h74 => ?_
 ·refine lO S10_7.k [.o 1,.o 0] rfl ⟨rfl,rfl,⟨⟩⟩ ?_
  have q6 := hk6 (by omega)
  refine H0a W0a.slT rfl (by rfl) rfl (by omega) (by omega) rfl ?_
  first | refine u0a (kk := 3) S10_7 D8a rfl (by conv => lhs; whnf) rfl rfl (by (simp; omega)) ?_
  intro w12_5 S12_5 X12_5
  refine lO S12_5.k [.w 1] rfl ⟨⟨rfl,rfl⟩,⟨⟩⟩ ?_
  first | refine d0a (kk := 5) (vs := [_, _, _]) S12_5 K2a rfl rfl rfl rfl rfl rfl rfl ?_
  intro w13_1 S13_1 X13_1
  dsimp only [n0a, List.set] at S13_1
  refine lR0 rfl ⟨⟩ ?_
  have SF := (S13_1.setEnt 3 rfl (show _ = (atC c t s).map (Value.int .i64) by simp [atC, h74, List.map_set])).setEnt 4 rfl (show _ = (v0b s.set c.mem c.mem).map (Value.int .i64) by rw [List.take_of_length_le (by omega)])
  rw [H9c he hxth hxs] at hf' ⊢
  exact y1a (n := 3) rfl t1a rfl (SF.cells 5 rfl) rfl ⟨⟨_, rfl, _, _, _, rfl, SF.rdInts 4 rfl (R0a hI.lt (SF.new 4 rfl)) (by simp [hxm]) b1 (d5a hp hf'.mem), SF.rdInts 3 rfl (R0a hI.lt (SF.new 3 rfl)) (by rw [A5a]; exact hxa) b2 (v8a hp hf'), SF.rdBufs 2 rfl (R0a hI.lt (SF.new 2 rfl)) hxb b3 he⟩, SF.fin⟩
 refine lO S10_7.k [.w 1] rfl ⟨⟨rfl,rfl⟩,⟨⟩⟩ ?_
 first | refine d0a (kk := 5) (vs := [_, _, _]) S10_7 K2a rfl rfl rfl rfl rfl rfl rfl ?_
 intro w13_1 S13_1 X13_1
 dsimp only [n0a, List.set] at S13_1
 refine lR0 rfl ⟨⟩ ?_
 have SF := (S13_1.setEnt 3 rfl (show _ = (atC c t s).map (Value.int .i64) by simp [atC, h74, List.map_set])).setEnt 4 rfl (show _ = (v0b s.set c.mem c.mem).map (Value.int .i64) by rw [List.take_of_length_le (by omega)])
 rw [H9c he hxth hxs] at hf' ⊢
 exact y1a (n := 3) rfl t1a rfl (SF.cells 5 rfl) rfl ⟨⟨_, rfl, _, _, _, rfl, SF.rdInts 4 rfl (R0a hI.lt (SF.new 4 rfl)) (by simp [hxm]) b1 (d5a hp hf'.mem), SF.rdInts 3 rfl (R0a hI.lt (SF.new 3 rfl)) (by rw [A5a]; exact hxa) b2 (v8a hp hf'), SF.rdBufs 2 rfl (R0a hI.lt (SF.new 2 rfl)) hxb b3 he⟩, SF.fin⟩
theorem k9c {p : e0a} {m : Int} {c : B0a} (he : J5a c) {x : c0a} (hx : x ∈ N0a p m c) : ∃ (t i : Nat) (th : S0a) (s : k1a), x = ⟨t, i, 0⟩ ∧ p.threads[t]? = some th ∧ th.steps[i]? = some s ∧ P0a p m c t s = true := by
 obtain ⟨t, ht, h | h⟩ := H1a.1 hx
 ·obtain ⟨i, s, hs, he, rfl⟩ := h
  have hth : p.threads[t]? = some p.threads[t] := List.getElem?_eq_getElem ht
  rw [N1a hth] at hs
  exact ⟨t, i, _, s, rfl, hth, hs, he⟩
 ·obtain ⟨i, h1, -⟩ := h
  rw [he.getD] at h1; simp at h1
theorem i5b (p : e0a) (c : B0a) (x : c0a) (M : List Nat) (w0 : World) (cs xs : List Value) (hI : InP p M w0 cs) (hX : K0a M w0 c xs) (hf : b6a p c) (he : J5a c) (hx : x ∈ N0a p 0 c) :
 J0a Tryz.prog 135 #[.agg cs.toArray, .agg xs.toArray, .agg #[.int .i64 x.thread, .int .i64 x.step, .int .i64 x.cell]] w0 fun v w' => (∃ ys, v = .tuple #[.agg ys.toArray, .int .i64 0] ∧ K0a M w' (doC p 0 c x) ys) ∧ Below w0.heap.size w0 w' := by
 obtain ⟨t, i, th, s, rfl, hxth, hxs, _⟩ := k9c he hx
 have hf' := V5b hI.ok hf hx
 obtain ⟨Ac, nc, cc, Am, nm, cm, Al, nl, cl, At, nt, ct, rfl, _, _, _, _, _, _, _, _, _, _, _, _⟩ := hI.rd.open_
 obtain ⟨Xm, xm, ym, Xa, xa, ya, Xb, xb, yb, rfl, _, _, _, _, _, _, _, _, _⟩ := hX.open_
 have S := St.refl w0
 refine a0a Tryz.func135 rfl Tryz.ntmps135 rfl ?_
 refine wO0 rfl ⟨⟩ (m0a S (by conv => lhs; whnf) rfl ?_)
 intro g3 w3 S3 X3 G3
 refine m0a S3 (by conv => lhs; whnf) rfl ?_
 intro g4 w4 S4 X4 G4
 refine m0a S4 (by conv => lhs; whnf) rfl ?_
 intro g5 w5 S5 X5 G5
 refine g0a S5 c6a rfl rfl ?_
 intro g6 w6 S6 X6 G6
 refine lO S6.k [.w 3] rfl ⟨⟨rfl,rfl⟩,⟨⟩⟩ (f0a S6 M5b rfl rfl (N5a p M _ _ (hI.keep (S6.keep0 M))) ?_)
 intro w11 S11 X11
 refine lO S11.k [.w 3,.w 2] rfl ⟨⟨rfl,rfl⟩,⟨rfl,rfl⟩,⟨⟩⟩ (f0a S11 c9b rfl rfl (X9a p c M _ _ _ (hI.keep (S11.keep0 M)) (hX.keep (S11.keep0 M)) hf he) ?_)
 intro w16 S16 X16
 refine lO S16.k [.w 3,.w 2] rfl ⟨⟨rfl,rfl⟩,⟨rfl,rfl⟩,⟨⟩⟩ (C0a S16 P9b rfl rfl (d6a p c M _ _ _ (hI.keep (S16.keep0 M)) (hX.keep (S16.keep0 M)) hf he) ?_)
 rintro v22 w22 hr S22 X22
 obtain ⟨Ar, nr, cr, rfl⟩ := hr.form
 obtain ⟨_, -, _⟩ := hr.len
 have K22 := x0a.refl [] w22
 refine lC0 rfl ⟨⟩ (wL (fun μk D ε w => D = [] ∧ ∃ k : Nat, (k + μk = ((N0a p 0 c).length)) ∧ (x0a [] w22 w) ∧ (n1a (N0a p 0 c) k (fun y => y ≠ ⟨t, i, 0⟩)) ∧ St [] w0 w [(some g6, 52, [.slice none 0 0, .slice none 0 0, .slice none 0 0]), (some g5, 68, [.int .i64 t, .int .i64 i, .int .i64 0]), (some g4, 52, [.slice Xm xm ym, .slice Xa xa ya, .slice Xb xb yb]), (some g3, 27, [.slice Ac nc cc, .slice Am nm cm, .slice Al nl cl, .slice At nt ct])] ∧ Sl ε [(3, .pointer (some ⟨g3, 0, none⟩)), (4, .pointer (some ⟨g4, 0, none⟩)), (5, .pointer (some ⟨g5, 0, none⟩)), (6, .pointer (some ⟨g6, 0, none⟩)), (22, .slice Ar nr cr), (23, .int .i64 nr), (24, .int .i64 k)]) (μ := ((N0a p 0 c).length)) ⟨rfl, 0, by omega, K22, n1a.zero, S22, rfl⟩ ?_)
 rintro μk D ε w ⟨rfl, k, _, K22, hs, S, eZ⟩
 refine wK eZ (wB0 rfl ⟨⟩ (fun h25 => ?_) fun h25 => ?_)
 ·obtain ⟨y, b26, p26, _, hxy, hA26, _, hl26, hc26, hr26⟩ := RdS.get ((hr.keep K22.of_nil)) (k) (by omega)
  obtain ⟨rfl, _, _, _⟩ := id hr26
  refine lO (S.k.b hc26) [.x b26 p26,.v 0] rfl ⟨⟨rfl,hl26⟩,⟨hA26,by omega⟩,⟨⟩⟩ (g0a S a2b rfl rfl ?_)
  intro g9 w9 S9 X9 G9
  have GK229 := Nat.le_trans K22.size G9
  replace K22 := K22.trans X9
  refine d0a (kk := 0) (vs := [_, _, _]) S9 w0b rfl rfl rfl rfl rfl rfl rfl ?_
  intro w5_3 S5_3 X5_3
  dsimp only [n0a, List.set] at S5_3
  replace K22 := K22.fresh X5_3 (by first | exact GK229)
  refine lOn 6 S5_3.k [.w 2,.w 0] rfl ⟨⟨rfl,by rfl⟩,⟨rfl,rfl⟩,⟨⟩⟩ (z3c j0b rfl rfl rfl (fun h30 => ?_) fun h30 => ?_)
  ·refine lO S5_3.k [.w 4,.w 3,.w 2] rfl ⟨⟨rfl,rfl⟩,⟨rfl,rfl⟩,⟨rfl,rfl⟩,⟨⟩⟩ (C0a S5_3 C5c rfl rfl (q0b p c t i th s (g6 :: M) _ _ _ (hI.add S5_3 (k := 1) rfl) (K0a.add hX S5_3 (k := 1) rfl) hf he hxth hxs hf') ?_)
   rintro v34 w34 ⟨ys, rfl, hy⟩ S34 X34
   obtain ⟨_, _, _, _, _, _, _, _, _, rfl, -⟩ := hy.open_
   first | refine d0a (kk := 1) (vs := [_, _, _]) S34 K2a rfl rfl rfl rfl rfl rfl rfl ?_
   intro w7_4 S7_4 X7_4
   dsimp only [n0a, List.set] at S7_4
   replace hy := hy.keep (X7_4.mono (by simp))
   exact lR0 rfl ⟨⟩ (m4a (n := 3) rfl t1a rfl (S7_4.cells 1 rfl) rfl rfl ⟨⟨_, rfl, hy.less (fun g hg => List.mem_cons_of_mem _ hg)⟩, S7_4.fin⟩)
  refine lP0 rfl ⟨by omega,⟨⟩⟩ ?_
  refine ⟨μk - 1, by omega, rfl, (k + 1), (by omega), (K22), (hs.succ hxy (fun h => h30 (by rw [h]; exact ⟨rfl, rfl, rfl⟩))), S5_3.tail, rfl⟩
 refine lO0 rfl ⟨⟩ (p1a j5a (vs := []) (cs := [_, _, _]) rfl rfl rfl rfl ?_)
 refine d0a (kk := 0) (vs := [_, _, _]) S K2a rfl rfl rfl rfl rfl rfl rfl ?_
 intro w9_1 S9_1 X9_1
 dsimp only [n0a, List.set] at S9_1
 exact lR0 rfl ⟨⟩ (absurd rfl (hs.all (by omega) _ hx))
end Go.Proofs.YtjjmdcnmeommbaaGreatDoor
namespace Go.Fw
open Go.RowKit
theorem RdS.take {α : Type} {M : List Nat} {w : World} {size : Nat} {R : List Value → α → Prop} {A : Option Addr} {n c : Nat} {l : List α} (h : RdS M w size R (.slice A n c) l) (i : Nat) (hi : i ≤ n) : RdS M w size R (.slice A i c) (l.take i) := by
 obtain ⟨_, _, _, he, _, _, h3, _, h5⟩ := h
 cases he
 refine ⟨_, _, _, rfl, by rw [List.length_take]; omega, by omega, h3, by omega, fun h0 => ?_⟩
 obtain ⟨b, o, hA, hb, hel⟩ := h5 (by omega)
 refine ⟨b, o, hA, hb, fun j x hx => hel j x ?_⟩
 rw [List.getElem?_take] at hx
 split at hx
 ·exact hx
 ·cases hx
theorem V1c {l : List Int} (h : l.Nodup) {k : Nat} {x : Int} (hx : l[k]? = some x) : x ∉ l.take k := fun hh => by
 obtain ⟨i, hi, he⟩ := List.getElem_of_mem hh
 rw [List.length_take] at hi
 obtain ⟨hk, hx⟩ := List.getElem?_eq_some_iff.1 hx
 rw [List.getElem_take] at he
 exact (List.pairwise_iff_getElem.1 h i k (by omega) hk (by omega)) (he.trans hx.symm)
theorem w6b {a b : List Int} {k : Nat} {x y : Int} (hx : a[k]? = some x) (hy : b[k]? = some y) : (x, y) ∈ a.zip b := List.mem_of_getElem? (i := k) (by rw [List.getElem?_zip_eq_some]; exact ⟨hx, hy⟩)
end Go.Fw
namespace Go.Proofs.YtjjmdcnmeommbaaGreatDoor
open Go.Fw Go.RowKit
theorem q8b (M : List Nat) (w0 : World) (v : Value) (l : List Int) (a : Int) (hR : RdI M w0 v l) :
 J0a Tryz.prog 190 #[v, .int .i64 a] w0 fun v w' => (∃ n, v = .int .i64 n ∧ (0 ≤ n ↔ a ∈ l)) ∧ Below w0.heap.size w0 w' := by
 obtain ⟨A, n, c, rfl⟩ := hR.form
 obtain ⟨_, _, _⟩ := hR.len
 have S := St.refl w0
 refine a0a Tryz.func190 rfl Tryz.ntmps190 rfl ?_
 refine wC0 rfl ⟨⟩ (wL (fun μk D ε w => D = [] ∧ ∃ k : Nat, (k + μk = (l.length)) ∧ (n1a (l) k (fun x => a ≠ x)) ∧ St [] w0 w [] ∧ Sl ε [(0, .slice A n c), (1, .int .i64 a), (7, .int .i64 n), (8, .int .i64 k)]) (μ := (l.length)) ⟨rfl, 0, by omega, n1a.zero, S, rfl⟩ ?_)
 rintro μk D ε w ⟨rfl, k, _, ha, S, eZ⟩
 refine wK eZ (wB0 rfl ⟨⟩ (fun h9 => ?_) fun h9 => ?_)
 ·obtain ⟨x, b14, p14, _, hxx, hA14, _, _, hc14, hr14⟩ := RdS.get (hR) (k) (by omega)
  obtain ⟨rfl, _⟩ := id hr14
  refine lB (S.k.a hc14) [.x b14 p14,.f 0 0] rfl ⟨rfl,⟨hA14,by omega⟩,⟨⟩⟩ (fun h16 => ?_) fun h16 => ?_
  ·exact lT rfl ⟨⟩ rfl ⟨⟨_, rfl, ⟨fun _ => h16 ▸ h0a hxx, fun _ => by omega⟩⟩, S.fin⟩
  refine lP0 rfl ⟨by omega,⟨⟩⟩ ⟨μk - 1, by omega, rfl, (k + 1), (by omega), (ha.succ hxx (h16)), S, rfl⟩
 exact lT rfl ⟨⟩ rfl ⟨⟨_, rfl, ⟨fun h => by omega, fun h => absurd rfl (ha.all (by omega) a h)⟩⟩, S.fin⟩
theorem M5a (M : List Nat) (w0 : World) (v : Value) (l : List Int) (a : Int) (hR : RdI M w0 v l) :
 J0a Tryz.prog 156 #[v, .int .i64 a] w0 fun v w' => v = .bool (decide (a ∈ l)) ∧ Below w0.heap.size w0 w' := by
 obtain ⟨_, _, _, rfl⟩ := hR.form
 have S := St.refl w0
 refine a0a Tryz.func156 rfl Tryz.ntmps156 rfl ?_
 refine wO0 rfl ⟨⟩ (C0a S z6c rfl rfl (q8b M _ _ l a (hR.keep (S.keep0 M))) ?_)
 rintro v7 w7 ⟨_, rfl, hm⟩ S7 X7
 refine lB0 rfl ⟨⟩ (fun h8 => ?_) fun h8 => ?_
 ·refine lR0 rfl ⟨⟩ (o0a rfl (by conv => lhs; whnf) ?_)
  exact ⟨by rw [decide_eq_true (hm.1 (by omega))], S7.fin⟩
 refine lR0 rfl ⟨⟩ (o0a rfl (by conv => lhs; whnf) ?_)
 exact ⟨by rw [decide_eq_false (fun hh => absurd (hm.2 hh) (by omega))], S7.fin⟩
theorem Y9a (p : e0a) (M : List Nat) (w0 : World) (cs : List Value) (hI : InP p M w0 cs) :
 J0a Tryz.prog 172 #[.agg cs.toArray] w0 fun v w' => v = .bool true ∧ Below w0.heap.size w0 w' := by
 obtain ⟨_, _, _, _, _, _, _, _, _, _, _, _, rfl, _, _, _, _, _, _, _, _, _, _, _, _⟩ := hI.rd.open_
 have S := St.refl w0
 refine a0a Tryz.func172 rfl Tryz.ntmps172 rfl ?_
 refine wO0 rfl ⟨⟩ (m0a S (by conv => lhs; whnf) rfl ?_)
 intro g1 w1 S1 X1 G1
 refine lO S1.k [.w 0] rfl ⟨⟨rfl,by rfl⟩,⟨⟩⟩ (f0a S1 u3b rfl rfl (y5a p M _ _ (hI.keep (S1.keep0 M)).rd hI.ok (hI.keep (S1.keep0 M)).msk (hI.keep (S1.keep0 M)).lt) ?_)
 intro w8 S8 X8
 refine lB0 rfl ⟨⟩ (fun h13 => ?_) (fun h13 => by exfalso; omega)
 exact lT rfl ⟨⟩ rfl ⟨rfl, S8.fin⟩
theorem p3b (p : e0a) (en : G0a) (M : List Nat) (w0 : World) (cs es : List Value) (hI : InP p M w0 cs) (hE : a1a M w0 es en) (ho : u0b p en) :
 J0a Tryz.prog 205 #[.agg cs.toArray, .agg es.toArray] w0 fun v w' => v = .bool true ∧ Below w0.heap.size w0 w' := by
 obtain ⟨Ac, nc, cc, Am, nm, cm, Al, nl, cl, At, nt, ct, rfl, hC, _, _, _, _, _, _, _, _, _, _, _⟩ := hI.rd.open_
 obtain ⟨Ec, ec, fc, Ev, ev', fv, rfl, hCe, hVa, _, _, _, _⟩ := hE.open_
 have S := St.refl w0
 have l1 := ho.len
 have l2 : en.values.length = en.cells.length := ho.even
 have l3 : en.cells.length ≠ 0 := fun h => ho.some_ (List.length_eq_zero_iff.1 h)
 refine a0a Tryz.func205 rfl Tryz.ntmps205 rfl ?_
 refine wO0 rfl ⟨⟩ (m0a S (by conv => lhs; whnf) rfl ?_)
 intro g2 w2 S2 X2 G2
 refine m0a S2 (by conv => lhs; whnf) rfl ?_
 intro g3 w3 S3 X3 G3
 refine lB S3.k [.o 0] rfl ⟨rfl,⟨⟩⟩ (fun h11 => by exfalso; omega) fun h11 => ?_
 refine lB S3.k [.o 0,.o 1] rfl ⟨rfl,rfl,⟨⟩⟩ (fun h19 => by exfalso; omega) fun h19 => ?_
 refine lB S3.k [.o 0,.o 0] rfl ⟨rfl,rfl,⟨⟩⟩ (fun h28 => by exfalso; omega) fun h28 => ?_
 refine lC S3.k [.o 0] rfl ⟨rfl,⟨⟩⟩ (wL (fun μk D ε w => D = [] ∧ ∃ k : Nat, (k + μk = (en.cells.length)) ∧ St [] w0 w [(some g3, 121, [.slice Ec ec fc, .slice Ev ev' fv]), (some g2, 27, [.slice Ac nc cc, .slice Am nm cm, .slice Al nl cl, .slice At nt ct])] ∧ Sl ε [(2, .pointer (some ⟨g2, 0, none⟩)), (3, .pointer (some ⟨g3, 0, none⟩)), (31, .slice Ec ec fc), (32, .int .i64 ec), (33, .int .i64 k)]) (μ := (en.cells.length)) ⟨rfl, 0, by omega, S3, rfl⟩ ?_)
 rintro μk D ε w ⟨rfl, k, _, S, eZ⟩
 refine wK eZ (wB0 rfl ⟨⟩ (fun h34 => ?_) fun h34 => ?_)
 ·obtain ⟨x, b36, p36, _, hxx, hA36, _, _, hc36, hr36⟩ := RdS.get (hCe) (k) (by omega)
  obtain ⟨rfl, _⟩ := id hr36
  have q1 := ho.cells k x hxx
  obtain ⟨q2, q3, q4⟩ := q1
  unfold j3a at q2
  have hCe2 : RdI M w0 (.slice (some ⟨b36, p36, none⟩) ec fc) en.cells := hA36 ▸ hCe
  refine lB (S.k.a hc36) [.x b36 p36,.f 0 0] rfl ⟨rfl,⟨hA36,by omega⟩,⟨⟩⟩ (fun h39 => by exfalso; omega) fun h39 => ?_
  refine lB S.k [.o 1] rfl ⟨rfl,⟨⟩⟩ (fun h45 => by exfalso; omega) fun h45 => ?_
  refine lO S.k [.o 0] rfl ⟨rfl,⟨⟩⟩ ?_
  refine M5c (k := k) W0a.slT (show _ = Value.slice (some ⟨b36, p36, none⟩) ec fc by rw [← hA36]; rfl) rfl (by have := hCe.len; omega) hCe.len.2.1 rfl ?_
  refine lO0 rfl ⟨⟩ (f0a S I5b rfl rfl ((M5a M _ _ (en.cells.take k) x (RdS.take (hCe2.keep (S.keep0 M)) k (by omega))).mono (fun v w' h => ⟨h.1.trans (by rw [decide_eq_false (V1c ho.once hxx)]), h.2⟩)) ?_)
  intro w53 S53 X53
  obtain ⟨cl', b58, p58, _, hxcl', hA58, _, hl58, hc58, hr58⟩ := RdS.get (hC) (x.toNat) (by omega)
  obtain ⟨rfl, _, _, _, _⟩ := J2a.open_ hr58
  rw [c1a hxcl'] at q3
  rw [V4a hxcl'] at q4
  have q5 := (hI.ok.cells cl' (h0a hxcl')).w
  refine lO (S53.k.a hc58) [.o 1,.x b58 p58,.v 0] rfl ⟨⟨rfl,hl58⟩,⟨hA58,by omega⟩,rfl,⟨⟩⟩ (g0a S53 n5c rfl rfl ?_)
  intro g7 w7 S7 X7 G7
  refine d0a (kk := 0) (vs := [_, _, _, _, _, _]) S7 i5c rfl rfl rfl rfl rfl rfl rfl ?_
  intro w8_6 S8_6 X8_6
  dsimp only [n0a, List.set] at S8_6
  refine lC0 rfl ⟨⟩ (A0a b0a [0, 1, 2, 3, 4, 5, 6, 7, 8, 9, 10, 11, 12, 13, 14, 15, 16, 17, 18, 19, 20, 21, 22, 23, 24, 25, 26, 27, 28] [] [] (by kernel_rfl) rfl (Cl _ _ _ _) (Cl.start S8_6) ?_)
  refine qB S8_6.q [.o 0] rfl ⟨rfl,⟨⟩⟩ (fun h62 => by exfalso; omega) fun h62 => ?_
  refine qO0 rfl ⟨⟩ ?_
  rcases (Bool.eq_false_or_eq_true (cl'.ghost)).symm with hb65 | hb65
  ·refine j0a c2a rfl (fun w1 hw => by exact (hw.1.cell 0 rfl rfl).trans (congrArg (fun b => some (Value.bool b)) hb65)) rfl ?_
   refine qB0 rfl ⟨⟩ (fun h67 => ?_) fun h67 => ?_
   ·refine qD rfl ⟨⟩ ?_
    rintro wR9 ⟨SR9, XR9⟩
    refine lR0 rfl ⟨⟩ (o0a rfl (by conv => lhs; whnf) ?_)
    exfalso; rw [hb65] at q4; simp at q4; omega
   obtain ⟨y, b74, p74, c74, hxy, hA74, hM74, hl74, hc74, hr74⟩ := RdS.get (hVa) (k) (by omega)
   obtain ⟨rfl, i174⟩ := id hr74
   have q6 := ho.vals (x, y) (w6b hxx hxy)
   simp only at q6
   rw [U8a q2.1 hxcl', J6a] at q6
   refine qB (S8_6.q.a hc74) [.o 1,.x b74 p74,.f 0 0] rfl ⟨rfl,⟨hA74,by omega⟩,rfl,⟨⟩⟩ (fun h76 => by exfalso; omega) fun h76 => ?_
   refine qO S8_6.q [.o 1] rfl ⟨rfl,⟨⟩⟩ (p0a W0a.slT rfl (by assumption) rfl (by omega) (by omega) rfl ?_)
   refine qO0 rfl ⟨⟩ (j0a E0a rfl (fun w1 hw => by exact hw.1.old (hc74 0 _ rfl)) rfl ?_)
   refine qO S8_6.q [.o 0] rfl ⟨rfl,⟨⟩⟩ ?_
   rw [show cl'.w = ((cl'.w.toNat : Nat) : Int) by omega]
   refine D3c (n := cl'.w.toNat) rfl (by rfl) (by omega) rfl ?_
   refine qB0 rfl ⟨⟩ (fun h87 => by exfalso; omega) fun h87 => ?_
   refine qD rfl ⟨⟩ ?_
   rintro wR9 ⟨SR9, XR9⟩
   refine lP0 rfl ⟨by omega,⟨⟩⟩ ⟨μk - 1, by omega, rfl, (k + 1), (by omega), SR9.tail, rfl⟩
  refine j0a c2a rfl (fun w1 hw => by exact (hw.1.cell 0 rfl rfl).trans (congrArg (fun b => some (Value.bool b)) hb65)) rfl ?_
  refine qB0 rfl ⟨⟩ (fun h67 => ?_) fun h67 => ?_
  ·obtain ⟨y, b74, p74, c74, hxy, hA74, hM74, hl74, hc74, hr74⟩ := RdS.get (hVa) (k) (by omega)
   obtain ⟨rfl, i174⟩ := id hr74
   have q6 := ho.vals (x, y) (w6b hxx hxy)
   simp only at q6
   rw [U8a q2.1 hxcl', J6a] at q6
   refine qB (S8_6.q.a hc74) [.o 1,.x b74 p74,.f 0 0] rfl ⟨rfl,⟨hA74,by omega⟩,rfl,⟨⟩⟩ (fun h76 => by exfalso; omega) fun h76 => ?_
   refine qO S8_6.q [.o 1] rfl ⟨rfl,⟨⟩⟩ (p0a W0a.slT rfl (by assumption) rfl (by omega) (by omega) rfl ?_)
   refine qO0 rfl ⟨⟩ (j0a E0a rfl (fun w1 hw => by exact hw.1.old (hc74 0 _ rfl)) rfl ?_)
   refine qO S8_6.q [.o 0] rfl ⟨rfl,⟨⟩⟩ ?_
   rw [show cl'.w = ((cl'.w.toNat : Nat) : Int) by omega]
   refine D3c (n := cl'.w.toNat) rfl (by rfl) (by omega) rfl ?_
   refine qB0 rfl ⟨⟩ (fun h87 => by exfalso; omega) fun h87 => ?_
   refine qD rfl ⟨⟩ ?_
   rintro wR9 ⟨SR9, XR9⟩
   refine lP0 rfl ⟨by omega,⟨⟩⟩ ⟨μk - 1, by omega, rfl, (k + 1), (by omega), SR9.tail, rfl⟩
  refine qD rfl ⟨⟩ ?_
  rintro wR9 ⟨SR9, XR9⟩
  refine lR0 rfl ⟨⟩ (o0a rfl (by conv => lhs; whnf) ?_)
  exfalso; rw [hb65] at q4; simp at q4; omega
 exact lT rfl ⟨⟩ rfl ⟨rfl, S.fin⟩
theorem S0b (p : e0a) (c : B0a) (M : List Nat) (w0 : World) (cs xs : List Value) (hI : InP p M w0 cs) (hX : K0a M w0 c xs) (hf : b6a p c) :
 J0a Tryz.prog 173 #[.agg cs.toArray, .agg xs.toArray] w0 fun v w' => v = .bool true ∧ Below w0.heap.size w0 w' := by
 obtain ⟨Ac, nc, cc, Am, nm, cm, Al, nl, cl, At, nt, ct, rfl, hC, _, _, hTh, _, _, _, _, _, _, _, _⟩ := hI.rd.open_
 obtain ⟨Xm, xm, ym, Xa, xa, ya, Xb, xb, yb, rfl, hMem, hAt, hBuf, _, _, hxb, _, _, _⟩ := hX.open_
 have S := St.refl w0
 have f1 := hf.mem.len
 have f2 := hf.nat
 have f3 := hf.nbuf
 refine a0a Tryz.func173 rfl Tryz.ntmps173 rfl ?_
 refine wO0 rfl ⟨⟩ (m0a S (by conv => lhs; whnf) rfl ?_)
 intro g2 w2 S2 X2 G2
 refine m0a S2 (by conv => lhs; whnf) rfl ?_
 intro g3 w3 S3 X3 G3
 refine lB S3.k [.o 0,.o 1] rfl ⟨rfl,rfl,⟨⟩⟩ (fun h18 => by exfalso; omega) fun h18 => ?_
 refine lB S3.k [.o 0,.o 1] rfl ⟨rfl,rfl,⟨⟩⟩ (fun h26 => by exfalso; omega) fun h26 => ?_
 refine lB S3.k [.o 0,.o 1] rfl ⟨rfl,rfl,⟨⟩⟩ (fun h35 => by exfalso; omega) fun h35 => ?_
 refine lC S3.k [.o 0] rfl ⟨rfl,⟨⟩⟩ (wL (fun μk D ε w => D = [] ∧ ∃ k : Nat, (k + μk = (c.mem.length)) ∧ St [] w0 w [(some g3, 52, [.slice Xm xm ym, .slice Xa xa ya, .slice Xb xb yb]), (some g2, 27, [.slice Ac nc cc, .slice Am nm cm, .slice Al nl cl, .slice At nt ct])] ∧ Sl ε [(2, .pointer (some ⟨g2, 0, none⟩)), (3, .pointer (some ⟨g3, 0, none⟩)), (38, .slice Xm xm ym), (39, .int .i64 xm), (40, .int .i64 k)]) (μ := (c.mem.length)) ⟨rfl, 0, by omega, S3, rfl⟩ ?_)
 rintro μk D ε w ⟨rfl, k, hk, S, eZ⟩
 refine wK eZ (wB0 rfl ⟨⟩ (fun h41 => ?_) fun h41 => ?_)
 ·obtain ⟨v, b43, p43, _, hxv, hA43, _, _, hc43, hr43⟩ := RdS.get (hMem) (k) (by omega)
  obtain ⟨rfl, _⟩ := id hr43
  have q1 := hf.mem.vals k v hxv
  refine lB (S.k.a hc43) [.x b43 p43,.f 0 0] rfl ⟨rfl,⟨hA43,by omega⟩,⟨⟩⟩ (fun h46 => by exfalso; omega) fun h46 => ?_
  obtain ⟨x, b52, p52, _, hxx, hA52, _, _, hc52, hr52⟩ := RdS.get (hC) (k) (by omega)
  obtain ⟨rfl, _, _, _, _⟩ := J2a.open_ hr52
  have q2 := (hI.ok.cells x (h0a hxx)).w
  rw [x0d hxx, J6a] at q1
  refine lO (S.k.a hc52) [.o 1,.x b52 p52,.f 0 1] rfl ⟨rfl,⟨hA52,by omega⟩,rfl,⟨⟩⟩ ?_
  rw [show x.w = ((x.w.toNat : Nat) : Int) by omega]
  refine w3c (n := x.w.toNat) rfl (by rfl) (by omega) rfl ?_
  refine lB0 rfl ⟨⟩ (fun h56 => by exfalso; omega) fun h56 => ?_
  refine lP0 rfl ⟨by omega,⟨⟩⟩ ⟨μk - 1, by omega, rfl, (k + 1), (by omega), S, rfl⟩
 refine lC S.k [.o 0] rfl ⟨rfl,⟨⟩⟩ (wL (fun μk D ε w => D = [] ∧ ∃ k : Nat, (k + μk = (c.at_.length)) ∧ St [] w0 w [(some g3, 52, [.slice Xm xm ym, .slice Xa xa ya, .slice Xb xb yb]), (some g2, 27, [.slice Ac nc cc, .slice Am nm cm, .slice Al nl cl, .slice At nt ct])] ∧ Sl ε [(2, .pointer (some ⟨g2, 0, none⟩)), (3, .pointer (some ⟨g3, 0, none⟩)), (60, .slice Xa xa ya), (61, .int .i64 xa), (62, .int .i64 k)]) (μ := (c.at_.length)) ⟨rfl, 0, by omega, S, rfl⟩ ?_)
 rintro μk D ε w ⟨rfl, k, hk, S, eZ⟩
 refine wK eZ (wB0 rfl ⟨⟩ (fun h63 => ?_) fun h63 => ?_)
 ·obtain ⟨v, b65, p65, _, hxv, hA65, _, _, hc65, hr65⟩ := RdS.get (hAt) (k) (by omega)
  obtain ⟨rfl, _⟩ := id hr65
  obtain ⟨th, b70, p70, _, hxth, hA70, _, hl70, hc70, hr70⟩ := RdS.get (hTh) (k) (by omega)
  obtain ⟨Aa70, na70, ca70, Am70, nm70, cm70, As70, ns70, cs70, Al70, nl70, cl70, rfl, _, _, _, _, _, _, _, _, _, _, _, _, _⟩ := T0a.open_ hr70
  have q1 := hf.atr k v hxv th hxth
  refine lO ((S.k.a hc70).a hc65) [.x b65 p65,.f 0 0,.o 1,.x b70 p70,.v 1] rfl ⟨⟨rfl,hl70⟩,⟨hA70,by omega⟩,rfl,rfl,⟨hA65,by omega⟩,⟨⟩⟩ (g0a S D2b rfl rfl ?_)
  intro g9 w9 S9 X9 G9
  refine d0a (kk := 0) (vs := [_, _, _, _, _, _, _]) S9 y1b rfl rfl rfl rfl rfl rfl rfl ?_
  intro w12_6 S12_6 X12_6
  dsimp only [n0a, List.set] at S12_6
  refine lB0 rfl ⟨⟩ (fun h73 => by exfalso; omega) fun h73 => ?_
  refine lB S12_6.k [.o 0] rfl ⟨rfl,⟨⟩⟩ (fun h78 => by exfalso; omega) fun h78 => ?_
  obtain ⟨b, b84, p84, _, hxb, hA84, _, _, hc84, hr84⟩ := RdS.get (hBuf) (k) (by omega)
  obtain ⟨_, _, _, rfl, _, _, _⟩ := f7a.open_ hr84
  have q3 := hf.bufs k b hxb
  refine lB (S12_6.k.a hc84) [.o 1,.x b84 p84,.f 0 0] rfl ⟨rfl,⟨hA84,by omega⟩,rfl,⟨⟩⟩ (fun h87 => by exfalso; omega) fun h87 => ?_
  refine lB0 rfl ⟨⟩ (fun h90 => ?_) fun h90 => ?_
  ·refine lO0 rfl ⟨⟩ ?_
   cases hb93 : th.asleep
   ·refine s0a c2a rfl (by exact (S12_6.cell 0 rfl rfl).trans (congrArg (fun b => some (Value.bool b)) hb93)) rfl ?_
    rw [q1.2.2 (by omega)] at hb93
    refine lR0 rfl ⟨⟩ (o0a rfl (by conv => lhs; whnf) ?_)
    cases hb93
   refine s0a c2a rfl (by exact (S12_6.cell 0 rfl rfl).trans (congrArg (fun b => some (Value.bool b)) hb93)) rfl ?_
   rw [q1.2.2 (by omega)] at hb93
   have q4 := q3.2.2 (by rw [hxv]; exact congrArg some (by omega))
   have q4 : b.length = 0 := by rw [q4]; rfl
   obtain ⟨_, b99, p99, _, hx99, hA99, _, _, hc99, hr99⟩ := RdS.get (hBuf) (k) (by omega)
   obtain rfl := Option.some.inj (hxb.symm.trans hx99)
   obtain ⟨_, _, _, rfl, _, _, _⟩ := f7a.open_ hr99
   refine lB (S12_6.k.a hc99) [.o 1,.x b99 p99,.f 0 0] rfl ⟨rfl,⟨hA99,by omega⟩,rfl,⟨⟩⟩ (fun h102 => by exfalso; omega) fun h102 => ?_
   obtain ⟨x108, b108, p108, c108, hx108, hA108, hM108, hl108, hc108, hr108⟩ := RdS.get (hBuf) (k) (by omega)
   obtain rfl := Option.some.inj (hxb.symm.trans hx108)
   obtain ⟨Ab108, nb108, cb108, rfl, hBu108, hnb108, bb108⟩ := f7a.open_ hr108
   refine lC (S12_6.k.a hc108) [.o 1,.x b108 p108,.f 0 0] rfl ⟨rfl,⟨hA108,by omega⟩,rfl,⟨⟩⟩ (wL (fun μj D ε w => D = [] ∧ ∃ j : Nat, (j + μj = (b.length)) ∧ St [] w0 w [(some g9, 60, [.string th.name, .int .i64 th.points, .slice Aa70 na70 ca70, .slice Am70 nm70 cm70, .slice As70 ns70 cs70, .slice Al70 nl70 cl70, .bool th.asleep]), (some g3, 52, [.slice Xm xm ym, .slice Xa xa ya, .slice Xb xb yb]), (some g2, 27, [.slice Ac nc cc, .slice Am nm cm, .slice Al nl cl, .slice At nt ct])] ∧ Sl ε [(2, .pointer (some ⟨g2, 0, none⟩)), (3, .pointer (some ⟨g3, 0, none⟩)), (60, .slice Xa xa ya), (61, .int .i64 xa), (62, .int .i64 k), (109, .slice Ab108 nb108 cb108), (110, .int .i64 nb108), (111, .int .i64 j)]) (μ := (b.length)) ⟨rfl, 0, by omega, S12_6, rfl⟩ ?_)
   rintro μj D ε w ⟨rfl, j, hj, S, eZ⟩
   refine wK eZ (wB0 rfl ⟨⟩ (fun h112 => ?_) fun h112 => ?_)
   ·obtain ⟨en, b113, p113, c113, hxen, hA113, hM113, hl113, hc113, hr113⟩ := RdS.get (hBu108) (j) (by omega)
    obtain ⟨Ac113, nc113, cc113, Av113, nv113, cv113, rfl, hCe113, hVa113, hnc113, hnv113, bc113, bv113⟩ := a1a.open_ hr113
    have q5 := q3.2.1 en (h0a hxen)
    refine lO (S.k.a hc113) [.x b113 p113,.v 0] rfl ⟨⟨rfl,hl113⟩,⟨hA113,by omega⟩,⟨⟩⟩ (g0a S n8a rfl rfl ?_)
    intro g11 w11 S11 X11 G11
    refine d0a (kk := 0) (vs := [_, _]) S11 I9a rfl rfl rfl rfl rfl rfl rfl ?_
    intro w19_3 S19_3 X19_3
    dsimp only [n0a, List.set] at S19_3
    refine lO S19_3.k [.w 3,.w 0] rfl ⟨⟨rfl,by rfl⟩,⟨rfl,rfl⟩,⟨⟩⟩ (f0a S19_3 n0c rfl rfl (p3b p en M _ _ _ (hI.keep (S19_3.keep0 M)) (a1a.keep (S19_3.keep0 M) _ _ hr113) q5) ?_)
    intro w117 S117 X117
    refine lP0 rfl ⟨by omega,⟨⟩⟩ ⟨μj - 1, by omega, rfl, (j + 1), (by omega), S117.tail, rfl⟩
   refine lP0 rfl ⟨by omega,⟨⟩⟩ ⟨μk - 1, by omega, rfl, (k + 1), (by omega), S.tail, rfl⟩
  obtain ⟨x108, b108, p108, c108, hx108, hA108, hM108, hl108, hc108, hr108⟩ := RdS.get (hBuf) (k) (by omega)
  obtain rfl := Option.some.inj (hxb.symm.trans hx108)
  obtain ⟨Ab108, nb108, cb108, rfl, hBu108, hnb108, bb108⟩ := f7a.open_ hr108
  refine lC (S12_6.k.a hc108) [.o 1,.x b108 p108,.f 0 0] rfl ⟨rfl,⟨hA108,by omega⟩,rfl,⟨⟩⟩ (wL (fun μj D ε w => D = [] ∧ ∃ j : Nat, (j + μj = (b.length)) ∧ St [] w0 w [(some g9, 60, [.string th.name, .int .i64 th.points, .slice Aa70 na70 ca70, .slice Am70 nm70 cm70, .slice As70 ns70 cs70, .slice Al70 nl70 cl70, .bool th.asleep]), (some g3, 52, [.slice Xm xm ym, .slice Xa xa ya, .slice Xb xb yb]), (some g2, 27, [.slice Ac nc cc, .slice Am nm cm, .slice Al nl cl, .slice At nt ct])] ∧ Sl ε [(2, .pointer (some ⟨g2, 0, none⟩)), (3, .pointer (some ⟨g3, 0, none⟩)), (60, .slice Xa xa ya), (61, .int .i64 xa), (62, .int .i64 k), (109, .slice Ab108 nb108 cb108), (110, .int .i64 nb108), (111, .int .i64 j)]) (μ := (b.length)) ⟨rfl, 0, by omega, S12_6, rfl⟩ ?_)
  rintro μj D ε w ⟨rfl, j, hj, S, eZ⟩
  refine wK eZ (wB0 rfl ⟨⟩ (fun h112 => ?_) fun h112 => ?_)
  ·obtain ⟨en, b113, p113, c113, hxen, hA113, hM113, hl113, hc113, hr113⟩ := RdS.get (hBu108) (j) (by omega)
   obtain ⟨Ac113, nc113, cc113, Av113, nv113, cv113, rfl, hCe113, hVa113, hnc113, hnv113, bc113, bv113⟩ := a1a.open_ hr113
   have q5 := q3.2.1 en (h0a hxen)
   refine lO (S.k.a hc113) [.x b113 p113,.v 0] rfl ⟨⟨rfl,hl113⟩,⟨hA113,by omega⟩,⟨⟩⟩ (g0a S n8a rfl rfl ?_)
   intro g11 w11 S11 X11 G11
   refine d0a (kk := 0) (vs := [_, _]) S11 I9a rfl rfl rfl rfl rfl rfl rfl ?_
   intro w19_3 S19_3 X19_3
   dsimp only [n0a, List.set] at S19_3
   refine lO S19_3.k [.w 3,.w 0] rfl ⟨⟨rfl,by rfl⟩,⟨rfl,rfl⟩,⟨⟩⟩ (f0a S19_3 n0c rfl rfl (p3b p en M _ _ _ (hI.keep (S19_3.keep0 M)) (a1a.keep (S19_3.keep0 M) _ _ hr113) q5) ?_)
   intro w117 S117 X117
   refine lP0 rfl ⟨by omega,⟨⟩⟩ ⟨μj - 1, by omega, rfl, (j + 1), (by omega), S117.tail, rfl⟩
  refine lP0 rfl ⟨by omega,⟨⟩⟩ ⟨μk - 1, by omega, rfl, (k + 1), (by omega), S.tail, rfl⟩
 exact lT rfl ⟨⟩ rfl ⟨rfl, S.fin⟩
theorem R5c (p : e0a) (c : B0a) (m : Int) (hm : m = 1 ∨ m = 2) (M : List Nat) (w0 : World) (cs xs : List Value) (hI : InP p M w0 cs) (hX : K0a M w0 c xs) (hf : b6a p c) :
 J0a Tryz.prog 136 #[.agg cs.toArray, .int .i64 m, .agg xs.toArray] w0 fun v w' => v = .tuple #[.agg (xs ++ (cs ++ [Value.int .i64 m])).toArray, .bool true] ∧ Below w0.heap.size w0 w' := by
 obtain ⟨_, _, _, _, _, _, _, _, _, _, _, _, rfl, _, _, _, _, _, _, _, _, _, _, _, _⟩ := hI.rd.open_
 obtain ⟨_, _, _, _, _, _, _, _, _, rfl, _, _, _, _, _, _, _, _, _⟩ := hX.open_
 have S := St.refl w0
 refine a0a Tryz.func136 rfl Tryz.ntmps136 rfl ?_
 refine wO0 rfl ⟨⟩ (m0a S (by conv => lhs; whnf) rfl ?_)
 intro g3 w3 S3 X3 G3
 refine m0a S3 (by conv => lhs; whnf) rfl ?_
 intro g5 w5 S5 X5 G5
 refine g0a S5 Z2c rfl rfl ?_
 intro g6 w6 S6 X6 G6
 refine lB0 rfl ⟨⟩ (fun h9 => ?_) fun h9 => ?_
 ·refine lB0 rfl ⟨⟩ (fun h12 => by exfalso; omega) fun h12 => ?_
  refine lO S6.k [.w 2] rfl ⟨⟨rfl,by rfl⟩,⟨⟩⟩ (f0a S6 O0c rfl rfl (Y9a p M _ _ (hI.keep (S6.keep0 M))) ?_)
  intro w16 S16 X16
  refine lO S16.k [.w 2,.w 1] rfl ⟨⟨rfl,by rfl⟩,⟨rfl,by rfl⟩,⟨⟩⟩ (f0a S16 K8b rfl rfl (S0b p c M _ _ _ (hI.keep (S16.keep0 M)) (hX.keep (S16.keep0 M)) hf) ?_)
  intro w22 S22 X22
  refine lO S22.k [.w 1,.w 2] rfl ⟨⟨rfl,by rfl⟩,⟨rfl,by rfl⟩,⟨⟩⟩ (p1a f9b (vs := [(0, .agg _), (1, .agg _), (2, .int .i64 _)]) (cs := [_, _, _, _, _, _, _, _]) rfl rfl rfl rfl ?_)
  refine d0a (kk := 0) (vs := [_, _, _, _, _, _, _, _]) S22 F9b rfl rfl rfl rfl rfl rfl rfl ?_
  intro w3_4 S3_4 X3_4
  dsimp only [n0a, List.set] at S3_4
  exact lR0 rfl ⟨⟩ (m4a (n := 8) rfl H8a rfl (S3_4.cells 0 rfl) rfl rfl ⟨rfl, S3_4.fin⟩)
 refine lO S6.k [.w 2] rfl ⟨⟨rfl,by rfl⟩,⟨⟩⟩ (f0a S6 O0c rfl rfl (Y9a p M _ _ (hI.keep (S6.keep0 M))) ?_)
 intro w16 S16 X16
 refine lO S16.k [.w 2,.w 1] rfl ⟨⟨rfl,by rfl⟩,⟨rfl,by rfl⟩,⟨⟩⟩ (f0a S16 K8b rfl rfl (S0b p c M _ _ _ (hI.keep (S16.keep0 M)) (hX.keep (S16.keep0 M)) hf) ?_)
 intro w22 S22 X22
 refine lO S22.k [.w 1,.w 2] rfl ⟨⟨rfl,by rfl⟩,⟨rfl,by rfl⟩,⟨⟩⟩ (p1a f9b (vs := [(0, .agg _), (1, .agg _), (2, .int .i64 _)]) (cs := [_, _, _, _, _, _, _, _]) rfl rfl rfl rfl ?_)
 refine d0a (kk := 0) (vs := [_, _, _, _, _, _, _, _]) S22 F9b rfl rfl rfl rfl rfl rfl rfl ?_
 intro w3_4 S3_4 X3_4
 dsimp only [n0a, List.set] at S3_4
 exact lR0 rfl ⟨⟩ (m4a (n := 8) rfl H8a rfl (S3_4.cells 0 rfl) rfl rfl ⟨rfl, S3_4.fin⟩)
end Go.Proofs.YtjjmdcnmeommbaaGreatDoor
namespace Go.Fw
open Go.RowKit
section
variable {P : Program} {r : Option Nat} {N : Nat} {D : List Deferred} {e : Env} {w w0 : World} {ops : Array Oper} {rest : List Oper} {K : List Deferred → Env → World → Prop} {L : List Ent} {M : List Nat}
variable {d : Nat} {t : TypeId} {p : String} {af : Array Edge} {x y : Operand} {yt : TypeId}
theorem f6b {ty size n c : Nat} {A : Option Addr} (hT : SlT P ty size) (hx : ev e x = .slice A n c) (hy : ev e y = .slice none 0 0) (hd : Nat.ble (d + 1) N = true)
 (h1 : A = none → WL P r N ops rest K D (upd e d (.bool true)) w) (h2 : A.isSome = true → WL P r N ops rest K D (upd e d (.bool false)) w) :
 WL P r N ops (⟨some d, .binOp .eql ty x y yt, t, p, af, none⟩ :: rest) K D e w := by
 obtain ⟨el, hu, _⟩ := i4a hT
 have hr := Lib.run_eql_slice_nil (P := P) w ty el A n c 0 0 hu
 cases A with
 | none => exact X0a rfl rfl hd (by simp) (by simp [execOp, hx, hy, eqGuard, hr]) (h1 rfl)
 | some a => exact X0a rfl rfl hd (by simp) (by simp [execOp, hx, hy, eqGuard, hr]) (h2 rfl)
end
theorem z3a.pad {G : Option Nat} {n : Nat} {cs : List Value} {v : Value} {l : List Int} (h : z3a G 1 n cs v (l.map (Value.int .i64))) (h0 : 0 < l.length) : ∃ g pad, G = some g ∧ v = .slice (some ⟨g, 0, none⟩) l.length (l.length + pad.length) ∧ cs = l.map (Value.int .i64) ++ pad ∧ l.length + pad.length ≤ maxLen := by
 obtain ⟨h1, h2⟩ := h
 simp only [List.length_map, Nat.mul_one] at h1
 rcases h2 with ⟨_, _, h2⟩ | ⟨g, cap, rfl, rfl, h3, h4, h5, h6⟩
 ·omega
 ·simp only [Nat.mul_one] at h5 h6
  refine ⟨g, cs.drop n, rfl, ?_, ?_, ?_⟩
  ·rw [List.length_drop, h5, h1]; congr 1; omega
  ·rw [← h6, List.take_append_drop]
  ·rw [List.length_drop, h5, h1]; omega
theorem z3a.ofPad {g : Nat} {l : List Int} {pad : List Value} (h : l.length + pad.length ≤ maxLen) : z3a (some g) 1 l.length (l.map (Value.int .i64) ++ pad) (.slice (some ⟨g, 0, none⟩) l.length (l.length + pad.length)) (l.map (Value.int .i64)) :=
 ⟨by simp, .inr ⟨g, _, rfl, rfl, by omega, h, by simp, by simp⟩⟩
def R4a (mem : List Int) (e : G0a) (k : Nat) : List Int := ((e.cells.zip e.values).take k).foldl (fun m x => m.set x.1.toNat x.2) mem
theorem Z2b (mem : List Int) (e : G0a) : R4a mem e 0 = mem := by simp [R4a]
theorem J5b (mem : List Int) (e : G0a) {k : Nat} (h : e.cells.length ≤ k) : R4a mem e k = I3a mem e := by
 unfold R4a I3a; rw [List.take_of_length_le (by rw [List.length_zip]; omega)]
theorem x3b {mem : List Int} {e : G0a} {k : Nat} {x y : Int} (hx : e.cells[k]? = some x) (hy : e.values[k]? = some y) : R4a mem e (k + 1) = (R4a mem e k).set x.toNat y := by
 unfold R4a
 rw [e1a (x := (x, y)) (by rw [List.getElem?_zip_eq_some]; exact ⟨hx, hy⟩), List.foldl_append]; rfl
theorem H6a : ∀ (l : List (Int × Int)) (mem : List Int), (l.foldl (fun m x => m.set x.1.toNat x.2) mem).length = mem.length
 | [], _ => rfl
 | x :: l, mem => by rw [List.foldl_cons, H6a l, List.length_set]
@[simp] theorem v4c (mem : List Int) (e : G0a) (k : Nat) : (R4a mem e k).length = mem.length := H6a _ _
@[simp] theorem t7b (mem : List Int) (e : G0a) : (I3a mem e).length = mem.length := H6a _ _
theorem V7a {l : List Int} {pad : List Value} {i : Nat} {y : Int} (hi : i < l.length) : (l.map (Value.int .i64) ++ pad).set i (.int .i64 y) = (l.set i y).map (Value.int .i64) ++ pad := by
 rw [List.set_append_left _ _ (by simpa using hi), List.map_set]
def i5a (c : B0a) (b : List G0a) (k : Nat) : List Int := (b.take k).foldl I3a c.mem
theorem Y4b {c : B0a} {b : List G0a} {k : Nat} {e : G0a} (h : b[k]? = some e) : i5a c b (k + 1) = I3a (i5a c b k) e := by
 unfold i5a; rw [e1a h, List.foldl_append]; rfl
theorem W0b {c : B0a} {t : Nat} {b : List G0a} (h : c.buf[t]? = some b) {k : Nat} (hk : b.length ≤ k) : i5a c b k = F1a c t := by
 unfold i5a F1a; rw [List.take_of_length_le hk, getD_some h]
theorem H3b : ∀ (l : List G0a) (m : List Int), (l.foldl I3a m).length = m.length
 | [], _ => rfl
 | x :: l, m => by rw [List.foldl_cons, H3b l, t7b]
@[simp] theorem q7c (c : B0a) (b : List G0a) (k : Nat) : (i5a c b k).length = c.mem.length := H3b _ _
theorem h8b {p : e0a} {c : B0a} (hf : b6a p c) {b : List G0a} (hb : ∀ e ∈ b, u0b p e) (k : Nat) : O4a p (i5a c b k) := by
 unfold i5a
 have key : ∀ (l : List G0a) (m : List Int), O4a p m → (∀ e ∈ l, u0b p e) → O4a p (l.foldl I3a m) := by
  intro l
  induction l with
  | nil => intro m h _; exact h
  | cons e l ih => intro m h hl; rw [List.foldl_cons]; exact ih _ (h.write (hl e (by simp))) fun x hx => hl x (by simp [hx])
 exact key _ _ hf.mem fun e he => hb e (List.mem_of_mem_take he)
end Go.Fw
namespace Go.Proofs.YtjjmdcnmeommbaaGreatDoor
open Go.Fw Go.RowKit
theorem m7a (M : List Nat) (w0 : World) (v : Value) (l : List Int) (hR : RdI M w0 v l) (hl : l.length ≤ 100000000) :
 J0a Tryz.prog 179 #[v] w0 fun v w' => o4b 3 w0 w' v l ∧ Below w0.heap.size w0 w' := by
 obtain ⟨_, n, _, rfl⟩ := hR.form
 obtain ⟨_, _, _⟩ := hR.len
 have S := St.refl w0
 refine a0a Tryz.func179 rfl Tryz.ntmps179 rfl ?_
 refine wOn 9 S.k [] rfl ⟨⟩ (f6b W0a.slT rfl rfl rfl (fun h4 => ?_) fun h4 => ?_)
 ·refine lR0 rfl ⟨⟩ (o0a rfl (by conv => lhs; whnf) ?_)
  subst h4; obtain ⟨A', n', c', he, h1, h2, h3, h5, h6⟩ := hR; cases he
  have h0 : l.length = 0 := by
   rcases Nat.eq_zero_or_pos n with h | h
   ·omega
   ·obtain ⟨_, _, h7, _⟩ := h6 h; cases h7
  obtain rfl := List.length_eq_zero_iff.1 h0
  exact ⟨⟨none, [], z3a.nil 1, fun g hg => by cases hg⟩, S.fin⟩
 refine lO0 rfl ⟨⟩ (n7a S W0a rfl ?_)
 intro g5 w5 S5 X5 G5
 refine lO0 rfl ⟨⟩ (G5a (k := 0) (xs := []) S5 W0a rfl z3a.new rfl rfl (hR.keep (S5.keep0 M)) (by simpa using hl) (by decide) rfl ?_)
 intro v7 G7 cs7 w7 S7 R7 X7
 refine y0a (by conv => lhs; whnf) rfl ?_
 refine lR0 rfl ⟨⟩ (o0a rfl (by conv => lhs; whnf) ?_)
 refine ⟨⟨G7, cs7, by simpa using R7, fun g hg => ?_⟩, S7.fin⟩; subst hg; exact ⟨by simpa using S7.new 0 rfl, S7.blk 0 rfl⟩
theorem T6b (en : G0a) (mem : List Int) (g cap : Nat) (pad : List Value) (M : List Nat) (w0 : World) (es : List Value) (hE : a1a M w0 es en) (hgM : g ∈ M) (hB : r0a w0 (g, 3, mem.map (Value.int .i64) ++ pad)) (hev : en.even) (hin : ∀ x ∈ en.cells, 0 ≤ x ∧ x < mem.length) :
 J0a Tryz.prog 177 #[.slice (some ⟨g, 0, none⟩) mem.length cap, .agg es.toArray] w0 fun _ w' => r0a w' (g, 3, (I3a mem en).map (Value.int .i64) ++ pad) ∧ F0a [g] w0 w' := by
 obtain ⟨Ec, ec, fc, Ev, ev', fv, rfl, hCe, hVa, _, _, _, _⟩ := hE.open_
 have S := St.borrow1 hB
 have hsub : ∀ x ∈ [g], x ∈ M := fun x hx => by rw [List.mem_singleton] at hx; subst hx; exact hgM
 have hev : en.values.length = en.cells.length := hev
 refine a0a Tryz.func177 rfl Tryz.ntmps177 rfl ?_
 refine wO0 rfl ⟨⟩ (m0a S (by conv => lhs; whnf) rfl ?_)
 intro g3 w3 S3 X3 G3
 refine lC S3.k [.o 0] rfl ⟨rfl,⟨⟩⟩ (wL (fun μk D ε w => D = [] ∧ ∃ k : Nat, (k + μk = (en.cells.length)) ∧ St [g] w0 w [(some g3, 121, [.slice Ec ec fc, .slice Ev ev' fv]), (some g, 3, (R4a mem en k).map (Value.int .i64) ++ pad)] ∧ Sl ε [(0, .slice (some ⟨g, 0, none⟩) mem.length cap), (3, .pointer (some ⟨g3, 0, none⟩)), (7, .slice Ec ec fc), (8, .int .i64 ec), (9, .int .i64 k)]) (μ := (en.cells.length)) ⟨rfl, 0, by omega, (S3.setEnt 1 rfl (by rw [Z2b])), rfl⟩ ?_)
 rintro μk D ε w ⟨rfl, k, _, S, eZ⟩
 refine wK eZ (wB0 rfl ⟨⟩ (fun h10 => ?_) fun h10 => ?_)
 ·obtain ⟨x, b12, p12, _, hxx, hA12, hM12, _, hc12, hr12⟩ := RdS.get (hCe) (k) (by omega)
  obtain ⟨rfl, _⟩ := id hr12
  have q1 := hin x (h0a hxx)
  obtain ⟨_, b19, p19, _, hxy, hA19, hM19, _, hc19, hr19⟩ := RdS.get (hVa) (k) (by omega)
  obtain ⟨rfl, _⟩ := id hr19
  refine lO ((S.k.b (hc19.keep (S.keepM.mono hsub) hM19)).b (hc12.keep (S.keepM.mono hsub) hM12)) [.x b12 p12,.f 0 0,.o 0,.x b19 p19,.f 1 0,.i] rfl ⟨by omega,rfl,⟨hA19,by omega⟩,rfl,rfl,⟨hA12,by omega⟩,⟨⟩⟩ ?_
  first | refine u0a (kk := 1) S D8a rfl (by conv => lhs; whnf) rfl rfl (by (simp; omega)) ?_
  intro w4_8 S4_8 X4_8
  refine lP0 rfl ⟨by omega,⟨⟩⟩ ?_
  refine ⟨μk - 1, by omega, rfl, (k + 1), (by omega), (S4_8.setEnt 1 rfl (by rw [x3b hxx hxy]; simp only [Nat.zero_add, Nat.mul_one]; exact V7a (by simp; omega))), rfl⟩
 refine lF0 rfl ⟨⟩ (C1a rfl ?_)
 have SF := S.setEnt 1 rfl (show _ = (I3a mem en).map (Value.int .i64) ++ pad by rw [J5b _ _ (by omega)])
 exact ⟨SF.blk 1 rfl, SF.below⟩
end Go.Proofs.YtjjmdcnmeommbaaGreatDoor
namespace Go.Fw
open Go.RowKit
theorem K2b {o e : G0a} : z3b o e = true ↔ ∃ c ∈ e.cells, c ∈ o.cells := by
 unfold z3b
 rw [List.any_eq_true]
 constructor
 ·rintro ⟨x, h1, h2⟩; exact ⟨x, by simpa using h2, h1⟩
 ·rintro ⟨x, h1, h2⟩; exact ⟨x, h2, by simpa using h1⟩
theorem r6c {o e : G0a} (h : ∀ c ∈ e.cells, c ∉ o.cells) : z3b o e = false := by
 cases hm : z3b o e with
 | false => rfl
 | true => obtain ⟨c, h1, h2⟩ := K2b.1 hm; exact absurd h2 (h c h1)
section
variable {p : e0a} {m : Int} {c : B0a} {t : Nat} {s : k1a} {a : Int} {b : List G0a} {nb : Nat}
theorem f7c (hx : c.at_[t]? = some a) (h1 : ¬ a = s.frm) : P0a p m c t s = false := by unfold P0a; rw [getD_some hx]; simp [h1]
theorem s1c (h2 : ¬ s.guard.evl (F1a c t) (F1a c t) = 1) : P0a p m c t s = false := by unfold P0a; simp [h2]
theorem s0d (hm : ¬ m = 0) (hx : c.at_[t]? = some a) (h1 : a = s.frm) (h2 : s.guard.evl (F1a c t) (F1a c t) = 1) (hb : c.buf[t]? = some b) (hn : nb = b.length) (hk : s.kind = 3) (hr : s.release = false) : P0a p m c t s = decide ((nb : Int) < 3) := by
 unfold P0a; rw [getD_some hx, getD_some hb]; subst hn; simp [h1, h2, hk, hr, hm]; omega
theorem o9c (hm : ¬ m = 0) (hx : c.at_[t]? = some a) (h1 : a = s.frm) (h2 : s.guard.evl (F1a c t) (F1a c t) = 1) (hb : c.buf[t]? = some b) (hn : nb = b.length) (hk : s.kind = 3) (hr : s.release = true) : P0a p m c t s = decide ((nb : Int) = 0) := by
 unfold P0a; rw [getD_some hx, getD_some hb]; subst hn
 cases b <;> simp [h1, h2, hk, hr, hm]
 omega
theorem Y1c (hx : c.at_[t]? = some a) (h1 : a = s.frm) (h2 : s.guard.evl (F1a c t) (F1a c t) = 1) (hb : c.buf[t]? = some b) (hn : nb = b.length) (hk : s.kind = 4 ∨ s.kind = 5) : P0a p m c t s = decide ((nb : Int) = 0) := by
 unfold P0a; rw [getD_some hx, getD_some hb]; subst hn
 rw [if_neg (by omega), if_neg (by omega), if_neg (by omega), if_neg (by omega)]
 cases b <;> simp [h1, h2]
 omega
theorem w0d (hx : c.at_[t]? = some a) (h1 : a = s.frm) (h2 : s.guard.evl (F1a c t) (F1a c t) = 1) (hb : c.buf[t]? = some b) (hn : nb = b.length) (hk : s.kind = 6) {a2 : Int} (hx2 : c.at_[s.target.toNat]? = some a2) : P0a p m c t s = (decide ((nb : Int) = 0) && decide (a2 = -1)) := by
 unfold P0a; rw [getD_some hx, getD_some hb, getD_some hx2]; subst hn
 cases b <;> simp [h1, h2, hk]
 omega
theorem J7c (hb : c.buf[t]? = some b) (hn : nb = b.length) (hk : s.kind = 6 ∨ s.kind = 7) (h0 : ¬ (nb : Int) = 0) : P0a p m c t s = false := by
 unfold P0a; rw [getD_some hb]; subst hn
 cases b with
 | nil => simp at h0
 | cons e b => rcases hk with hk | hk <;> simp [hk]
theorem y0d (hx : c.at_[t]? = some a) (h1 : a = s.frm) (h2 : s.guard.evl (F1a c t) (F1a c t) = 1) (hb : c.buf[t]? = some b) (hn : nb = b.length) (hk : s.kind = 7) {a2 : Int} (hx2 : c.at_[s.target.toNat]? = some a2) {u : S0a} (hu : p.threads[s.target.toNat]? = some u) {b2 : List G0a} {nb2 : Nat} (hb2 : c.buf[s.target.toNat]? = some b2) (hn2 : nb2 = b2.length) : P0a p m c t s = (decide ((nb : Int) = 0) && (decide (a2 = u.points - 1) && decide ((nb2 : Int) = 0))) := by
 unfold P0a; rw [getD_some hx, getD_some hb, getD_some hx2, getD_some hu, getD_some hb2]; subst hn; subst hn2
 cases b with
 | nil => cases b2 with
   | nil => simp [h1, h2, hk]
   | cons e b2 => simp [h1, h2, hk]; omega
 | cons e b => simp [h1, h2, hk]; omega
theorem o0d (hk : s.kind = 7) {a2 : Int} (hx2 : c.at_[s.target.toNat]? = some a2) {u : S0a} (hu : p.threads[s.target.toNat]? = some u) (h0 : ¬ a2 = u.points - 1) : P0a p m c t s = false := by
 unfold P0a; rw [getD_some hx2, getD_some hu]; simp [hk, h0]
theorem h0d (hx : c.at_[t]? = some a) (h1 : a = s.frm) (h2 : s.guard.evl (F1a c t) (F1a c t) = 1) (hk : s.kind = 1 ∨ s.kind = 2) : P0a p m c t s = true := by
 unfold P0a; rw [getD_some hx]
 rw [if_neg (by omega), if_neg (by omega), if_neg (by omega), if_pos hk]
 simp [h1, h2]
end
theorem u0b.i64s {p : e0a} {e : G0a} (h : u0b p e) : ∀ x ∈ e.cells, 0 ≤ x ∧ x < p.cells.length := fun x hx => by
 obtain ⟨i, hi, rfl⟩ := List.getElem_of_mem hx
 exact (h.cells i _ (List.getElem?_eq_getElem hi)).1
end Go.Fw
namespace Go.Proofs.YtjjmdcnmeommbaaGreatDoor
open Go.Fw Go.RowKit
theorem c5c (p : e0a) (hp : g1a p) (c : B0a) (t : Nat) (b : List G0a) (M : List Nat) (w0 : World) (hM : ∀ g ∈ M, g < w0.heap.size) (xs : List Value) (hX : K0a M w0 c xs) (hf : b6a p c) (hxb : c.buf[t]? = some b) :
 J0a Tryz.prog 139 #[.agg xs.toArray, .int .i64 t] w0 fun v w' => RdI M w' v (F1a c t) ∧ Below w0.heap.size w0 w' := by
 obtain ⟨Xm, xm, ym, Xa, xa, ya, Xb, xb, yb, rfl, hMem, _, hBuf, _, _, _, _, _, _⟩ := hX.open_
 have S := St.refl w0
 have f1 := hf.mem.len
 have n1 := hp.ncells
 have n2 := hp.nthreads
 have f3 := hf.nbuf
 have ht := z1a hxb
 have hbo := (hf.bufs t b hxb).2.1
 refine a0a Tryz.func139 rfl Tryz.ntmps139 rfl ?_
 refine wO0 rfl ⟨⟩ (m0a S (by conv => lhs; whnf) rfl ?_)
 intro g2 w2 S2 X2 G2
 refine lO S2.k [.o 0] rfl ⟨rfl,⟨⟩⟩ (C0a S2 W9a rfl rfl (m7a M _ _ c.mem (hMem.keep (S2.keep0 M)) (by omega)) ?_)
 rintro v10 w10 hN S10 X10
 obtain ⟨G10, cs10, R10, S10b⟩ := hN.open_ S10 S2
 refine y0a (by conv => lhs; whnf) rfl ?_
 obtain ⟨_, b14, p14, _, hx14, hA14, _, _, hc14, hr14⟩ := RdS.get (hBuf) (t) (by omega)
 obtain rfl := Option.some.inj (hxb.symm.trans hx14)
 obtain ⟨Ab14, nb14, cb14, rfl, hBu14, _, _⟩ := f7a.open_ hr14
 refine lC (S10b.k.a hc14) [.o 1,.x b14 p14,.f 0 0] rfl ⟨rfl,⟨hA14,by omega⟩,rfl,⟨⟩⟩ (wL (fun μk D ε w => D = [] ∧ ∃ k : Nat, ∃ G : Option Nat, ∃ cs' : List Value, (k + μk = (b.length)) ∧ (z3a G 1 c.mem.length cs' v10 ((i5a c b k).map (Value.int .i64))) ∧ St [] w0 w [(G, 3, cs'), (some g2, 52, [.slice Xm xm ym, .slice Xa xa ya, .slice Xb xb yb])] ∧ Sl ε [(5, v10), (15, .slice Ab14 nb14 cb14), (16, .int .i64 nb14), (17, .int .i64 k)]) (μ := (b.length)) ⟨rfl, 0, G10, cs10, by omega, by simpa [i5a] using R10, S10b, rfl⟩ ?_)
 rintro μk D ε w ⟨rfl, k, G, cs', _, hrow, S, eZ⟩
 refine wK eZ (wB0 rfl ⟨⟩ (fun h18 => ?_) fun h18 => ?_)
 ·obtain ⟨en, b19, p19, _, hxen, hA19, _, hl19, hc19, hr19⟩ := RdS.get (hBu14) (k) (by omega)
  obtain ⟨_, _, _, _, _, _, rfl, _, _, _, _, _, _⟩ := a1a.open_ hr19
  have q1 := hbo en (h0a hxen)
  have q2 := q1.i64s
  have q3 : 0 < c.mem.length := by
   have := q1.some_
   cases hcl : en.cells with
   | nil => exact absurd hcl this
   | cons x l => have := q2 x (by rw [hcl]; simp); omega
  refine lO (S.k.a hc19) [.x b19 p19,.v 0] rfl ⟨⟨rfl,hl19⟩,⟨hA19,by omega⟩,⟨⟩⟩ (g0a S n8a rfl rfl ?_)
  intro g7 w7 S7 X7 G7
  refine d0a (kk := 0) (vs := [_, _]) S7 I9a rfl rfl rfl rfl rfl rfl rfl ?_
  intro w4_3 S4_3 X4_3
  dsimp only [n0a, List.set] at S4_3
  refine lOn 3 S4_3.k [] rfl ⟨⟩ (Q0a (by conv => lhs; whnf) rfl ?_)
  refine lO S4_3.k [.w 0] rfl ⟨⟨rfl,by rfl⟩,⟨⟩⟩ ?_
  obtain ⟨g, pad, rfl, hv, rfl, hmx⟩ := hrow.pad (by simpa using q3)
  subst hv
  refine i3a F8b rfl rfl (T6b en (i5a c b k) g _ pad (g :: M) _ _ (a1a.keep (S4_3.keep0 _) _ _ (a1a.more (p1b S4_3 (k := 1) rfl) _ _ hr19)) (by simp) (S4_3.blk 1 rfl) q1.even (fun x hx => by have := q2 x hx; simp; omega)) ?_
  rintro v23 w23 ⟨hb23, B23⟩
  have S23 := S4_3.changed1 1 rfl B23 hb23
  refine lP0 rfl ⟨by omega,⟨⟩⟩ ?_
  refine ⟨μk - 1, by omega, rfl, (k + 1), (some g), (_), (by omega), (by rw [Y4b hxen]; have := z3a.ofPad (g := g) (l := I3a (i5a c b k) en) (pad := pad) (by simpa using hmx); simpa using this), S23.tail, rfl⟩
 refine lOn 8 S.k [] rfl ⟨⟩ (Q0a (by conv => lhs; whnf) rfl ?_)
 refine y0a (by conv => lhs; whnf) rfl ?_
 refine lR0 rfl ⟨⟩ (o0a rfl (by conv => lhs; whnf) ?_)
 obtain rfl : k = b.length := by omega
 rw [W0b hxb (Nat.le_refl _)] at hrow
 have hok := h8b hf hbo b.length
 rw [W0b hxb (Nat.le_refl _)] at hok
 exact ⟨hrow.rdI S (k := 0) rfl hM (d5a hp hok) (by have := hok.len; omega), S.fin⟩
theorem e7b (old : List G0a) (en : G0a) (M : List Nat) (w0 : World) (v : Value) (es : List Value) (hO : m7c M w0 v old) (hE : a1a M w0 es en) :
 J0a Tryz.prog 175 #[v, .agg es.toArray] w0 fun v w' => v = .bool (old.any fun o => z3b o en) ∧ Below w0.heap.size w0 w' := by
 obtain ⟨A, n, cc, rfl⟩ := hO.form
 obtain ⟨_, _, _⟩ := hO.len
 obtain ⟨Ec, ec, fc, Ev, ev', fv, rfl, hCe, _, _, _, _, _⟩ := hE.open_
 have S := St.refl w0
 refine a0a Tryz.func175 rfl Tryz.ntmps175 rfl ?_
 refine wO0 rfl ⟨⟩ (m0a S (by conv => lhs; whnf) rfl ?_)
 intro g3 w3 S3 X3 G3
 refine lC0 rfl ⟨⟩ (wL (fun μk D ε w => D = [] ∧ ∃ k : Nat, (k + μk = (old.length)) ∧ (n1a (old) k (fun o => z3b o en = false)) ∧ St [] w0 w [(some g3, 121, [.slice Ec ec fc, .slice Ev ev' fv])] ∧ Sl ε [(3, .pointer (some ⟨g3, 0, none⟩)), (9, .slice A n cc), (10, .int .i64 n), (11, .int .i64 k)]) (μ := (old.length)) ⟨rfl, 0, by omega, n1a.zero, S3, rfl⟩ ?_)
 rintro μk D ε w ⟨rfl, k, _, ha, S, eZ⟩
 refine wK eZ (wB0 rfl ⟨⟩ (fun h12 => ?_) fun h12 => ?_)
 ·obtain ⟨o, b13, p13, _, hxo, hA13, _, hl13, hc13, hr13⟩ := RdS.get (hO) (k) (by omega)
  obtain ⟨Ac13, nc13, cc13, Av13, nv13, cv13, rfl, hCe13, _, _, _, _, _⟩ := a1a.open_ hr13
  refine lO (S.k.a hc13) [.x b13 p13,.v 0] rfl ⟨⟨rfl,hl13⟩,⟨hA13,by omega⟩,⟨⟩⟩ (g0a S n8a rfl rfl ?_)
  intro g6 w6 S6 X6 G6
  refine d0a (kk := 0) (vs := [_, _]) S6 I9a rfl rfl rfl rfl rfl rfl rfl ?_
  intro w3_3 S3_3 X3_3
  dsimp only [n0a, List.set] at S3_3
  refine lC S3_3.k [.o 1] rfl ⟨rfl,⟨⟩⟩ (wL (fun μj D ε w => D = [] ∧ ∃ j : Nat, (j + μj = (en.cells.length)) ∧ (n1a (en.cells) j (fun x => x ∉ o.cells)) ∧ St [] w0 w [(some g6, 121, [.slice Ac13 nc13 cc13, .slice Av13 nv13 cv13]), (some g3, 121, [.slice Ec ec fc, .slice Ev ev' fv])] ∧ Sl ε [(3, .pointer (some ⟨g3, 0, none⟩)), (6, .pointer (some ⟨g6, 0, none⟩)), (9, .slice A n cc), (10, .int .i64 n), (11, .int .i64 k), (16, .slice Ec ec fc), (17, .int .i64 ec), (18, .int .i64 j)]) (μ := (en.cells.length)) ⟨rfl, 0, by omega, n1a.zero, S3_3, rfl⟩ ?_)
  rintro μj D ε w ⟨rfl, j, _, hj2, S, eZ⟩
  refine wK eZ (wB0 rfl ⟨⟩ (fun h19 => ?_) fun h19 => ?_)
  ·obtain ⟨x, b20, p20, _, hxx, hA20, _, _, hc20, hr20⟩ := RdS.get (hCe) (j) (by omega)
   obtain ⟨rfl, _⟩ := id hr20
   refine lO (S.k.a hc20) [.x b20 p20,.f 0 0,.o 0] rfl ⟨rfl,rfl,⟨hA20,by omega⟩,⟨⟩⟩ (v0a S I5b rfl rfl (M5a M _ _ o.cells x (hCe13.keep (S.keep0 M))) (fun h25 w25 S25 X25 => ?_) (fun h25 w25 S25 X25 => ?_))
   ·exact lT rfl ⟨⟩ rfl ⟨congrArg Value.bool (Eq.symm (List.any_eq_true.2 ⟨o, h0a hxo, K2b.2 ⟨x, h0a hxx, of_decide_eq_true h25⟩⟩)), S25.fin⟩
   refine lP0 rfl ⟨by omega,⟨⟩⟩ ⟨μj - 1, by omega, rfl, (j + 1), (by omega), (hj2.succ hxx (of_decide_eq_false h25)), S25, rfl⟩
  refine lP0 rfl ⟨by omega,⟨⟩⟩ ⟨μk - 1, by omega, rfl, (k + 1), (by omega), (ha.succ hxo (r6c (hj2.all (by omega)))), S.tail, rfl⟩
 refine lT rfl ⟨⟩ rfl ?_
 refine ⟨congrArg Value.bool ?_, S.fin⟩; symm; rw [List.any_eq_false]; intro o ho; rw [ha.all (by omega) o ho]; simp
theorem m1b (p : e0a) (c : B0a) (m : Int) (hm : m = 1 ∨ m = 2) (t i : Nat) (th : S0a) (s : k1a) (M : List Nat) (w0 : World) (cs xs : List Value) (vs : Value) (hI : InP p M w0 cs) (hX : K0a M w0 c xs) (hV : RdI M w0 vs (F1a c t)) (hf : b6a p c) (hxth : p.threads[t]? = some th) (hxs : th.steps[i]? = some s) :
 J0a Tryz.prog 140 #[.agg (xs ++ (cs ++ [Value.int .i64 m])).toArray, .int .i64 t, .int .i64 i, vs] w0 fun v w' => v = .bool (P0a p m c t s) ∧ Below w0.heap.size w0 w' := by
 obtain ⟨_, _, _, _, _, _, _, _, _, _, _, _, rfl, _, _, _, hTh, _, _, _, _, _, _, _, _⟩ := hI.rd.open_
 obtain ⟨_, _, _, _, _, _, _, _, _, rfl, _, hAt, hBuf, _, hxa, _, _, b2, _⟩ := hX.open_
 obtain ⟨_, _, _, rfl⟩ := hV.form
 have S := St.refl w0
 have f2 := hf.nat
 have f3 := hf.nbuf
 have hp := hI.ok
 have ht := z1a hxth
 have hi := z1a hxs
 have hto := hp.thread hxth
 have hso := hto.steps s (h0a hxs)
 have hkd := hso.kind
 have hk6 : 6 ≤ s.kind → 0 ≤ s.target ∧ s.target < p.threads.length := fun h => (hso.row.k6 h).1
 have hrel := hso.rel
 have hm0 : ¬ m = 0 := by omega
 refine a0a Tryz.func140 rfl Tryz.ntmps140 rfl ?_
 refine wO0 rfl ⟨⟩ (m0a S (by conv => lhs; whnf) rfl ?_)
 intro g4 w4 S4 X4 G4
 obtain ⟨_, b16, p16, _, hx16, hA16, _, _, hc16, hr16⟩ := RdS.get (hTh) (t) (by omega)
 obtain rfl := Option.some.inj (hxth.symm.trans hx16)
 obtain ⟨_, _, _, _, _, _, _, _, _, _, _, _, rfl, _, _, _, hSt16, _, _, _, _, _, _, _, _, _⟩ := T0a.open_ hr16
 obtain ⟨_, b20, p20, _, hx20, hA20, _, hl20, hc20, hr20⟩ := RdS.get (hSt16) (i) (by omega)
 obtain rfl := Option.some.inj (hxs.symm.trans hx20)
 obtain ⟨_, _, _, _, _, _, rfl, ⟨_, _, _, _, _⟩, hG20, _, _, _⟩ := s1a.open_ hr20
 refine lO ((S4.k.a hc20).a hc16) [.o 0,.x b16 p16,.f 0 4,.x b20 p20,.v 1] rfl ⟨⟨rfl,hl20⟩,⟨hA20,by omega⟩,rfl,⟨hA16,by omega⟩,rfl,⟨⟩⟩ (g0a S4 o2b rfl rfl ?_)
 intro g9 w9 S9 X9 G9
 refine d0a (kk := 0) (vs := [_, _, _, _, _, _, _, _, _, _, _]) S9 i2b rfl rfl rfl rfl rfl rfl rfl ?_
 intro w1_11 S1_11 X1_11
 dsimp only [n0a, List.set] at S1_11
 refine lC0 rfl ⟨⟩ (A0a b0a [0, 1, 2, 3, 4, 5, 6, 7, 8, 9, 10, 11, 12, 13, 14, 15, 16] [] [] (by kernel_rfl) rfl (Cl _ _ _ _) (Cl.start S1_11) ?_)
 obtain ⟨a, b26, p26, _, hxa, hA26, _, _, hc26, hr26⟩ := RdS.get (hAt) (t) (by omega)
 obtain ⟨rfl, _⟩ := id hr26
 refine qB (S1_11.q.a hc26) [.o 1,.x b26 p26,.f 0 0,.o 0] rfl ⟨rfl,rfl,⟨hA26,by omega⟩,rfl,⟨⟩⟩ (fun h30 => ?_) fun h30 => ?_
 ·refine qD rfl ⟨⟩ ?_
  rintro wR2 ⟨SR2, XR2⟩
  refine lT rfl ⟨⟩ rfl ⟨congrArg Value.bool ?_, SR2.fin⟩
  rw [f7c hxa h30]; done
 refine qO S1_11.q [.o 0] rfl ⟨rfl,⟨⟩⟩ (p2a f9a rfl rfl (fun w1 S1 X1 => A6a s.guard M _ _ _ _ (F1a c t) (F1a c t) (RdE.keep (S1.keep0 M) _ _ hG20) (hI.keep (S1.keep0 M)).msk (hV.keep (S1.keep0 M)) (hV.keep (S1.keep0 M))) ?_)
 refine qB0 rfl ⟨⟩ (fun h37 => ?_) fun h37 => ?_
 ·refine qD rfl ⟨⟩ ?_
  rintro wR2 ⟨SR2, XR2⟩
  refine lT rfl ⟨⟩ rfl ⟨congrArg Value.bool ?_, SR2.fin⟩
  rw [s1c h37]; done
 refine qD rfl ⟨⟩ ?_
 rintro wR2 ⟨SR2, XR2⟩
 obtain ⟨b, b43, p43, _, hxb, hA43, _, _, hc43, hr43⟩ := RdS.get (hBuf) (t) (by omega)
 obtain ⟨_, _, _, rfl, _, hnb43, _⟩ := f7a.open_ hr43
 have q3 := (hf.bufs t b hxb).1
 refine lB (SR2.k.a hc43) [.o 1,.x b43 p43,.f 0 0,.o 0] rfl ⟨rfl,rfl,⟨hA43,by omega⟩,rfl,⟨⟩⟩ (fun h49 => ?_) fun h49 => ?_
 ·refine lO0 rfl ⟨⟩ ?_
  cases hb58 : s.release
  ·refine s0a c2a rfl (by exact (SR2.cell 0 rfl rfl).trans (congrArg (fun b => some (Value.bool b)) hb58)) rfl ?_
   refine lB0 rfl ⟨⟩ (fun h61 => ?_) fun h61 => ?_
   ·refine lT rfl ⟨⟩ rfl ⟨congrArg Value.bool ?_, SR2.fin⟩
    rw [s0d hm0 hxa h30 h37 hxb hnb43 h49 hb58]; exact (decide_eq_true h61).symm
   refine lT rfl ⟨⟩ rfl ⟨congrArg Value.bool ?_, SR2.fin⟩
   rw [s0d hm0 hxa h30 h37 hxb hnb43 h49 hb58]; exact (decide_eq_false (Int.not_lt.2 h61)).symm
  refine s0a c2a rfl (by exact (SR2.cell 0 rfl rfl).trans (congrArg (fun b => some (Value.bool b)) hb58)) rfl ?_
  refine lB0 rfl ⟨⟩ (fun h63 => ?_) fun h63 => ?_
  ·refine lT rfl ⟨⟩ rfl ⟨congrArg Value.bool ?_, SR2.fin⟩
   rw [o9c hm0 hxa h30 h37 hxb hnb43 h49 hb58]; exact (decide_eq_true h63).symm
  refine lT rfl ⟨⟩ rfl ⟨congrArg Value.bool ?_, SR2.fin⟩
  rw [o9c hm0 hxa h30 h37 hxb hnb43 h49 hb58]; exact (decide_eq_false h63).symm
 refine lB0 rfl ⟨⟩ (fun h51 => ?_) fun h51 => ?_
 ·refine lB0 rfl ⟨⟩ (fun h63 => ?_) fun h63 => ?_
  ·refine lT rfl ⟨⟩ rfl ⟨congrArg Value.bool ?_, SR2.fin⟩
   rw [Y1c hxa h30 h37 hxb hnb43 (.inl h51)]; exact (decide_eq_true h63).symm
  refine lT rfl ⟨⟩ rfl ⟨congrArg Value.bool ?_, SR2.fin⟩
  rw [Y1c hxa h30 h37 hxb hnb43 (.inl h51)]; exact (decide_eq_false h63).symm
 refine lB0 rfl ⟨⟩ (fun h52 => ?_) fun h52 => ?_
 ·refine lB0 rfl ⟨⟩ (fun h63 => ?_) fun h63 => ?_
  ·refine lT rfl ⟨⟩ rfl ⟨congrArg Value.bool ?_, SR2.fin⟩
   rw [Y1c hxa h30 h37 hxb hnb43 (.inr h52)]; exact (decide_eq_true h63).symm
  refine lT rfl ⟨⟩ rfl ⟨congrArg Value.bool ?_, SR2.fin⟩
  rw [Y1c hxa h30 h37 hxb hnb43 (.inr h52)]; exact (decide_eq_false h63).symm
 refine lB0 rfl ⟨⟩ (fun h54 => ?_) fun h54 => ?_
 ·refine lB0 rfl ⟨⟩ (fun h65 => ?_) fun h65 => ?_
  ·have q6 := hk6 (by omega)
   obtain ⟨a2, b72, p72, _, hxa2, hA72, _, _, hc72, hr72⟩ := RdS.get (hAt) (s.target.toNat) (by omega)
   obtain ⟨rfl, _⟩ := id hr72
   refine lB (SR2.k.a hc72) [.o 1,.o 0,.x b72 p72,.f 0 0] rfl ⟨rfl,⟨hA72,by omega⟩,rfl,rfl,⟨⟩⟩ (fun h74 => ?_) fun h74 => ?_
   ·refine lT rfl ⟨⟩ rfl ⟨congrArg Value.bool ?_, SR2.fin⟩
    rw [w0d hxa h30 h37 hxb hnb43 h54 hxa2]; rw [decide_eq_true h65]; (rw [decide_eq_true h74]; rfl)
   refine lT rfl ⟨⟩ rfl ⟨congrArg Value.bool ?_, SR2.fin⟩
   rw [w0d hxa h30 h37 hxb hnb43 h54 hxa2]; rw [decide_eq_true h65]; (rw [decide_eq_false h74]; rfl)
  refine lT rfl ⟨⟩ rfl ⟨congrArg Value.bool ?_, SR2.fin⟩
  rw [J7c hxb hnb43 (.inl h54) h65]; done
 refine lB0 rfl ⟨⟩ (fun h56 => ?_) fun h56 => ?_
 ·have q6 := hk6 (by omega)
  obtain ⟨_, b81, p81, _, hxu, hA81, _, _, hc81, hr81⟩ := RdS.get (hTh) (s.target.toNat) (by omega)
  obtain ⟨_, _, _, _, _, _, _, _, _, _, _, _, rfl, _, _, _, _, _, _, _, _, _, _, _, _, _⟩ := T0a.open_ hr81
  have q7 := (hp.thread hxu).points
  refine lB (SR2.k.a hc81) [.o 1,.o 0,.x b81 p81,.f 0 1] rfl ⟨by omega,rfl,⟨hA81,by omega⟩,rfl,rfl,⟨⟩⟩ (fun h86 => ?_) fun h86 => ?_
  ·obtain ⟨a2, b93, p93, _, hxa2, hA93, _, _, hc93, hr93⟩ := RdS.get (hAt) (s.target.toNat) (by omega)
   obtain ⟨rfl, _⟩ := id hr93
   refine lB (SR2.k.a hc93) [.o 1,.o 0,.x b93 p93,.f 0 0] rfl ⟨rfl,⟨hA93,by omega⟩,rfl,rfl,⟨⟩⟩ (fun h96 => ?_) fun h96 => ?_
   ·obtain ⟨b2, b104, p104, _, hxb2, hA104, _, _, hc104, hr104⟩ := RdS.get (hBuf) (s.target.toNat) (by omega)
    obtain ⟨_, _, _, rfl, _, hnb104, _⟩ := f7a.open_ hr104
    refine lB (SR2.k.a hc104) [.o 1,.o 0,.x b104 p104,.f 0 0] rfl ⟨rfl,⟨hA104,by omega⟩,rfl,rfl,⟨⟩⟩ (fun h107 => ?_) fun h107 => ?_
    ·refine lT rfl ⟨⟩ rfl ⟨congrArg Value.bool ?_, SR2.fin⟩
     rw [y0d hxa h30 h37 hxb hnb43 h56 hxa2 hxu hxb2 hnb104]; rw [decide_eq_true h86, decide_eq_true h96]; (rw [decide_eq_true h107]; rfl)
    refine lT rfl ⟨⟩ rfl ⟨congrArg Value.bool ?_, SR2.fin⟩
    rw [y0d hxa h30 h37 hxb hnb43 h56 hxa2 hxu hxb2 hnb104]; rw [decide_eq_true h86, decide_eq_true h96]; (rw [decide_eq_false h107]; rfl)
   refine lT rfl ⟨⟩ rfl ⟨congrArg Value.bool ?_, SR2.fin⟩
   rw [o0d h56 hxa2 hxu h96]; done
  refine lT rfl ⟨⟩ rfl ⟨congrArg Value.bool ?_, SR2.fin⟩
  rw [J7c hxb hnb43 (.inr h56) h86]; done
 refine lT rfl ⟨⟩ rfl ⟨congrArg Value.bool ?_, SR2.fin⟩
 rw [h0d hxa h30 h37 (by omega)]; done
end Go.Proofs.YtjjmdcnmeommbaaGreatDoor
namespace Go.Fw
open Go.RowKit
section
variable {M : List Nat} {w0 w w' : World} {L : List Ent}
theorem St.join {L2 : List Ent} (S : St M w0 w L) (S2 : St [] w w' L2) : St M w0 w' (L2 ++ L) := by
 have hnew : ∀ b ∈ L2, ∀ g, b.1 = some g → w.heap.size ≤ g ∧ r0a w' (g, b.2) := fun b hb g hg => by
  obtain ⟨h1, h2⟩ := S2.own b hb g hg
  rcases h1 with h1 | h1
  ·exact ⟨h1, h2⟩
  ·cases h1
 have S' := S.later S2.fin
 refine ⟨S'.below, fun b hb g hg => ?_, List.pairwise_append.2 ⟨S2.apart, S.apart, fun a ha b hb g hg hg' => ?_⟩⟩
 ·rcases List.mem_append.1 hb with h | h
  ·obtain ⟨h1, h2⟩ := hnew b h g hg
   exact ⟨.inl (Nat.le_trans S.size h1), h2⟩
  ·exact S'.own b h g hg
 ·have h1 := (hnew a ha g hg).1
  have h2 := (S.own b hb g hg').2.lt
  simp at h2; omega
theorem St.fill (S : St M w0 w L) (j : Nat) {t' : TypeId} {cs' : List Value} {g : Nat} (hb : Below w.heap.size w w') (hg : r0a w' (g, t', cs')) (hlo : w.heap.size ≤ g) : St M w0 w' (L.set j (some g, t', cs')) := by
 have S' := S.later hb
 have hold : ∀ b ∈ L, b.1 ≠ some g := fun b hm hh => by
  have := (S.own b hm g hh).2.lt
  simp at this; omega
 refine ⟨S'.below, fun b hm x hx => ?_, ?_⟩
 ·rcases List.mem_or_eq_of_mem_set hm with h | rfl
  ·exact S'.own b h x hx
  ·cases hx
   exact ⟨.inl (Nat.le_trans S.size hlo), hg⟩
 ·rw [List.pairwise_iff_getElem]
  intro i k hi hk hik x hx
  rw [List.length_set] at hi hk
  rw [List.getElem_set] at hx ⊢
  split at hx
  ·cases hx
   split
   ·omega
   ·exact hold _ (List.getElem_mem hk)
  ·split
   ·intro hh; cases hh; exact hold _ (List.getElem_mem hi) hx
   ·exact (List.pairwise_iff_getElem.1 S.apart) i k hi hk hik x hx
theorem St.nils (S : St M w0 w L) {R : List Ent} (hR : ∀ b ∈ R, b.1 = none) : St M w0 w (L ++ R) := by
 refine ⟨S.below, fun b hb g hg => ?_, List.pairwise_append.2 ⟨S.apart, ?_, fun a _ b hb g _ hg' => ?_⟩⟩
 ·rcases List.mem_append.1 hb with h | h
  ·exact S.own b h g hg
  ·rw [hR b h] at hg; cases hg
 ·exact List.Pairwise.imp_of_mem (fun ha _ _ g hg => (by rw [hR _ ha] at hg; cases hg)) (List.pairwise_of_forall (R := fun _ _ => True) (fun _ _ => trivial))
 ·rw [hR b hb] at hg'; cases hg'
theorem St.place {x : Ent} (S : St M w0 w (x :: L)) (j : Nat) : St M w0 w (L.set j x) := by
 obtain ⟨h1, h2⟩ := List.pairwise_cons.1 S.apart
 refine ⟨S.below, fun b hm g hg => ?_, ?_⟩
 ·rcases List.mem_or_eq_of_mem_set hm with h | rfl
  ·exact S.own b (List.mem_cons_of_mem _ h) g hg
  ·exact S.own _ (by simp) g hg
 ·rw [List.pairwise_iff_getElem]
  intro i k hi hk hik g hg
  rw [List.length_set] at hi hk
  rw [List.getElem_set] at hg ⊢
  split at hg
  ·split
   ·omega
   ·exact h1 _ (List.getElem_mem hk) g hg
  ·split
   ·intro hh; exact h1 _ (List.getElem_mem hi) g hh hg
   ·exact (List.pairwise_iff_getElem.1 h2) i k hi hk hik g hg
theorem St.front {A R : List Ent} (S : St M w0 w (A ++ R)) : St M w0 w A :=
 ⟨S.below, fun b hm => S.own b (List.mem_append_left _ hm), (List.pairwise_append.1 S.apart).1⟩
abbrev clF {A R : List Ent} (_ : St M w0 w (A ++ R)) (K : List Nat) : World → Prop := fun w1 => St M w0 w1 A ∧ x0a K w w1
end
theorem z3a.form {G : Option Nat} {size n : Nat} {cs xs : List Value} {v : Value} (h : z3a G size n cs v xs) : ∃ A n c, v = .slice A n c := by
 rcases h with ⟨_, ⟨_, rfl, _⟩ | ⟨g, cap, _, rfl, _⟩⟩
 ·exact ⟨_, _, _, rfl⟩
 ·exact ⟨_, _, _, rfl⟩
theorem r7c (A rows : List Ent) (k n : Nat) (hn : A.length = n) : (A ++ rows)[n + k]? = rows[k]? := by
 subst hn; rw [List.getElem?_append_right (by omega)]; congr 1; omega
theorem Y9c (A rows : List Ent) (k n : Nat) (hn : A.length = n) (x : Ent) : (A ++ rows).set (n + k) x = A ++ rows.set k x := by
 subst hn; rw [List.set_append_right _ _ (by omega)]; congr 2; omega
theorem m2a.more {α : Type} {R : List Nat → World → List Value → α → Prop} {size : Nat} (hL : j7a R size) {M M' : List Nat} {w : World} {G : Option Nat} {cs : List Value} {v : Value} {l : List α} (h : m2a R size M w G cs v l) (hm : ∀ g ∈ M', (g ∈ G.toList ∨ g ∈ M) ∨ w.heap.size ≤ g) : m2a R size M' w G cs v l := by
 obtain ⟨css, h1, h2, h3, h4⟩ := h
 refine ⟨css, h1, h2, h3, fun i x hi => ?_⟩
 obtain ⟨c, h5, h6⟩ := h4 i x hi
 refine ⟨c, h5, hL.more (fun g hg => ?_) h6⟩
 rcases List.mem_append.1 hg with hg | hg
 ·exact .inl (List.mem_append_left _ hg)
 ·rcases hm g hg with h | h
  ·exact .inl (List.mem_append.2 h)
  ·exact .inr h
def u8a (rows : List Ent) : List Nat := rows.filterMap (·.1)
theorem d3a {rows : List Ent} {g : Nat} : g ∈ u8a rows ↔ ∃ b ∈ rows, b.1 = some g := by unfold u8a; rw [List.mem_filterMap]
def b3a (tE : TypeId) (M : List Nat) (w : World) (rows : List Ent) (vs : List Value) (bs : List (List G0a)) : Prop :=
 rows.length = bs.length ∧ vs.length = bs.length ∧ ∀ (i : Nat) (b : List G0a), bs[i]? = some b → ∃ G cs v, rows[i]? = some (G, tE, cs) ∧ vs[i]? = some v ∧ m2a a1a 2 (M ++ u8a rows) w G cs v b
theorem b3a.keep {tE : TypeId} {M : List Nat} {w w' : World} {rows : List Ent} {vs : List Value} {bs : List (List G0a)} (h : b3a tE M w rows vs bs) (hk : x0a (M ++ u8a rows) w w') : b3a tE M w' rows vs bs := by
 obtain ⟨h1, h2, h3⟩ := h
 refine ⟨h1, h2, fun i b hi => ?_⟩
 obtain ⟨G, cs, v, h4, h5, h6⟩ := h3 i b hi
 exact ⟨G, cs, v, h4, h5, h6.keep i2a (hk.mono fun g hg => List.mem_append_right _ hg)⟩
theorem b3a.nil {tE : TypeId} {M : List Nat} {w : World} (n : Nat) : b3a tE M w (List.replicate n (none, tE, [])) (List.replicate n (.slice none 0 0)) (List.replicate n []) := by
 refine ⟨by simp, by simp, fun i b hi => ?_⟩
 obtain ⟨hlt, rfl⟩ := List.getElem?_eq_some_iff.1 hi
 simp only [List.length_replicate] at hlt
 refine ⟨none, [], .slice none 0 0, by simp [hlt], by simp [hlt], ?_⟩
 simp only [List.getElem_replicate]
 exact m2a.nil
theorem T3c {rows : List Ent} {k : Nat} {G' : Option Nat} {tE : TypeId} {cs' : List Value} {g : Nat} (h : g ∈ u8a (rows.set k (G', tE, cs'))) : g ∈ u8a rows ∨ g ∈ G'.toList := by
 obtain ⟨b, hb, hg⟩ := d3a.1 h
 rcases List.mem_or_eq_of_mem_set hb with h | rfl
 ·exact .inl (d3a.2 ⟨b, h, hg⟩)
 ·right; cases hg; simp
theorem b3a.put {tE : TypeId} {M : List Nat} {w w1 : World} {rows : List Ent} {vs : List Value} {bs : List (List G0a)} (h : b3a tE M w rows vs bs) {k : Nat} {G G' : Option Nat} {cs cs' : List Value} {v' : Value} {b' : List G0a} (hk : k < bs.length)
 (hrow : m2a a1a 2 (M ++ u8a rows) w1 G' cs' v' b') (X : x0a G.toList w w1) (F : ∀ g ∈ G'.toList, g ∈ G.toList ∨ w.heap.size ≤ g) (hrk : rows[k]? = some (G, tE, cs)) : b3a tE M w1 (rows.set k (G', tE, cs')) (vs.set k v') (bs.set k b') := by
 obtain ⟨h1, h2, h3⟩ := h
 have hGb : ∀ g ∈ G.toList, g ∈ u8a rows := fun g hg => d3a.2 ⟨_, List.mem_of_getElem? hrk, by cases G <;> simp at hg ⊢; exact hg.symm⟩
 have hsub : ∀ g ∈ M ++ u8a (rows.set k (G', tE, cs')), (g ∈ M ++ u8a rows ∨ g ∈ G'.toList) := fun g hg => by
  rcases List.mem_append.1 hg with h | h
  ·exact .inl (List.mem_append_left _ h)
  ·rcases T3c h with h | h
   ·exact .inl (List.mem_append_right _ h)
   ·exact .inr h
 refine ⟨by simp [h1], by simp [h2], fun i b hi => ?_⟩
 rw [List.getElem?_set] at hi
 by_cases hik : k = i
 ·subst hik
  rw [if_pos rfl, if_pos hk] at hi
  cases hi
  exact ⟨G', cs', v', by rw [List.getElem?_set_self (by omega)], by rw [List.getElem?_set_self (by omega)], hrow.more i2a fun g hg => by
   rcases hsub g hg with h | h
   ·exact .inl (.inr h)
   ·exact .inl (.inl h)⟩
 ·rw [if_neg hik] at hi
  obtain ⟨Gi, csi, vi, h4, h5, h6⟩ := h3 i b hi
  refine ⟨Gi, csi, vi, by rw [List.getElem?_set_ne hik]; exact h4, by rw [List.getElem?_set_ne hik]; exact h5, ?_⟩
  have e1 : m2a a1a 2 (G.toList ++ (M ++ u8a (rows.set k (G', tE, cs')))) w Gi csi vi b := h6.more i2a fun g hg => by
   rcases List.mem_append.1 hg with h | h
   ·exact .inl (.inr (List.mem_append_right _ (hGb g h)))
   ·rcases hsub g h with h | h
    ·exact .inl (.inr h)
    ·rcases F g h with h | h
     ·exact .inl (.inr (List.mem_append_right _ (hGb g h)))
     ·exact .inr h
  exact (e1.keep i2a (X.mono fun g hg => List.mem_append_right _ (List.mem_append_left _ hg))).more i2a fun g hg => .inl (.inr (List.mem_append_right _ hg))
theorem b3a.rd {tE : TypeId} {M M' Mx : List Nat} {w0 w : World} {A rows : List Ent} {vs : List Value} {bs : List (List G0a)} (h : b3a tE M w rows vs bs) (S : St M' w0 w (A ++ rows)) (hx : ∀ g ∈ Mx, g ∈ M) (hM : ∀ g ∈ Mx, g ∉ u8a rows) (hl : ∀ b ∈ bs, b.length ≤ 1000) :
 ∀ (i : Nat) (b : List G0a), bs[i]? = some b → ∃ v, vs[i]? = some v ∧ m7c Mx w v b := fun i b hi => by
 obtain ⟨_, _, h3⟩ := h
 obtain ⟨G, cs, v, h4, h5, h6⟩ := h3 i b hi
 refine ⟨v, h5, ?_⟩
 have h7 : m2a a1a 2 Mx w G cs v b := h6.more i2a fun g hg => .inl (.inr (List.mem_append_left _ (hx g hg)))
 refine h7.rd i2a S (k := A.length + i) (el := tE) (by rw [r7c A rows i _ rfl]; exact h4) (fun g hg hm => hM g hm (d3a.2 ⟨_, List.mem_of_getElem? h4, hg⟩)) (by have := hl b (List.mem_of_getElem? hi); omega)
theorem St.rdBs {M M' : List Nat} {w0 w : World} {L : List Ent} (S : St M' w0 w L) (j : Nat) {g t : Nat} {vs : List Value} {bs : List (List G0a)} (hj : L[j]? = some (some g, t, vs)) (hg : g ∉ M) (hbig : bs.length ≤ 140737488355328) (h : ∀ (i : Nat) (b : List G0a), bs[i]? = some b → ∃ v, vs[i]? = some v ∧ m7c M w v b) : u7c M w (.slice (some ⟨g, 0, none⟩) bs.length bs.length) bs :=
 S.rd1 hj hg rfl hbig fun i x hi => by
  obtain ⟨v, h1, h2⟩ := h i x hi
  exact ⟨v, h1, v, rfl, h2⟩
theorem b3a.less {tE : TypeId} {M M' : List Nat} {w : World} {rows : List Ent} {vs : List Value} {bs : List (List G0a)} (h : b3a tE M w rows vs bs) (hm : ∀ g ∈ M', g ∈ M) : b3a tE M' w rows vs bs := by
 obtain ⟨h1, h2, h3⟩ := h
 refine ⟨h1, h2, fun i b hi => ?_⟩
 obtain ⟨G, cs, v, h4, h5, h6⟩ := h3 i b hi
 exact ⟨G, cs, v, h4, h5, h6.more i2a fun g hg => .inl (.inr (by
  rcases List.mem_append.1 hg with h | h
  ·exact List.mem_append_left _ (hm g h)
  ·exact List.mem_append_right _ h))⟩
theorem S1c {α : Type} {l : List α} {k : Nat} {x : α} (h : l[k]? = some x) : l.set k x = l := by
 obtain ⟨hlt, rfl⟩ := List.getElem?_eq_some_iff.1 h
 exact List.set_getElem_self hlt
theorem y7b {α : Type} {l : List α} {z : α} {k : Nat} (h : k < l.length) : (U2a l z k)[k]? = some z := by
 unfold U2a
 rw [List.getElem?_append_right (by simp; omega), List.getElem?_replicate, if_pos (by simp; omega)]
theorem RdI.i64s {M : List Nat} {w : World} {v : Value} {l : List Int} (h : RdI M w v l) : ∀ x ∈ l, i64 x := fun x hx => by
 obtain ⟨_, _, _, rfl⟩ := h.form
 obtain ⟨i, hi, rfl⟩ := List.getElem_of_mem hx
 obtain ⟨_, _, _, _, h5⟩ := h.at
 obtain ⟨_, _, _, _, hel⟩ := h5 (by omega)
 obtain ⟨_, _, _, h6⟩ := hel i _ (List.getElem?_eq_getElem hi)
 exact h6.2
theorem o4b.rd {el : Nat} {w w1 : World} {v : Value} {l : List Int} (h : o4b el w w1 v l) {M : List Nat} (hM : ∀ g ∈ M, g < w.heap.size) (hl : ∀ x ∈ l, i64 x) (hb : Below w.heap.size w w1) (hbig : l.length ≤ 140737488355328) : RdI M w1 v l := by
 obtain ⟨_, _, h1, S⟩ := h.open_ ((St.refl w).later hb) (St.refl w)
 exact h1.rdI S (k := 0) rfl hM hl hbig
theorem St.sublist {M : List Nat} {w0 w : World} {L L' : List Ent} (S : St M w0 w L) (h : L'.Sublist L) : St M w0 w L' := ⟨S.below, fun b hb => S.own b (h.subset hb), S.apart.sublist h⟩
theorem St.perm {M : List Nat} {w0 w : World} {L L' : List Ent} (S : St M w0 w L) (h : L.Perm L') : St M w0 w L' :=
 ⟨S.below, fun b hb => S.own b (h.symm.subset hb), (h.pairwise_iff (fun hxy g hg hg' => hxy g hg' hg)).1 S.apart⟩
theorem St.joinR {M : List Nat} {w0 w w' : World} {L A R : List Ent} (S : St M w0 w L) (S2 : St [] w w' (A ++ R)) : St M w0 w' ((A ++ L) ++ R) := by
 refine (S.join S2).perm ?_
 rw [List.append_assoc, List.append_assoc]
 exact (List.perm_append_comm).append_left A
theorem m2a.erase {α : Type} {R : List Nat → World → List Value → α → Prop} {size : Nat} (hL : j7a R size) {M : List Nat} {w w1 : World} {G : Option Nat} {cs' : List Value} {v : Value} {l : List α} {css : List (List Value)} (l1 : css.length = l.length) (l2 : ∀ x ∈ css, x.length = size) (l4 : ∀ (i : Nat) (x : α), l[i]? = some x → ∃ c, css[i]? = some c ∧ R (G.toList ++ M) w c x)
 {i : Nat} (hi : i < l.length) (rv : z3a G size (l.length - 1) cs' v (css.eraseIdx i).flatten) (hk : x0a (G.toList ++ M) w w1) : m2a R size M w1 G cs' v (l.eraseIdx i) := by
 have hle : (l.eraseIdx i).length = l.length - 1 := by rw [List.length_eraseIdx, if_pos hi]
 refine ⟨css.eraseIdx i, by rw [hle, List.length_eraseIdx, if_pos (by omega), l1], fun x hx => l2 x (List.mem_of_mem_eraseIdx hx), by rw [hle]; exact rv, fun k x hx => ?_⟩
 rw [List.getElem?_eraseIdx] at hx ⊢
 split
 ·rename_i h
  rw [if_pos h] at hx
  obtain ⟨c, h5, h6⟩ := l4 k x hx
  exact ⟨c, h5, hL.keep hk h6⟩
 ·rename_i h
  rw [if_neg h] at hx
  obtain ⟨c, h5, h6⟩ := l4 (k + 1) x hx
  exact ⟨c, h5, hL.keep hk h6⟩
theorem m4c {M : List Nat} {w : World} {G : Option Nat} {l : List G0a} {css : List (List Value)} (l1 : css.length = l.length) (l4 : ∀ (i : Nat) (x : G0a), l[i]? = some x → ∃ c, css[i]? = some c ∧ a1a (G.toList ++ M) w c x) : ∀ u ∈ css.flatten, u.oneCell' = true := fun u hu => by
 obtain ⟨x, hx, hu⟩ := List.mem_flatten.1 hu
 obtain ⟨i, hi, rfl⟩ := List.getElem_of_mem hx
 obtain ⟨c, h5, h6⟩ := l4 i l[i] (List.getElem?_eq_getElem (by omega))
 rw [List.getElem?_eq_getElem hi] at h5; cases h5
 exact i2a.one h6 u hu
theorem St.apartM {w0 w : World} {A rows : List Ent} (S : St [] w0 w (A ++ rows)) {M : List Nat} (hM : ∀ g ∈ M, g < w0.heap.size) : ∀ g ∈ M, g ∉ u8a rows := fun g hg hb => by
 obtain ⟨x, hx, hg'⟩ := d3a.1 hb
 have h2 := hM g hg
 rcases (S.own x (List.mem_append_right _ hx) g hg').1 with h | h
 ·omega
 ·cases h
theorem x0a.fresh2 {a b c : World} {Q : List Nat} {g : Nat} (h : x0a Q a b) (k : x0a [g] b c) (hg : a.heap.size ≤ g ∨ g ∈ Q) : x0a Q a c :=
 ⟨Nat.le_trans h.size k.size, fun i hi hm => (k.same i (Nat.lt_of_lt_of_le hi h.size) (fun hh => by rw [List.mem_singleton] at hh; subst hh; rcases hg with hg | hg; omega; exact hm hg)).trans (h.same i hi hm)⟩
theorem x0a.freshL {a b c : World} {Q Gs : List Nat} (h : x0a Q a b) (k : x0a Gs b c) (hg : ∀ g ∈ Gs, a.heap.size ≤ g ∨ g ∈ Q) : x0a Q a c :=
 ⟨Nat.le_trans h.size k.size, fun i hi hm => (k.same i (Nat.lt_of_lt_of_le hi h.size) (fun hh => by rcases hg i hh with hg | hg; omega; exact hm hg)).trans (h.same i hi hm)⟩
end Go.Fw
namespace Go.Proofs.YtjjmdcnmeommbaaGreatDoor
open Go.Fw Go.RowKit
def Q3c (M : List Nat) (w0 w : World) (c : B0a) (v : Value) : Prop :=
 ∃ (Gm Ga : Option Nat) (csm csa : List Value) (vm va : Value) (gb : Nat) (rows : List Ent) (vs : List Value), v = .agg #[vm, va, .slice (some ⟨gb, 0, none⟩) c.buf.length c.buf.length] ∧ z3a Gm 1 c.mem.length csm vm (c.mem.map (Value.int .i64)) ∧ z3a Ga 1 c.at_.length csa va (c.at_.map (Value.int .i64)) ∧
  St [] w0 w ([(some gb, 118, vs), (Ga, 3, csa), (Gm, 3, csm)] ++ rows) ∧ b3a 121 (Gm.toList ++ (Ga.toList ++ (gb :: M))) w rows vs c.buf
theorem o6b {M : List Nat} {w0 w : World} {L : List Ent} (S : St M w0 w L) {G : Option Nat} {t : TypeId} {cs : List Value} {k : Nat} (hk : L[k]? = some (G, t, cs)) : ∀ g ∈ G.toList, g < w.heap.size := fun g hg => by
 have : G = some g := by cases G <;> simp at hg ⊢; exact hg.symm
 subst this
 exact S.lt k hk
theorem b3b (Mx M : List Nat) (w0 : World) (v : Value) (l : List Int) (hR : RdI M w0 v l) (hl : l.length ≤ 100000000) (hM : ∀ g ∈ Mx, g < w0.heap.size) :
 J0a Tryz.prog 179 #[v] w0 fun v w' => RdI Mx w' v l ∧ Below w0.heap.size w0 w' :=
 (m7a M w0 v l hR hl).mono fun _ _ h => ⟨h.1.rd hM hR.i64s h.2 (by omega), h.2⟩
theorem m6b (p : e0a) (hp : g1a p) (c : B0a) (M : List Nat) (w0 : World) (hM : ∀ g ∈ M, g < w0.heap.size) (xs : List Value) (hX : K0a M w0 c xs) (hf : b6a p c) :
 J0a Tryz.prog 176 #[.agg xs.toArray] w0 fun v w' => Q3c M w0 w' c v ∧ Below w0.heap.size w0 w' := by
 obtain ⟨Xm, xm, ym, Xa, xa, ya, Xb, xb, yb, rfl, hMem, hAt, hBuf, _, _, hnb, _, _, _⟩ := hX.open_
 have S := St.refl w0
 have f1 := hf.mem.len
 have f2 := hf.nat
 have n1 := hp.ncells
 have n2 := hp.nthreads
 have f3 := hf.nbuf
 refine a0a Tryz.func176 rfl Tryz.ntmps176 rfl ?_
 refine wO0 rfl ⟨⟩ (m0a S (by conv => lhs; whnf) rfl ?_)
 intro g1 w1 S1 X1 G1
 refine g0a S1 c6a rfl rfl ?_
 intro g2 w2 S2 X2 G2
 refine lC0 rfl ⟨⟩ (I7b b0a (by kernel_rfl) (fun f ε w => ε 1 = .pointer (some ⟨g1, 0, none⟩) ∧ ε 2 = .pointer (some ⟨g2, 0, none⟩) ∧ ∃ E11 E9 E5 E2 : Ent, St [] w0 w [E11, E9, E5, E2, (some g2, 52, [.slice none 0 0, .slice none 0 0, .slice none 0 0]), (some g1, 52, [.slice Xm xm ym, .slice Xa xa ya, .slice Xb xb yb])] ∧ (f 0 = true → ε 8 = .pointer (some ⟨g1, 0, none⟩)) ∧ (f 1 = true → ε 9 = .slice Xm xm ym) ∧ (f 2 = true → ∃ G cs A n c', ε 10 = .slice A n c' ∧ E2 = (G, 3, cs) ∧ z3a G 1 c.mem.length cs (.slice A n c') (c.mem.map (Value.int .i64))) ∧ (f 3 = true → ε 11 = .pointer (some ⟨g1, 1, none⟩)) ∧ (f 4 = true → ε 12 = .slice Xa xa ya) ∧ (f 5 = true → ∃ G cs A n c', ε 13 = .slice A n c' ∧ E5 = (G, 3, cs) ∧ z3a G 1 c.at_.length cs (.slice A n c') (c.at_.map (Value.int .i64))) ∧ (f 6 = true → ε 14 = .pointer (some ⟨g1, 2, none⟩)) ∧ (f 7 = true → ε 15 = .slice Xb xb yb) ∧ (f 8 = true → ε 16 = .int .i64 xb) ∧ (f 9 = true → ∃ g, ε 17 = .slice (some ⟨g, 0, none⟩) xb xb ∧ E9 = (some g, 118, List.replicate xb (.slice none 0 0))) ∧ (f 10 = true → (f 2 = true ∧ f 5 = true ∧ f 9 = true) ∧ ε 18 = .agg #[ε 10, ε 13, ε 17]) ∧ (f 11 = true → f 12 = false → ∃ g, ε 3 = .pointer (some ⟨g, 0, none⟩) ∧ E11 = (some g, 52, [.slice none 0 0, .slice none 0 0, .slice none 0 0])) ∧ (f 12 = true → (∀ k, k < 12 → f k = true) ∧ ∃ g, ε 3 = .pointer (some ⟨g, 0, none⟩) ∧ E11 = (some g, 52, [ε 10, ε 13, ε 17]))) ?_ ?_ ?_)
 ·exact ⟨rfl, rfl, (none, 0, []), (none, 0, []), (none, 0, []), (none, 0, []), ((((S2.drew.nilEnt 0).nilEnt 0).nilEnt 0).nilEnt 0), by simp, by simp, by simp, by simp, by simp, by simp, by simp, by simp, by simp, by simp, by simp, by simp, by simp⟩
 ·rintro f ε w i o ⟨e1, e2, E11, E9, E5, E2, S, h0, h1, h2, h3, h4, h5, h6, h7, h8, h9, h10, h11, h12⟩ ho hfi hpr
  have hi : i < 13 := (List.getElem?_eq_some_iff.1 ho).1
  refine r1a 1 e1 (r1a 2 e2 ?_)
  rcases (show i = 0 ∨ i = 1 ∨ i = 2 ∨ i = 3 ∨ i = 4 ∨ i = 5 ∨ i = 6 ∨ i = 7 ∨ i = 8 ∨ i = 9 ∨ i = 10 ∨ i = 11 ∨ i = 12 by omega) with rfl | rfl | rfl | rfl | rfl | rfl | rfl | rfl | rfl | rfl | rfl | rfl | rfl
  ·cases ho
   refine p6a e5b rfl rfl ?_
   refine L0a ⟨rfl, rfl, rfl, E11, E9, E5, E2, S, fun _ => rfl, fun hh => h1 (by simpa using hh), fun hh => h2 (by simpa using hh), fun hh => h3 (by simpa using hh), fun hh => h4 (by simpa using hh), fun hh => h5 (by simpa using hh), fun hh => h6 (by simpa using hh), fun hh => h7 (by simpa using hh), fun hh => h8 (by simpa using hh), fun hh => h9 (by simpa using hh), fun hh => ⟨⟨by simp [(h10 (by simpa using hh)).1.1], by simp [(h10 (by simpa using hh)).1.2.1], by simp [(h10 (by simpa using hh)).1.2.2]⟩, (h10 (by simpa using hh)).2⟩, fun hh hh' => h11 (by simpa using hh) (by simpa using hh'), fun hh => absurd ((h12 (by simpa using hh)).1 0 (by omega)) (by simp [hfi])⟩
  ·cases ho
   refine r1a 8 (h0 (hpr 0 (by decide))) ?_
   refine s0a Z3a rfl (S.cell 5 rfl rfl) rfl ?_
   refine L0a ⟨rfl, rfl, rfl, E11, E9, E5, E2, S, fun _ => rfl, fun _ => rfl, fun hh => h2 (by simpa using hh), fun hh => h3 (by simpa using hh), fun hh => h4 (by simpa using hh), fun hh => h5 (by simpa using hh), fun hh => h6 (by simpa using hh), fun hh => h7 (by simpa using hh), fun hh => h8 (by simpa using hh), fun hh => h9 (by simpa using hh), fun hh => ⟨⟨by simp [(h10 (by simpa using hh)).1.1], by simp [(h10 (by simpa using hh)).1.2.1], by simp [(h10 (by simpa using hh)).1.2.2]⟩, (h10 (by simpa using hh)).2⟩, fun hh hh' => h11 (by simpa using hh) (by simpa using hh'), fun hh => absurd ((h12 (by simpa using hh)).1 1 (by omega)) (by simp [hfi])⟩
  ·cases ho
   refine r1a 9 (h1 (hpr 1 (by decide))) ?_
   refine i3a W9a rfl rfl (m7a M _ _ c.mem (hMem.keep (S.keep0 M)) (by omega)) ?_
   rintro v w1 ⟨hN, hB⟩
   obtain ⟨G, cs', R1, S1⟩ := hN.open_ (S.later hB) S
   obtain ⟨A, n, c', rfl⟩ := R1.form
   refine L0a ⟨rfl, rfl, rfl, E11, E9, E5, (G, 3, cs'), S1.place 3, fun hh => h0 (by simpa using hh), fun _ => rfl, fun _ => ⟨G, cs', A, n, c', rfl, rfl, R1⟩, fun hh => h3 (by simpa using hh), fun hh => h4 (by simpa using hh), fun hh => h5 (by simpa using hh), fun hh => h6 (by simpa using hh), fun hh => h7 (by simpa using hh), fun hh => h8 (by simpa using hh), fun hh => h9 (by simpa using hh), fun hh => absurd (h10 (by simpa using hh)).1.1 (by simp [hfi]), fun hh hh' => h11 (by simpa using hh) (by simpa using hh'), fun hh => absurd ((h12 (by simpa using hh)).1 2 (by omega)) (by simp [hfi])⟩
  ·cases ho
   refine p6a D5b rfl rfl ?_
   refine L0a ⟨rfl, rfl, rfl, E11, E9, E5, E2, S, fun hh => h0 (by simpa using hh), fun hh => h1 (by simpa using hh), fun hh => h2 (by simpa using hh), fun _ => rfl, fun hh => h4 (by simpa using hh), fun hh => h5 (by simpa using hh), fun hh => h6 (by simpa using hh), fun hh => h7 (by simpa using hh), fun hh => h8 (by simpa using hh), fun hh => h9 (by simpa using hh), fun hh => ⟨⟨by simp [(h10 (by simpa using hh)).1.1], by simp [(h10 (by simpa using hh)).1.2.1], by simp [(h10 (by simpa using hh)).1.2.2]⟩, (h10 (by simpa using hh)).2⟩, fun hh hh' => h11 (by simpa using hh) (by simpa using hh'), fun hh => absurd ((h12 (by simpa using hh)).1 3 (by omega)) (by simp [hfi])⟩
  ·cases ho
   refine r1a 11 (h3 (hpr 3 (by decide))) ?_
   refine s0a Z3a rfl (S.cell 5 rfl rfl) rfl ?_
   refine L0a ⟨rfl, rfl, rfl, E11, E9, E5, E2, S, fun hh => h0 (by simpa using hh), fun hh => h1 (by simpa using hh), fun hh => h2 (by simpa using hh), fun _ => rfl, fun _ => rfl, fun hh => h5 (by simpa using hh), fun hh => h6 (by simpa using hh), fun hh => h7 (by simpa using hh), fun hh => h8 (by simpa using hh), fun hh => h9 (by simpa using hh), fun hh => ⟨⟨by simp [(h10 (by simpa using hh)).1.1], by simp [(h10 (by simpa using hh)).1.2.1], by simp [(h10 (by simpa using hh)).1.2.2]⟩, (h10 (by simpa using hh)).2⟩, fun hh hh' => h11 (by simpa using hh) (by simpa using hh'), fun hh => absurd ((h12 (by simpa using hh)).1 4 (by omega)) (by simp [hfi])⟩
  ·cases ho
   refine r1a 12 (h4 (hpr 4 (by decide))) ?_
   refine i3a W9a rfl rfl (m7a M _ _ c.at_ (hAt.keep (S.keep0 M)) (by omega)) ?_
   rintro v w1 ⟨hN, hB⟩
   obtain ⟨G, cs', R1, S1⟩ := hN.open_ (S.later hB) S
   obtain ⟨A, n, c', rfl⟩ := R1.form
   refine L0a ⟨rfl, rfl, rfl, E11, E9, (G, 3, cs'), E2, S1.place 2, fun hh => h0 (by simpa using hh), fun hh => h1 (by simpa using hh), fun hh => h2 (by simpa using hh), fun hh => h3 (by simpa using hh), fun _ => rfl, fun _ => ⟨G, cs', A, n, c', rfl, rfl, R1⟩, fun hh => h6 (by simpa using hh), fun hh => h7 (by simpa using hh), fun hh => h8 (by simpa using hh), fun hh => h9 (by simpa using hh), fun hh => absurd (h10 (by simpa using hh)).1.2.1 (by simp [hfi]), fun hh hh' => h11 (by simpa using hh) (by simpa using hh'), fun hh => absurd ((h12 (by simpa using hh)).1 5 (by omega)) (by simp [hfi])⟩
  ·cases ho
   refine p6a b5a rfl rfl ?_
   refine L0a ⟨rfl, rfl, rfl, E11, E9, E5, E2, S, fun hh => h0 (by simpa using hh), fun hh => h1 (by simpa using hh), fun hh => h2 (by simpa using hh), fun hh => h3 (by simpa using hh), fun hh => h4 (by simpa using hh), fun hh => h5 (by simpa using hh), fun _ => rfl, fun hh => h7 (by simpa using hh), fun hh => h8 (by simpa using hh), fun hh => h9 (by simpa using hh), fun hh => ⟨⟨by simp [(h10 (by simpa using hh)).1.1], by simp [(h10 (by simpa using hh)).1.2.1], by simp [(h10 (by simpa using hh)).1.2.2]⟩, (h10 (by simpa using hh)).2⟩, fun hh hh' => h11 (by simpa using hh) (by simpa using hh'), fun hh => absurd ((h12 (by simpa using hh)).1 6 (by omega)) (by simp [hfi])⟩
  ·cases ho
   refine r1a 14 (h6 (hpr 6 (by decide))) ?_
   refine s0a h6a rfl (S.cell 5 rfl rfl) rfl ?_
   refine L0a ⟨rfl, rfl, rfl, E11, E9, E5, E2, S, fun hh => h0 (by simpa using hh), fun hh => h1 (by simpa using hh), fun hh => h2 (by simpa using hh), fun hh => h3 (by simpa using hh), fun hh => h4 (by simpa using hh), fun hh => h5 (by simpa using hh), fun _ => rfl, fun _ => rfl, fun hh => h8 (by simpa using hh), fun hh => h9 (by simpa using hh), fun hh => ⟨⟨by simp [(h10 (by simpa using hh)).1.1], by simp [(h10 (by simpa using hh)).1.2.1], by simp [(h10 (by simpa using hh)).1.2.2]⟩, (h10 (by simpa using hh)).2⟩, fun hh hh' => h11 (by simpa using hh) (by simpa using hh'), fun hh => absurd ((h12 (by simpa using hh)).1 7 (by omega)) (by simp [hfi])⟩
  ·cases ho
   refine r1a 15 (h7 (hpr 7 (by decide))) ?_
   refine W7c I4a.slT rfl rfl ?_
   refine L0a ⟨rfl, rfl, rfl, E11, E9, E5, E2, S, fun hh => h0 (by simpa using hh), fun hh => h1 (by simpa using hh), fun hh => h2 (by simpa using hh), fun hh => h3 (by simpa using hh), fun hh => h4 (by simpa using hh), fun hh => h5 (by simpa using hh), fun hh => h6 (by simpa using hh), fun _ => rfl, fun _ => rfl, fun hh => h9 (by simpa using hh), fun hh => ⟨⟨by simp [(h10 (by simpa using hh)).1.1], by simp [(h10 (by simpa using hh)).1.2.1], by simp [(h10 (by simpa using hh)).1.2.2]⟩, (h10 (by simpa using hh)).2⟩, fun hh hh' => h11 (by simpa using hh) (by simpa using hh'), fun hh => absurd ((h12 (by simpa using hh)).1 8 (by omega)) (by simp [hfi])⟩
  ·cases ho
   refine r1a 16 (h8 (hpr 8 (by decide))) ?_
   refine a0c (n := xb) (c := xb) S I4a rfl rfl (by omega) (by omega) (by omega) rfl rfl ?_
   intro g w1 S1 X1 G1
   refine L0a ⟨rfl, rfl, rfl, E11, (some g, 118, List.replicate xb (.slice none 0 0)), E5, E2, S1.place 1, fun hh => h0 (by simpa using hh), fun hh => h1 (by simpa using hh), fun hh => h2 (by simpa using hh), fun hh => h3 (by simpa using hh), fun hh => h4 (by simpa using hh), fun hh => h5 (by simpa using hh), fun hh => h6 (by simpa using hh), fun hh => h7 (by simpa using hh), fun _ => rfl, fun _ => ⟨g, rfl, rfl⟩, fun hh => absurd (h10 (by simpa using hh)).1.2.2 (by simp [hfi]), fun hh hh' => h11 (by simpa using hh) (by simpa using hh'), fun hh => absurd ((h12 (by simpa using hh)).1 9 (by omega)) (by simp [hfi])⟩
  ·cases ho
   obtain ⟨G2, cs2, A2, n2, c2, q2, r2⟩ := h2 (hpr 2 (by decide))
   obtain ⟨G5, cs5, A5, n5, c5, q5, r5⟩ := h5 (hpr 5 (by decide))
   obtain ⟨g9, q9, r9⟩ := h9 (hpr 9 (by decide))
   refine r1a 10 q2 (r1a 13 q5 (r1a 17 q9 ?_))
   refine p1a j5a (vs := [(0, .slice _ _ _), (1, .slice _ _ _), (2, .slice _ _ _)]) (cs := [_, _, _]) rfl rfl rfl rfl ?_
   refine L0a ⟨rfl, rfl, rfl, E11, E9, E5, E2, S, fun hh => h0 (by simpa using hh), fun hh => h1 (by simpa using hh), fun _ => ⟨G2, cs2, A2, n2, c2, rfl, r2⟩, fun hh => h3 (by simpa using hh), fun hh => h4 (by simpa using hh), fun _ => ⟨G5, cs5, A5, n5, c5, rfl, r5⟩, fun hh => h6 (by simpa using hh), fun hh => h7 (by simpa using hh), fun hh => h8 (by simpa using hh), fun _ => ⟨g9, rfl, r9⟩, fun _ => ⟨⟨by simp [hpr 2 (by decide)], by simp [hpr 5 (by decide)], by simp [hpr 9 (by decide)]⟩, rfl⟩, fun hh hh' => h11 (by simpa using hh) (by simpa using hh'), fun hh => absurd ((h12 (by simpa using hh)).1 10 (by omega)) (by simp [hfi])⟩
  ·cases ho
   refine g0a S c6a rfl rfl ?_
   intro g w1 S1 X1 G1
   refine L0a ⟨rfl, rfl, rfl, (some g, 52, [.slice none 0 0, .slice none 0 0, .slice none 0 0]), E9, E5, E2, S1.place 0, fun hh => h0 (by simpa using hh), fun hh => h1 (by simpa using hh), fun hh => h2 (by simpa using hh), fun hh => h3 (by simpa using hh), fun hh => h4 (by simpa using hh), fun hh => h5 (by simpa using hh), fun hh => h6 (by simpa using hh), fun hh => h7 (by simpa using hh), fun hh => h8 (by simpa using hh), fun hh => h9 (by simpa using hh), fun hh => ⟨⟨by simp [(h10 (by simpa using hh)).1.1], by simp [(h10 (by simpa using hh)).1.2.1], by simp [(h10 (by simpa using hh)).1.2.2]⟩, (h10 (by simpa using hh)).2⟩, fun _ _ => ⟨g, rfl, rfl⟩, fun hh => absurd ((h12 (by simpa using hh)).1 11 (by omega)) (by simp [hfi])⟩
  ·cases ho
   have hall : ∀ k, k < 12 → f k = true := fun k hk => hpr k (by revert k; decide)
   obtain ⟨g, q3, rfl⟩ := h11 (hall 11 (by omega)) hfi
   have q10 := (h10 (hall 10 (by omega))).2
   obtain ⟨G2, cs2, A2, n2, c2, q2, r2⟩ := h2 (hall 2 (by omega))
   obtain ⟨G5, cs5, A5, n5, c5, q5, r5⟩ := h5 (hall 5 (by omega))
   obtain ⟨g9, q9, r9⟩ := h9 (hall 9 (by omega))
   rw [q2, q5, q9] at q10
   refine r1a 10 q2 (r1a 13 q5 (r1a 17 q9 (r1a 3 q3 (r1a 18 q10 ?_))))
   refine d0a (kk := 0) (vs := [_, _, _]) S K2a rfl rfl rfl rfl rfl rfl rfl ?_
   intro w1 S1 X1
   dsimp only [n0a, List.set] at S1
   refine L0a ⟨rfl, rfl, rfl, (some g, 52, [.slice A2 n2 c2, .slice A5 n5 c5, .slice (some ⟨g9, 0, none⟩) xb xb]), E9, E5, E2, S1, fun hh => h0 (by simpa using hh), fun hh => h1 (by simpa using hh), fun _ => ⟨G2, cs2, A2, n2, c2, rfl, r2⟩, fun hh => h3 (by simpa using hh), fun hh => h4 (by simpa using hh), fun _ => ⟨G5, cs5, A5, n5, c5, rfl, r5⟩, fun hh => h6 (by simpa using hh), fun hh => h7 (by simpa using hh), fun hh => h8 (by simpa using hh), fun _ => ⟨g9, rfl, r9⟩, fun _ => ⟨⟨by simp [hall 2 (by omega)], by simp [hall 5 (by omega)], by simp [hall 9 (by omega)]⟩, rfl⟩, fun _ hh => by simp at hh, fun _ => ⟨fun k hk => by simp [hall k hk], g, rfl, rfl⟩⟩
 rintro f ε w ⟨e1, e2, E11, E9, E5, E2, S, h0, h1, h2, h3, h4, h5, h6, h7, h8, h9, h10, h11, h12⟩ hall
 obtain ⟨-, g3, q3, rfl⟩ := h12 (hall 12 (by decide))
 obtain ⟨Gm, csm, Am, nm, cm, q10, rfl, Rm⟩ := h2 (hall 2 (by decide))
 obtain ⟨Ga, csa, Aa, na, ca, q13, rfl, Ra⟩ := h5 (hall 5 (by decide))
 obtain ⟨gb, q17, rfl⟩ := h9 (hall 9 (by decide))
 rw [q10, q13, q17] at S
 clear hall h0 h1 h2 h3 h4 h5 h6 h7 h8 h9 h10 h11 h12 q10 q13 q17
 refine fN 1 e1 (fN 2 e2 (fN 3 q3 ?_))
 replace S := S.nils (R := List.replicate xb (none, 121, [])) (fun b hb => by rw [List.eq_of_mem_replicate hb])
 refine fC S.k [.o 5] rfl ⟨rfl,⟨⟩⟩ ?_
 refine wL (fun μk D ε w => D = [] ∧ ∃ k : Nat, ∃ rows : List Ent, ∃ vs : List Value, (k + μk = (c.buf.length)) ∧ (b3a 121 (Gm.toList ++ (Ga.toList ++ ([gb, g3, g2] ++ M))) w rows vs (U2a c.buf [] k)) ∧ St [] w0 w ([(some g3, 52, [.slice Am nm cm, .slice Aa na ca, .slice (some ⟨gb, 0, none⟩) xb xb]), (some gb, 118, vs), (Ga, 3, csa), (Gm, 3, csm), (some g2, 52, [.slice none 0 0, .slice none 0 0, .slice none 0 0]), (some g1, 52, [.slice Xm xm ym, .slice Xa xa ya, .slice Xb xb yb])] ++ rows) ∧ Sl ε [(2, .pointer (some ⟨g2, 0, none⟩)), (3, .pointer (some ⟨g3, 0, none⟩)), (20, .slice Xb xb yb), (21, .int .i64 xb), (22, .int .i64 k)]) (μ := (c.buf.length)) ⟨rfl, 0, List.replicate xb (none, 121, []), List.replicate xb (.slice none 0 0), by omega, by rw [G6a, ← hnb]; exact b3a.nil xb, S, rfl⟩ ?_
 rintro μk D ε w ⟨rfl, k, rows, vs, hk, hR, S, eZ⟩
 refine wK eZ (wB0 rfl ⟨⟩ (fun h23 => ?_) fun h23 => ?_)
 ·obtain ⟨b, b25, p25, _, hxb, hA25, _, _, hc25, hr25⟩ := RdS.get (hBuf) (k) (by omega)
  obtain ⟨Ab25, nb25, cb25, rfl, hBu25, _, _⟩ := f7a.open_ hr25
  have q3 := (hf.bufs k b hxb)
  have hR0 : b3a 121 (Gm.toList ++ (Ga.toList ++ ([gb, g3, g2] ++ M))) w rows vs ((U2a c.buf [] k).set k (b.take 0)) := by rw [List.take_zero, S1c (y7b (z1a hxb))]; exact hR
  refine lC (S.k.a hc25) [.x b25 p25,.f 0 0] rfl ⟨rfl,⟨hA25,by omega⟩,⟨⟩⟩ (wL (fun μj D ε w => D = [] ∧ ∃ j : Nat, ∃ rows2 : List Ent, ∃ vs2 : List Value, (j + μj = (b.length)) ∧ (b3a 121 (Gm.toList ++ (Ga.toList ++ ([gb, g3, g2] ++ M))) w rows2 vs2 ((U2a c.buf [] k).set k (b.take j))) ∧ St [] w0 w ([(some g3, 52, [.slice Am nm cm, .slice Aa na ca, .slice (some ⟨gb, 0, none⟩) xb xb]), (some gb, 118, vs2), (Ga, 3, csa), (Gm, 3, csm), (some g2, 52, [.slice none 0 0, .slice none 0 0, .slice none 0 0]), (some g1, 52, [.slice Xm xm ym, .slice Xa xa ya, .slice Xb xb yb])] ++ rows2) ∧ Sl ε [(2, .pointer (some ⟨g2, 0, none⟩)), (3, .pointer (some ⟨g3, 0, none⟩)), (4, .int .i64 k), (20, .slice Xb xb yb), (21, .int .i64 xb), (22, .int .i64 k), (27, .slice Ab25 nb25 cb25), (28, .int .i64 nb25), (29, .int .i64 j)]) (μ := (b.length)) ⟨rfl, 0, rows, vs, by omega, hR0, S, rfl⟩ ?_)
  rintro μj D ε w ⟨rfl, j, rows2, vs2, _, hR2, S, eZ⟩
  refine wK eZ ?_
  have K := x0a.refl [] w
  have hGl : ∀ g ∈ (Gm.toList ++ (Ga.toList ++ ([gb, g3, g2] ++ M))) ++ u8a rows2, g < w.heap.size := by
   intro g hg
   simp only [List.mem_append, List.mem_cons, List.not_mem_nil, or_false] at hg
   rcases hg with (hg | hg | (rfl | rfl | rfl) | hg) | hg
   ·exact o6b S (k := 3) rfl g hg
   ·exact o6b S (k := 2) rfl g hg
   ·exact S.lt 1 rfl
   ·exact S.lt 0 rfl
   ·exact S.lt 4 rfl
   ·have := hM g hg; have := S.size; omega
   ·obtain ⟨x, hx, hg⟩ := d3a.1 hg; exact (S.own x (List.mem_append_right _ hx) g hg).2.lt
  refine wB0 rfl ⟨⟩ (fun h30 => ?_) fun h30 => ?_
  ·obtain ⟨en, b31, p31, _, hxen, hA31, _, hl31, hc31, hr31⟩ := RdS.get (hBu25) (j) (by omega)
   obtain ⟨_, _, _, _, _, _, rfl, hCe31, hVa31, _, _, _, _⟩ := a1a.open_ hr31
   have q4 := (q3.2.1 en (h0a hxen)).len
   have q5 := (q3.2.1 en (h0a hxen)).even
   unfold G0a.even at q5
   refine lO (S.k.a hc31) [.x b31 p31,.v 0] rfl ⟨⟨rfl,hl31⟩,⟨hA31,by omega⟩,⟨⟩⟩ (g0a S n8a rfl rfl ?_)
   intro g7 w7 S7 X7 G7
   have GK7 := Nat.le_trans K.size G7
   replace K := K.trans X7
   refine d0a (kk := 0) (vs := [_, _]) S7 I9a rfl rfl rfl rfl rfl rfl rfl ?_
   intro w7_3 S7_3 X7_3
   dsimp only [n0a, List.set] at S7_3
   replace K := K.fresh X7_3 (by first | exact GK7)
   obtain ⟨G, cs', v, hrk, hvk, hrow⟩ := hR2.2.2 k (b.take j) (by rw [List.getElem?_set_self (by simp; omega)])
   obtain ⟨_, _, rfl⟩ := hrow.form
   have hvl : vs2.length = c.buf.length := by have := hR2.2.1; simpa using this
   have hlen0 : (b.take j).length = j := by rw [List.length_take]; omega
   have hGb : ∀ g ∈ G.toList, g ∈ (Gm.toList ++ (Ga.toList ++ ([gb, g3, g2] ++ M))) ++ u8a rows2 := fun g hg => List.mem_append_right _ (d3a.2 ⟨_, List.mem_of_getElem? hrk, by cases G <;> simp at hg ⊢; exact hg.symm⟩)
   refine lC0 rfl ⟨⟩ (O6b b0a (fun i => [0, 1, 2, 3, 4, 5, 6, 7, 8, 9, 11, 12, 14, 17].contains i) [0, 1, 2, 3, 4, 5, 6, 7, 8, 9, 10, 11, 12, 13, 14, 15, 16, 17] 18 (by kernel_rfl) (by kernel_rfl) (clF (A := [_, _, _, _, _, _, _]) (R := rows2) S7_3 G.toList) _ rfl ?_)
   have SR8 := S7_3.drew
   have YR8 : x0a [] w7_3 w7_3.drew := y3a _ _
   generalize w7_3.drew = wR8 at SR8 YR8 ⊢
   have XR8 : x0a (G.toList) _ _ := YR8.of_nil
   replace K := K.trans YR8
   refine O2a ⟨(St.front (A := [_, _, _, _, _, _, _]) SR8), XR8⟩ rfl rfl rfl ?_
   refine U0a b5a rfl rfl ?_
   refine q0a ?_
   refine O2a ⟨(St.front (A := [_, _, _, _, _, _, _]) SR8), XR8⟩ rfl rfl rfl ?_
   refine j0a h6a rfl (fun w1 hw => by exact hw.1.cell 1 rfl rfl) rfl ?_
   refine q0a ?_
   refine O2a ⟨(St.front (A := [_, _, _, _, _, _, _]) SR8), XR8⟩ rfl rfl rfl ?_
   refine D1a (v := .int .i64 _) rfl rfl ?_
   refine q0a ?_
   refine O2a ⟨(St.front (A := [_, _, _, _, _, _, _]) SR8), XR8⟩ rfl rfl rfl ?_
   refine U0a b5a rfl rfl ?_
   refine q0a ?_
   refine O2a ⟨(St.front (A := [_, _, _, _, _, _, _]) SR8), XR8⟩ rfl rfl rfl ?_
   refine j0a h6a rfl (fun w1 hw => by exact hw.1.cell 1 rfl rfl) rfl ?_
   refine q0a ?_
   refine O2a ⟨(St.front (A := [_, _, _, _, _, _, _]) SR8), XR8⟩ rfl rfl rfl ?_
   refine D1a (v := .int .i64 _) rfl rfl ?_
   refine q0a ?_
   refine O2a ⟨(St.front (A := [_, _, _, _, _, _, _]) SR8), XR8⟩ rfl rfl rfl ?_
   refine p0a I4a.slT rfl (by rfl) rfl (by omega) (by omega) rfl ?_
   refine q0a ?_
   refine O2a ⟨(St.front (A := [_, _, _, _, _, _, _]) SR8), XR8⟩ rfl rfl rfl ?_
   refine j0a G9a rfl (fun w1 hw => by exact hw.1.cell 2 rfl ((congrArg (vs2[·]?) (show 0 + (k : Int).toNat * 1 = k by simp)).trans hvk)) rfl ?_
   refine q0a ?_
   refine O2a ⟨(St.front (A := [_, _, _, _, _, _, _]) SR8), XR8⟩ rfl rfl rfl ?_
   refine U0a C6b rfl rfl ?_
   refine q0a ?_
   refine O2a ⟨(St.front (A := [_, _, _, _, _, _, _]) SR8), XR8⟩ rfl rfl rfl ?_
   refine j0a Z3a rfl (fun w1 hw => by exact hw.1.cell 0 rfl rfl) rfl ?_
   refine q0a ?_
   refine A6b ⟨(St.front (A := [_, _, _, _, _, _, _]) SR8), XR8⟩ rfl rfl rfl rfl ?_
   have hG43 : ∀ g ∈ (Gm.toList ++ (Ga.toList ++ ([gb, g3, g2] ++ M))) ++ u8a rows2, g < wR8.heap.size := fun g hg => Nat.lt_of_lt_of_le (hGl g hg) K.size
   refine C0a SR8 W9a rfl rfl (b3b _ M _ _ en.cells (hCe31.keep (SR8.keep0 M)) (by omega) hG43) ?_
   rintro v43 w43 hC43 S43 X43
   have XCw43 := XR8.trans (X43.mono (by simp))
   replace K := K.trans X43
   obtain ⟨_, _, _, rfl⟩ := hC43.form
   refine L0a ⟨rfl, ?_⟩
   refine O2a ⟨(St.front (A := [_, _, _, _, _, _, _]) S43), XCw43⟩ rfl rfl rfl ?_
   refine U0a k6b rfl rfl ?_
   refine q0a ?_
   refine O2a ⟨(St.front (A := [_, _, _, _, _, _, _]) S43), XCw43⟩ rfl rfl rfl ?_
   refine j0a Z3a rfl (fun w1 hw => by exact hw.1.cell 0 rfl rfl) rfl ?_
   refine q0a ?_
   refine A6b ⟨(St.front (A := [_, _, _, _, _, _, _]) S43), XCw43⟩ rfl rfl rfl rfl ?_
   have hG46 : ∀ g ∈ (Gm.toList ++ (Ga.toList ++ ([gb, g3, g2] ++ M))) ++ u8a rows2, g < w43.heap.size := fun g hg => Nat.lt_of_lt_of_le (hGl g hg) K.size
   refine C0a S43 W9a rfl rfl (b3b _ M _ _ en.values (hVa31.keep (S43.keep0 M)) (by omega) hG46) ?_
   rintro v46 w46 hC46 S46 X46
   have XCw46 := XCw43.trans (X46.mono (by simp))
   replace K := K.trans X46
   replace hC43 := hC43.keep (X46.of_nil)
   obtain ⟨_, _, _, rfl⟩ := hC46.form
   refine L0a ⟨rfl, ?_⟩
   refine O2a ⟨(St.front (A := [_, _, _, _, _, _, _]) S46), XCw46⟩ rfl rfl rfl ?_
   refine Q2a N6c (vs := [(0, .slice _ _ _), (1, .slice _ _ _)]) (cs := [_, _]) rfl rfl rfl rfl ?_
   refine q0a ?_
   refine A6b ⟨(St.front (A := [_, _, _, _, _, _, _]) S46), XCw46⟩ rfl rfl rfl rfl ?_
   refine t0a S46 q3a (vs := [.agg _]) (cs := [_, _]) (by rfl) rfl rfl rfl rfl rfl rfl ?_
   intro g48 w48 S48 X48 G48
   have XCw48 := XCw46.trans (X48.mono (by simp))
   replace K := K.trans X48
   replace hC43 := hC43.keep (X48.of_nil)
   replace hC46 := hC46.keep (X48.of_nil)
   refine L0a ⟨rfl, ?_⟩
   refine A6b ⟨(St.front (A := [_, _, _, _, _, _, _, _]) S48).tail, XCw48⟩ rfl rfl rfl rfl ?_
   have hR3 := hR2.keep (K.of_nil)
   obtain ⟨G', cs'', _, hrk', hvk', hrow2⟩ := hR3.2.2 k (b.take j) (by rw [List.getElem?_set_self (by simp; omega)])
   obtain ⟨rfl, rfl⟩ : G = G' ∧ cs' = cs'' := by rw [hrk] at hrk'; cases hrk'; exact ⟨rfl, rfl⟩
   obtain rfl := Option.some.inj (hvk.symm.trans hvk')
   refine q1a i2a (k := 8 + k) (e1 := en) S48 q3a (by decide) ((r7c [_, _, _, _, _, _, _, _] rows2 k 8 rfl).trans hrk) hrow2 rfl rfl (S48.cells 0 rfl) ⟨_, _, rfl, hC43.more (by omega) (fun g hg => .inl (by rcases List.mem_append.1 hg with h | h; exact hGb g h; exact h)), hC46.more (by omega) (fun g hg => .inl (by rcases List.mem_append.1 hg with h | h; exact hGb g h; exact h))⟩ (by omega) rfl ?_
   intro v49 G49 cs49 w49 S49' hrow49 X49 F49
   have S49 : St [] w0 w49 ([_, _, _, _, _, _, _, _] ++ rows2.set k (G49, 121, cs49)) := (Y9c [_, _, _, _, _, _, _, _] rows2 k 8 rfl _) ▸ S49'
   have S49b := S49.tail
   have XC49 := XCw48.trans X49
   have hR49 : b3a 121 (Gm.toList ++ (Ga.toList ++ ([gb, g3, g2] ++ M))) w49 (rows2.set k (G49, 121, cs49)) (vs2.set k v49) ((U2a c.buf [] k).set k (b.take (j + 1))) := by
    have := hR3.put (k := k) (by simp; omega) hrow49 X49 F49 hrk
    rw [List.set_set] at this
    rw [e1a hxen]; exact this
   obtain ⟨_, _, hv49⟩ := hrow49.form
   subst hv49
   refine L0a ⟨rfl, ?_⟩
   refine O2a ⟨(St.front (A := [_, _, _, _, _, _, _]) S49b), XC49⟩ rfl rfl rfl ?_
   refine p0a I4a.slT rfl (by rfl) rfl (by omega) (by omega) rfl ?_
   refine q0a ?_
   refine D0b ⟨(St.front (A := [_, _, _, _, _, _, _]) S49b), XC49⟩ ?_
   first | refine u0a (kk := 2) S49b C0c rfl (by conv => lhs; whnf) rfl rfl (by (simp; omega)) ?_
   intro w8_18 S8_18 X8_18
   replace hR49 := hR49.keep (X8_18.mono (by simp))
   refine L0a ⟨rfl, ?_⟩
   refine fP0 rfl ⟨by omega,⟨⟩⟩ ⟨μj - 1, by omega, rfl, (j + 1), (rows2.set k (G49, 121, cs49)), (vs2.set k _), (by omega), (hR49), (S8_18.tail.setEnt 1 rfl (by simp)), rfl⟩
  refine lP0 rfl ⟨by omega,⟨⟩⟩ ?_
  refine ⟨μk - 1, by omega, rfl, (k + 1), (rows2), (vs2), (by omega), (by rw [← d8a hxb rfl]; rw [List.take_of_length_le (by omega)] at hR2; exact hR2), S, rfl⟩
 refine lO0 rfl ⟨⟩ (X1a t1a rfl (S.cells 0 rfl) rfl rfl ?_)
 first | refine d0a (kk := 4) (vs := [_, _, _]) S K2a rfl rfl rfl rfl rfl rfl rfl ?_
 intro w11_1 S11_1 X11_1
 dsimp only [n0a, List.set] at S11_1
 replace hR := hR.keep (X11_1.mono (by simp))
 refine lR0 rfl ⟨⟩ ?_
 rw [O7a _ _ (by omega)] at hR
 refine y1a (n := 3) rfl t1a rfl (S11_1.cells 4 rfl) rfl ⟨⟨Gm, Ga, csm, csa, _, _, gb, rows, vs, by rw [← hnb], Rm, Ra, S11_1.sublist ?_, hR.less ?_⟩, S11_1.fin⟩
 ·exact .cons _ (.cons_cons _ (.cons_cons _ (.cons_cons _ (.cons _ (.cons _ (List.Sublist.refl _))))))
 ·intro g hg
  simp only [List.mem_append, List.mem_cons] at hg ⊢
  rcases hg with h | h | h | h <;> simp [h]
end Go.Proofs.YtjjmdcnmeommbaaGreatDoor
namespace Go.Fw
open Go.RowKit
section
variable {P : Program} {r : Option Nat} {N : Nat} {D : List Deferred} {e : Env} {w w0 : World} {ops : Array Oper} {rest : List Oper} {K : List Deferred → Env → World → Prop} {L : List Ent} {M : List Nat}
variable {d : Nat} {t : TypeId} {p : String} {af : Array Edge} {x y : Operand} {kd : IntKind}
theorem U3c {o : Oper} {v : Value} {w' : World} (hg : o.guard = none) (hdst : o.dst = none) (hdef : ∀ c, o.op ≠ .defer c)
 (hrun : (execOp (ev e) o).run P w = .ok (.value v) w') (h : WL P r N ops rest K D e w') : WL P r N ops (o :: rest) K D e w := by
 unfold WL at *; intro a Q hs hdd he hK
 have hrec := h a Q hs hdd he hK
 simp only [wpListIn, Region.wanted, hg, if_true]
 refine ⟨w0a o w _, ?_⟩
 have : Oper.semAt (fc r).round a.eval o = execOp (ev e) o := by rw [Oper.semAt_eq _ _ _ hdef, a2a, he]
 rw [this, hrun, Oper.uponIn_value, hdst]
 exact hrec
theorem q3b {ty el size bytes k n m c b o g cap : Nat} {z : Value} {cs xs news : List Value} (S : St M w0 w L) (hS : SlZ P ty el size z bytes) (hk : L[k]? = some (some g, el, cs)) (hR : z3a (some g) size n cs (.slice (some ⟨g, 0, none⟩) n cap) xs)
 (hx : ev e x = .slice (some ⟨g, 0, none⟩) n cap) (hy : ev e y = .slice (some ⟨b, o, none⟩) m c) (hnews : o1a w b o news) (hl : news.length = m * size) (h1 : ∀ u ∈ news, u.oneCell' = true) (hroom : n + m ≤ cap) (hd : Nat.ble (d + 1) N = true)
 (h : ∀ cs' w1, St M w0 w1 (L.set k (some g, el, cs')) → z3a (some g) size (n + m) cs' (.slice (some ⟨g, 0, none⟩) (n + m) cap) (xs ++ news) → x0a [g] w w1 → WL P r N ops rest K D (upd e d (.slice (some ⟨g, 0, none⟩) (n + m) cap)) w1) :
 WL P r N ops (⟨some d, .call { callee := .builtin .append, args := #[x, y], argTypes := #[ty, ty] }, t, p, af, none⟩ :: rest) K D e w := by
 obtain ⟨i, hi, _, hsz, _⟩ := hS.parts
 obtain ⟨hown, _⟩ := hR.own S hk
 obtain ⟨w1, hrun, hown', hgrow⟩ := run_append_fits (P := P) w 0 ty t el i size hS.und hi hsz g n cap xs hown ⟨b, o, none⟩ m c news hl (fun j u hj => by rw [Addr.add_lit]; exact hnews j u hj) h1 hroom
 obtain ⟨G', cs', hR', hG', hnew⟩ := i8a hown'
 obtain rfl : G' = some g := hG'.symm
 obtain ⟨_, hblk⟩ := hnew g rfl
 have hsame : ∀ q, q < w.heap.size → some g ≠ some q → w1.heap[q]? = w.heap[q]? := fun q hq hne => hgrow.block q hq hne.symm
 have hB : F0a [g] w w1 := ⟨hgrow.os, hgrow.tape, hgrow.output, hgrow.size, fun q hq hm => hsame q hq (fun hh => hm (by cases hh; simp))⟩
 refine X0a (v := .slice (some ⟨g, 0, none⟩) (n + m) cap) (w' := w1) rfl rfl hd (by simp) ?_ (h cs' w1 (S.changed1 k hk hB hblk) hR' ⟨hgrow.size, fun q hq hm => hsame q hq (fun hh => hm (by cases hh; simp))⟩)
 simp [execOp, resolve, invoke, builtin, hx, hy, hrun]
theorem f2c {ty el size bytes g o c tb kk : Nat} {z : Value} {cs : List Value} (S : St M w0 w L) (hS : SlZ P ty el size z bytes) (hx : ev e x = .slice (some ⟨g, o, none⟩) 1 c) (hk : L[kk]? = some (some g, tb, cs)) (ho : o + z.cells.toList.length ≤ cs.length) (h1 : ∀ v ∈ z.cells.toList, t4c v = true)
 (h : ∀ w1, St M w0 w1 (L.set kk (some g, tb, n0a cs o z.cells.toList)) → x0a [g] w w1 → WL P r N ops rest K D e w1) :
 WL P r N ops (⟨none, .call { callee := .builtin .clear, args := #[x], argTypes := #[ty] }, t, p, af, none⟩ :: rest) K D e w := by
 obtain ⟨_, hi, hz, _, _⟩ := hS.parts
 obtain ⟨w1, h2, h3, h4⟩ := St.setN (P := P) (o := o) z.cells.toList 0 cs w L hk S (by simpa using ho) h1
 have hzc : (Builtin.zeroCells z.cells 1).toList = z.cells.toList := by
  apply List.ext_getElem
  ·simp [Builtin.zeroCells]
  ·intro j q1 q2
   simp [Builtin.zeroCells] at q1 q2 ⊢
   simp [Nat.mod_eq_of_lt q2, q2]
 have hzv : ∀ w, (zeroValue el).run P w = .ok z w := fun w => by simp [zeroValue, typeInfo, hi, hz]
 refine U3c (v := .tuple #[]) rfl rfl (by simp) ?_ (h w1 h3 h4)
 simp [execOp, resolve, invoke, builtin, Builtin.clear_, hx, run_underlying hS.und, hzv, hzc, h2]
theorem H2c {ty size lo hi mx c n o b : Nat} {xl xh xm : Operand} (hT : SlT P ty size) (hx : ev e x = .slice (some ⟨b, o, none⟩) n c) (hl : ev e xl = .int kd (lo : Int)) (hh : ev e xh = .int kd (hi : Int)) (hm : ev e xm = .int kd (mx : Int)) (h1 : lo ≤ hi) (h2 : hi ≤ mx) (h3 : mx ≤ c) (hd : Nat.ble (d + 1) N = true)
 (h : ∀ v, WL P r N ops rest K D (upd e d v) w) :
 WL P r N ops (⟨some d, .slice ty x (some xl) (some xh) (some xm), t, p, af, none⟩ :: rest) K D e w := by
 obtain ⟨_, hu, hsz⟩ := i4a hT
 have e0 : (0 : Int) ≤ (mx : Int) ∧ (mx : Int) ≤ (c : Int) := by omega
 have e1 : (0 : Int) ≤ (lo : Int) ∧ (lo : Int) ≤ (hi : Int) := by omega
 have e2 : (0 : Int) ≤ (hi : Int) ∧ (hi : Int) ≤ (mx : Int) := by omega
 refine X0a (v := .slice (if mx = lo then some ⟨b, o, none⟩ else some ⟨b, o + lo * size, none⟩) (hi - lo) (mx - lo)) rfl rfl hd (by simp) ?_ (h _)
 have hrun : (Instr.slice ty (.slice (some ⟨b, o, none⟩) n c) (some (.int kd (lo : Int))) (some (.int kd (hi : Int))) (some (.int kd (mx : Int)))).run P w = .ok (.slice (if mx = lo then some ⟨b, o, none⟩ else some ⟨b, o + lo * size, none⟩) (hi - lo) (mx - lo)) w := by
  simp [Instr.slice, Instr.sliceBounds, Instr.sliceBound, asIntOf, run_underlying hu, hsz, e0, e1, e2, h1, h2, h3, Addr.add_lit]
 simp only [execOp, Instr.sliceAt, Sem.run_bind, run_underlying hu, Result.andThen_ok, hx, Option.map_some, hl, hh, hm, hrun, Sem.run_pure]
end
theorem s3b {size : Nat} : ∀ (css : List (List Value)) (i : Nat), (∀ x ∈ css, x.length = size) → css.flatten.take (i * size) = (css.take i).flatten
 | [], i, _ => by simp
 | x :: css, 0, _ => by simp
 | x :: css, i + 1, h => by
   have hx := h x (by simp)
   rw [List.flatten_cons, List.take_succ_cons, List.flatten_cons, ← s3b css i (fun y hy => h y (by simp [hy])), Nat.add_mul, Nat.one_mul, List.take_append, hx, Nat.add_sub_cancel, List.take_of_length_le (by omega)]
theorem C3b {size : Nat} : ∀ (css : List (List Value)) (i : Nat), (∀ x ∈ css, x.length = size) → css.flatten.drop (i * size) = (css.drop i).flatten
 | [], i, _ => by simp
 | x :: css, 0, _ => by simp
 | x :: css, i + 1, h => by
   have hx := h x (by simp)
   rw [List.flatten_cons, List.drop_succ_cons, ← C3b css i (fun y hy => h y (by simp [hy])), Nat.add_mul, Nat.one_mul, List.drop_append, hx, Nat.add_sub_cancel, List.drop_eq_nil_of_le (by omega), List.nil_append]
theorem Z0b : ∀ (vs cs : List Value) (o : Nat), (n0a cs o vs).length = cs.length
 | [], _, _ => rfl
 | v :: vs, cs, o => by rw [n0a, Z0b vs, List.length_set]
theorem y9a : ∀ (vs cs : List Value) (o n : Nat), n ≤ o → (n0a cs o vs).take n = cs.take n
 | [], _, _, _, _ => rfl
 | v :: vs, cs, o, n, h => by rw [n0a, y9a vs _ _ _ (by omega), List.take_set_of_le h]
end Go.Fw
namespace Go.Proofs.YtjjmdcnmeommbaaGreatDoor
open Go.Fw Go.RowKit
theorem Q0c (g cap n i : Nat) (css : List (List Value)) (cs : List Value) (w0 : World) (hB : r0a w0 (g, 121, cs)) (hR : z3a (some g) 2 n cs (.slice (some ⟨g, 0, none⟩) n cap) css.flatten) (hn : css.length = n) (h2 : ∀ x ∈ css, x.length = 2) (h1 : ∀ u ∈ css.flatten, u.oneCell' = true) (hi : i < n) (hbig : n ≤ 1000000) :
 J0a Tryz.prog 178 #[.slice (some ⟨g, 0, none⟩) n cap, .int .i64 i, .int .i64 ((i : Int) + 1)] w0 fun v w' => v = .slice (some ⟨g, 0, none⟩) (n - 1) cap ∧ F0a [g] w0 w' ∧ ∃ cs', r0a w' (g, 121, cs') ∧ z3a (some g) 2 (n - 1) cs' (.slice (some ⟨g, 0, none⟩) (n - 1) cap) (css.eraseIdx i).flatten := by
 have S := St.borrow1 hB
 obtain ⟨_, r2⟩ := hR
 obtain ⟨hcap, hmax, hcl, htk⟩ : n ≤ cap ∧ cap ≤ maxLen ∧ cs.length = cap * 2 ∧ cs.take (n * 2) = css.flatten := by
  rcases r2 with ⟨h, _⟩ | ⟨g', cap', h, h', a, b, c, d⟩
  ·cases h
  ·cases h; cases h'; exact ⟨a, b, c, d⟩
 have hpre : z3a (some g) 2 i cs (.slice (some ⟨g, 0, none⟩) i cap) (css.take i).flatten := by
  refine ⟨?_, .inr ⟨g, cap, rfl, rfl, by omega, hmax, hcl, ?_⟩⟩
  ·rw [y4a _ (fun x hx => h2 x (List.mem_of_mem_take hx)), List.length_take]; congr 1; omega
  ·rw [← s3b css i h2, ← htk, List.take_take]; congr 1; omega
 have hsrc : ∃ o, (if cap = i + 1 then (⟨g, 0, none⟩ : Addr) else ⟨g, 0 + (i + 1) * 2, none⟩) = ⟨g, o, none⟩ ∧ o1a w0 g o (css.drop (i + 1)).flatten := by
  by_cases hc : cap = i + 1
  ·refine ⟨0, by rw [if_pos hc], ?_⟩
   rw [List.drop_eq_nil_of_le (by omega)]
   intro j v hj; simp at hj
  ·refine ⟨0 + (i + 1) * 2, by rw [if_neg hc], fun j v hj => ?_⟩
   rw [← C3b css (i + 1) h2, ← htk, List.getElem?_drop, List.getElem?_take] at hj
   split at hj
   ·exact hB.cell (by rw [Nat.zero_add]; exact hj)
   ·cases hj
 obtain ⟨_, hos, hcells⟩ := hsrc
 have hnl : (css.drop (i + 1)).flatten.length = (n - (i + 1)) * 2 := by rw [y4a _ (fun x hx => h2 x (List.mem_of_mem_drop hx)), List.length_drop, hn]
 have hone : ∀ u ∈ (css.drop (i + 1)).flatten, u.oneCell' = true := fun u hu => h1 u (by
  obtain ⟨x, hx, hu⟩ := List.mem_flatten.1 hu
  exact List.mem_flatten.2 ⟨x, List.mem_of_mem_drop hx, hu⟩)
 have hcast : ((i : Int) + 1) = ((i + 1 : Nat) : Int) := by omega
 refine a0a Tryz.func178 rfl Tryz.ntmps178 rfl ?_
 refine wO0 rfl ⟨⟩ ?_
 refine H2c (lo := i) (hi := i + 1) (mx := n) q3a.slT rfl rfl (by rw [← hcast]; rfl) rfl (by omega) (by omega) hcap rfl ?_
 intro v13
 refine lB0 rfl ⟨⟩ (fun h16 => by exfalso; omega) fun h16 => ?_
 refine lC0 rfl ⟨⟩ (A0a b0a [0, 1, 2, 3, 4, 5] [] [6, 7] (by kernel_rfl) rfl (Cl _ _ _ _) (Cl.start S) ?_)
 refine qO0 rfl ⟨⟩ (z4b (lo := 0) (hi := i) (kd := .i64) q3a.slT rfl (.inl ⟨rfl, rfl⟩) (.inr rfl) (by omega) (by omega) hcap rfl ?_)
 simp only [Nat.zero_mul, Nat.add_zero, Nat.sub_zero, ite_self]
 refine qO0 rfl ⟨⟩ ?_
 refine z4b (lo := i + 1) (hi := n) (kd := .i64) q3a.slT rfl (.inr (by rw [← hcast]; rfl)) (.inl ⟨rfl, rfl⟩) (by omega) (by omega) hcap rfl ?_
 rw [hos]
 refine qD rfl ⟨⟩ ?_
 rintro wR5 ⟨SR5, XR5⟩
 refine q3b (k := 0) SR5 q3a rfl hpre rfl rfl (hcells.keep (M := []) XR5 (by simp)) hnl hone (by omega) rfl ?_
 intro cs26 w26 S26 R26 X26
 have e26 : i + (n - (i + 1)) = n - 1 := by omega
 rw [e26] at R26 ⊢
 refine lO0 rfl ⟨⟩ (q1b (lo := n - 1) (hi := n) (kd := .i64) q3a.slT rfl (.inr rfl) (.inr rfl) (by omega) (by omega) (by omega) rfl ?_)
 rw [if_neg (show ¬ cap = n - 1 by omega), show n - (n - 1) = 1 by omega]
 obtain ⟨rc, rt⟩ : cs26.length = cap * 2 ∧ cs26.take ((n - 1) * 2) = (css.take i).flatten ++ (css.drop (i + 1)).flatten := by
  rcases R26.2 with ⟨h, _⟩ | ⟨g', cap', h, h', a, b, c, d⟩
  ·cases h
  ·cases h; cases h'; exact ⟨c, d⟩
 refine f2c (kk := 0) S26 q3a rfl rfl (by rw [rc]; simp [Value.cells]; omega) (by simp [Value.cells, t4c]) ?_
 intro w65 S65 X65
 refine lT rfl ⟨⟩ rfl ⟨rfl, S65.below, _, S65.blk 0 rfl, ?_, .inr ⟨g, cap, rfl, rfl, by omega, hmax, ?_, ?_⟩⟩
 ·rw [y4a _ (fun x hx => h2 x (List.mem_of_mem_eraseIdx hx)), List.length_eraseIdx, if_pos (by omega), hn]
 ·rw [Z0b]; exact rc
 ·rw [y9a _ _ _ _ (by omega), rt, List.eraseIdx_eq_take_drop_succ, List.flatten_append]
theorem D9b (p : e0a) (hp : g1a p) (c : B0a) (t i : Nat) (b : List G0a) (M : List Nat) (w0 : World) (hM : ∀ g ∈ M, g < w0.heap.size) (cs xs : List Value) (m : Int) (hI : InP p M w0 cs) (hX : K0a M w0 c xs) (hf : b6a p c) (hxb : c.buf[t]? = some b) (hi : i < b.length) :
 J0a Tryz.prog 138 #[.agg (xs ++ (cs ++ [Value.int .i64 m])).toArray, .int .i64 t, .int .i64 i] w0 fun v w' => (∃ ys, v = .agg ys.toArray ∧ K0a M w' (O5a c t i) ys) ∧ Below w0.heap.size w0 w' := by
 obtain ⟨_, _, _, _, _, _, _, _, _, _, _, _, rfl, -⟩ := hI.rd.open_
 obtain ⟨_, _, _, _, _, _, _, _, _, rfl, _, _, _, _, _, _, _, _, _⟩ := hX.open_
 have S := St.refl w0
 have f1 := hf.mem.len
 have n1 := hp.ncells
 have n2 := hp.nthreads
 have f3 := hf.nbuf
 have ht := z1a hxb
 have hbo := hf.bufs t b hxb
 have hf' := M0b hf t i
 obtain ⟨en, hxen⟩ : ∃ en, b[i]? = some en := ⟨b[i], List.getElem?_eq_getElem hi⟩
 have q1 := hbo.2.1 en (h0a hxen)
 have q2 := q1.i64s
 have q3 : 0 < c.mem.length := by
  cases hcl : en.cells with
  | nil => exact absurd hcl q1.some_
  | cons x l => have := q2 x (by rw [hcl]; simp); omega
 have hce : O5a c t i = ⟨I3a c.mem en, c.at_, c.buf.set t (b.eraseIdx i)⟩ := by unfold O5a; rw [getD_some hxb, getD_some hxen]
 rw [hce] at hf' ⊢
 refine a0a Tryz.func138 rfl Tryz.ntmps138 rfl ?_
 refine wO0 rfl ⟨⟩ (m0a S (by conv => lhs; whnf) rfl ?_)
 intro g3 w3 S3 X3 G3
 refine g0a S3 c6a rfl rfl ?_
 intro g6 w6 S6 X6 G6
 refine lO S6.k [.o 1] rfl ⟨rfl,⟨⟩⟩ ?_
 have hX2 : K0a (g6 :: g3 :: M) w6 c _ := (hX.more (fun g hg => by rcases List.mem_cons.1 hg with rfl | hg; exact .inr (by simpa using S6.new 0 rfl); rcases List.mem_cons.1 hg with rfl | hg; exact .inr (by simpa using S6.new 1 rfl); exact .inl hg)).keep (S6.keep0 _)
 have hM2 : ∀ g ∈ g6 :: g3 :: M, g < w6.heap.size := fun g hg => by
  rcases List.mem_cons.1 hg with rfl | hg
  ·exact S6.lt 0 rfl
  ·rcases List.mem_cons.1 hg with rfl | hg
   ·exact S6.lt 1 rfl
   ·have := hM g hg; have := S6.size; omega
 refine i3a n8b rfl rfl (m6b p hp c (g6 :: g3 :: M) _ hM2 _ hX2 hf) ?_
 rintro v10 w10 ⟨⟨_, _, _, _, _, _, _, rows, vs, rfl, Rm, Ra, S10', hR⟩, -⟩
 have S10 := S6.joinR S10'
 obtain ⟨gm, pad, rfl, rfl, rfl, hmx⟩ := Rm.pad q3
 obtain ⟨_, _, _, rfl⟩ := Ra.form
 have K := x0a.refl [] w10
 refine g0a S10 c6a rfl rfl ?_
 intro g7 w7 S7 X7 G7
 have GK7 := Nat.le_trans K.size G7
 replace K := K.trans X7
 refine d0a (kk := 0) (vs := [_, _, _]) S7 K2a rfl rfl rfl rfl rfl rfl rfl ?_
 intro w1_4 S1_4 X1_4
 dsimp only [n0a, List.set] at S1_4
 replace K := K.fresh X1_4 (by first | exact GK7)
 have hR2 := hR.keep (K.of_nil)
 obtain ⟨G, cs', v, hrk, hvk, hrow⟩ := hR2.2.2 t b hxb
 obtain ⟨g, cap, _, rfl, rfl, _, hcE, hrE⟩ := hrow.get S1_4 (k := 6 + t) ((r7c [_, _, _, _, _, _] rows t 6 rfl).trans hrk) hxen
 obtain ⟨_, _, _, _, _, _, rfl, -⟩ := hrE.open_
 have hvl : vs.length = c.buf.length := hR2.2.1
 refine lC0 rfl ⟨⟩ (A0a b0a [0, 1, 2, 3, 4, 5, 6, 7, 8, 9] [] [10] (by kernel_rfl) rfl (Cl _ _ _ _) (Cl.start S1_4) ?_)
 refine qO S1_4.q [.o 0,.o 0] rfl ⟨rfl,rfl,⟨⟩⟩ (p0a I4a.slT rfl (by rfl) rfl (by omega) (by omega) rfl ?_)
 refine j0a G9a rfl (fun w1 hw => by exact hw.1.cell 1 rfl ((congrArg (vs[·]?) (show 0 + (t : Int).toNat * 1 = t by simp)).trans hvk)) rfl ?_
 refine qO0 rfl ⟨⟩ (p0a q3a.slT rfl (by rfl) rfl (by omega) (by omega) rfl ?_)
 refine I2a J1b rfl (fun w1 hw => hcE.keep (M := []) hw.2 (by simp)) (by rfl) rfl ?_
 refine qD rfl ⟨⟩ ?_
 rintro wR2 ⟨SR2, XR2⟩
 refine i3a F8b rfl rfl (T6b en c.mem gm _ pad (gm :: []) _ _ (a1a.keep XR2.of_nil _ _ (a1a.more (fun x hx => by simp at hx; subst hx; simp) _ _ hrE)) (by simp) (SR2.blk 3 rfl) q1.even (fun x hx => by have := q2 x hx; omega)) ?_
 rintro v21 w21 ⟨hb21, B21⟩
 have S21 := SR2.changed1 3 rfl B21 hb21
 have X21 : x0a [gm] _ w21 := x0a.of_belowB B21
 have hR3 := (hR2.keep XR2.of_nil).keep (X21.mono (by simp))
 refine lC0 rfl ⟨⟩ (O6b b0a (fun i => [0, 1, 2, 3, 4, 5, 6, 7, 8, 9, 10, 12].contains i) [0, 1, 2, 3, 4, 5, 6, 7, 8, 9, 10, 11, 12] 13 (by kernel_rfl) (by kernel_rfl) (clF (A := [_, _, _, _, _, _]) (R := rows) S21 [g]) _ rfl ?_)
 have SR3 := S21.drew
 have YR3 : x0a [] w21 w21.drew := y3a _ _
 generalize w21.drew = wR3 at SR3 YR3 ⊢
 have XR3 : x0a ([g]) _ _ := YR3.of_nil
 refine O2a ⟨(St.front (A := [_, _, _, _, _, _]) SR3), XR3⟩ rfl rfl rfl ?_
 refine U0a b5a rfl rfl ?_
 refine q0a ?_
 refine O2a ⟨(St.front (A := [_, _, _, _, _, _]) SR3), XR3⟩ rfl rfl rfl ?_
 refine j0a h6a rfl (fun w1 hw => by exact hw.1.cell 0 rfl rfl) rfl ?_
 refine q0a ?_
 refine O2a ⟨(St.front (A := [_, _, _, _, _, _]) SR3), XR3⟩ rfl rfl rfl ?_
 refine D1a (v := .int .i64 _) rfl rfl ?_
 refine q0a ?_
 refine O2a ⟨(St.front (A := [_, _, _, _, _, _]) SR3), XR3⟩ rfl rfl rfl ?_
 refine U0a b5a rfl rfl ?_
 refine q0a ?_
 refine O2a ⟨(St.front (A := [_, _, _, _, _, _]) SR3), XR3⟩ rfl rfl rfl ?_
 refine j0a h6a rfl (fun w1 hw => by exact hw.1.cell 0 rfl rfl) rfl ?_
 refine q0a ?_
 refine O2a ⟨(St.front (A := [_, _, _, _, _, _]) SR3), XR3⟩ rfl rfl rfl ?_
 refine D1a (v := .int .i64 _) rfl rfl ?_
 refine q0a ?_
 refine O2a ⟨(St.front (A := [_, _, _, _, _, _]) SR3), XR3⟩ rfl rfl rfl ?_
 refine p0a I4a.slT rfl (by rfl) rfl (by omega) (by omega) rfl ?_
 refine q0a ?_
 refine O2a ⟨(St.front (A := [_, _, _, _, _, _]) SR3), XR3⟩ rfl rfl rfl ?_
 refine j0a G9a rfl (fun w1 hw => by exact hw.1.cell 1 rfl ((congrArg (vs[·]?) (show 0 + (t : Int).toNat * 1 = t by simp)).trans hvk)) rfl ?_
 refine q0a ?_
 refine O2a ⟨(St.front (A := [_, _, _, _, _, _]) SR3), XR3⟩ rfl rfl rfl ?_
 refine D1a (v := .int .i64 _) rfl rfl ?_
 refine q0a ?_
 refine O2a ⟨(St.front (A := [_, _, _, _, _, _]) SR3), XR3⟩ rfl rfl rfl ?_
 refine D1a (v := .int .i64 _) rfl rfl ?_
 refine q0a ?_
 refine O2a ⟨(St.front (A := [_, _, _, _, _, _]) SR3), XR3⟩ rfl rfl rfl ?_
 refine j8c rfl rfl (by unfold i64; omega) rfl ?_
 refine q0a ?_
 refine A6b ⟨(St.front (A := [_, _, _, _, _, _]) SR3), XR3⟩ rfl rfl rfl rfl ?_
 have hR5 := hR3.keep YR3.of_nil
 obtain ⟨G', cs'', _, hrk', hvk', hrow3⟩ := hR5.2.2 t b hxb
 obtain ⟨rfl, rfl⟩ : some g = G' ∧ cs' = cs'' := by rw [hrk] at hrk'; cases hrk'; exact ⟨rfl, rfl⟩
 obtain rfl := Option.some.inj (hvk.symm.trans hvk')
 obtain ⟨css, l1, l2, rv, l4⟩ := hrow3
 refine i3a c7c rfl rfl (Q0c g cap b.length i css cs' _ (SR3.blk (6 + t) ((r7c [_, _, _, _, _, _] rows t 6 rfl).trans hrk)) rv l1 l2 (m4c l1 l4) hi (by omega)) ?_
 rintro v33 w33 ⟨rfl, B33, cs33, hb33, R33⟩
 have X33 : x0a [g] _ w33 := x0a.of_belowB B33
 have S33 : St [] w0 w33 ([_, _, _, _, _, _] ++ rows.set t (some g, 121, cs33)) := (Y9c [_, _, _, _, _, _] rows t 6 rfl _) ▸ SR3.changed1 (6 + t) ((r7c [_, _, _, _, _, _] rows t 6 rfl).trans hrk) B33 hb33
 have XC33 := XR3.trans X33
 have hR4 := hR5.put (k := t) ht (m2a.erase i2a l1 l2 l4 hi R33 (X33.mono (by simp))) (G := some g) (by simpa using X33) (fun g hg => .inl hg) hrk
 refine L0a ⟨rfl, ?_⟩
 refine O2a ⟨(St.front (A := [_, _, _, _, _, _]) S33), XC33⟩ rfl rfl rfl ?_
 refine p0a I4a.slT rfl (by rfl) rfl (by omega) (by omega) rfl ?_
 refine q0a ?_
 refine D0b ⟨(St.front (A := [_, _, _, _, _, _]) S33), XC33⟩ ?_
 first | refine u0a (kk := 1) S33 C0c rfl (by conv => lhs; whnf) rfl rfl (by (simp; omega)) ?_
 intro w3_13 S3_13 X3_13
 replace hR4 := hR4.keep (X3_13.mono (by simp))
 refine L0a ⟨rfl, ?_⟩
 refine fO S3_13.k [.w 0] rfl ⟨⟨rfl,by rfl⟩,⟨⟩⟩ ?_
 first | refine d0a (kk := 4) (vs := [_, _, _]) S3_13 K2a rfl rfl rfl rfl rfl rfl rfl ?_
 intro w4_1 S4_1 X4_1
 dsimp only [n0a, List.set] at S4_1
 replace hR4 := hR4.keep (X4_1.mono (by simp))
 refine lR0 rfl ⟨⟩ ?_
 have SF := S4_1.setEnt 1 rfl (show _ = vs.set t (.slice (some ⟨g, 0, none⟩) (b.length - 1) cap) by simp)
 refine y1a (n := 3) rfl t1a rfl (SF.cells 4 rfl) rfl ⟨⟨_, rfl, _, _, _, rfl, ?_, Ra.rdI SF (k := 2) rfl hM (v8a hp hf) (by omega), ?_⟩, SF.fin⟩
 ·have := (z3a.ofPad (g := gm) (l := I3a c.mem en) (pad := pad) (by simpa using hmx)).rdI SF (k := 3) rfl hM (d5a hp hf'.mem) (by simp; omega)
  simpa using this
 ·have hA := SF.apartM (A := [_, _, _, _, _, _]) hM
  have := SF.rdBs (M := M) 1 rfl (R0a hM (SF.new 1 rfl)) (bs := c.buf.set t (b.eraseIdx i)) (by simp; omega) (hR4.rd (A := [_, _, _, _, _, _]) SF (Mx := M) (fun g hg => by simp [hg]) hA (fun x hx => by
   obtain ⟨k, hk, rfl⟩ := List.getElem_of_mem hx
   have := (hf'.bufs k _ (List.getElem?_eq_getElem hk)).1
   omega))
  rw [List.length_set] at this
  exact this
end Go.Proofs.YtjjmdcnmeommbaaGreatDoor
namespace Go.Fw
open Go.RowKit
def o3b (p : e0a) (s : k1a) (k : Nat) : List M1a := if s.kind = 3 then (s.set.take k).filter (fun a => w1a p.cells a.cell = -1) else []
def y0b (p : e0a) (s : k1a) (k : Nat) : List M1a := if s.kind = 3 then (s.set.take k).filter (fun a => w1a p.cells a.cell ≠ -1) else s.set.take k
section
variable {p : e0a} {s : k1a} {k : Nat} {a : M1a}
theorem y3b : o3b p s 0 = [] := by unfold o3b; simp
theorem z9b : y0b p s 0 = [] := by unfold y0b; simp
theorem F1b (h3 : s.kind = 3) (hx : s.set[k]? = some a) (ht : w1a p.cells a.cell = -1) : o3b p s (k + 1) = o3b p s k ++ [a] ∧ y0b p s (k + 1) = y0b p s k := by
 unfold o3b y0b
 rw [if_pos h3, if_pos h3, if_pos h3, if_pos h3, e1a hx, List.filter_append, List.filter_append]
 simp [ht]
theorem F7a (hx : s.set[k]? = some a) (ht : s.kind = 3 → ¬ w1a p.cells a.cell = -1) : o3b p s (k + 1) = o3b p s k ∧ y0b p s (k + 1) = y0b p s k ++ [a] := by
 unfold o3b y0b
 by_cases h3 : s.kind = 3
 ·rw [if_pos h3, if_pos h3, if_pos h3, if_pos h3, e1a hx, List.filter_append, List.filter_append]
  simp [ht h3]
 ·rw [if_neg h3, if_neg h3, if_neg h3, if_neg h3, e1a hx]; simp
theorem S8a : (o3b p s k).length ≤ s.set.length := by
 unfold o3b
 split
 ·exact Nat.le_trans (List.length_filter_le _ _) (by rw [List.length_take]; omega)
 ·simp
end
theorem g5c {p : e0a} {t n : Int} {s : k1a} (h : e6a p t n s) : s.set.length ≤ p.cells.length := by
 have := q7a p.cells.length (s.set.map M1a.cell) (by unfold List.Nodup; rw [List.pairwise_map]; exact h.once) (fun x hx => by
  obtain ⟨a, ha, rfl⟩ := List.mem_map.1 hx
  exact (h.set a ha).1)
 simpa using this
theorem V0b {p : e0a} {m : Int} (hm : ¬ m = 0) {c : B0a} {t : Nat} {s : k1a} {b : List G0a} (h3 : s.kind = 3) (hb : c.buf[t]? = some b) {k : Nat} (hk : s.set.length ≤ k) : E6a p m c t s = ⟨v0b (y0b p s k) (F1a c t) c.mem, atC c t s, c.buf.set t (b ++ [⟨(o3b p s k).map M1a.cell, (o3b p s k).map fun a => a.to.evl (F1a c t) (F1a c t)⟩])⟩ := by
 unfold E6a o3b y0b f3b
 rw [if_pos ⟨h3, hm⟩, if_pos h3, if_pos h3, List.take_of_length_le hk, getD_some hb]
theorem J0b {p : e0a} {m : Int} {c : B0a} {t : Nat} {s : k1a} (h3 : ¬ s.kind = 3) {k : Nat} (hk : s.set.length ≤ k) : E6a p m c t s = ⟨v0b (y0b p s k) (F1a c t) c.mem, atC c t s, c.buf⟩ := by
 unfold E6a y0b
 rw [if_neg (fun h => h3 h.1), if_neg h3, List.take_of_length_le hk]
theorem K3c {c : B0a} {t : Nat} {s : k1a} {pad : List Value} (h : ¬ s.kind = 6) (ht : t < c.at_.length) {i : Nat} (hi : i = t) : (c.at_.map (Value.int .i64) ++ pad).set i (.int .i64 s.to) = (atC c t s).map (Value.int .i64) ++ pad := by
 subst hi; rw [V7a ht]; unfold atC; rw [if_neg h]
theorem U8b {c : B0a} {t : Nat} {s : k1a} {pad : List Value} (h : s.kind = 6) (ht : t < c.at_.length) (hg : s.target.toNat < c.at_.length) {i j : Nat} (hi : i = t) (hj : j = s.target.toNat) : ((c.at_.map (Value.int .i64) ++ pad).set i (.int .i64 s.to)).set j (.int .i64 0) = (atC c t s).map (Value.int .i64) ++ pad := by
 subst hi; subst hj; rw [V7a ht, V7a (by simpa using hg)]; unfold atC; rw [if_pos h]
abbrev N7c : List Nat → World → List Value → Int → Prop := fun _ _ => N9c
end Go.Fw
namespace Go.Proofs.YtjjmdcnmeommbaaGreatDoor
open Go.Fw Go.RowKit
set_option maxHeartbeats 1000000 in
theorem w7b (p : e0a) (c : B0a) (m : Int) (hm : m = 1 ∨ m = 2) (t i : Nat) (th : S0a) (s : k1a) (M : List Nat) (w0 : World) (cs xs : List Value) (vsn : Value) (hI : InP p M w0 cs) (hX : K0a M w0 c xs) (hV : RdI M w0 vsn (F1a c t)) (hf : b6a p c) (hxth : p.threads[t]? = some th) (hxs : th.steps[i]? = some s) (hf' : b6a p (E6a p m c t s)) :
 J0a Tryz.prog 141 #[.agg (xs ++ (cs ++ [Value.int .i64 m])).toArray, .agg #[.int .i64 t, .int .i64 i, .int .i64 0], vsn] w0 fun v w' => (∃ ys, v = .agg ys.toArray ∧ K0a M w' (E6a p m c t s) ys) ∧ Below w0.heap.size w0 w' := by
 obtain ⟨Ac, nc, cc, Am, nm, cm, Al, nl, cl, At, nt, ct, rfl, hC, _, _, hTh, _, _, _, _, _, _, _, _⟩ := hI.rd.open_
 obtain ⟨Xm, xm, ym, Xa, xa, ya, Xb, xb, yb, rfl, _, _, _, _, _, _, _, _, _⟩ := hX.open_
 obtain ⟨Av, nv, cv, rfl⟩ := hV.form
 have S := St.refl w0
 have hM := hI.lt
 have f1 := hf.mem.len
 have f2 := hf.nat
 have f3 := hf.nbuf
 have hp := hI.ok
 have n1 := hp.ncells
 have n2 := hp.nthreads
 have ht := z1a hxth
 have hi := z1a hxs
 have hso := (hp.thread hxth).steps s (h0a hxs)
 have hsl := g5c hso
 have hk6 : 6 ≤ s.kind → 0 ≤ s.target ∧ s.target < p.threads.length := fun h => (hso.row.k6 h).1
 have hm0 : ¬ m = 0 := by omega
 obtain ⟨b, hxb⟩ : ∃ b, c.buf[t]? = some b := ⟨c.buf[t]'(by omega), List.getElem?_eq_getElem _⟩
 have hbo := hf.bufs t b hxb
 refine a0a Tryz.func141 rfl Tryz.ntmps141 rfl ?_
 refine wO0 rfl ⟨⟩ (m0a S (by conv => lhs; whnf) rfl ?_)
 intro g3 w3 S3 X3 G3
 refine m0a S3 (by conv => lhs; whnf) rfl ?_
 intro g4 w4 S4 X4 G4
 refine g0a S4 c6a rfl rfl ?_
 intro g6 w6 S6 X6 G6
 refine lO S6.k [.o 2] rfl ⟨rfl,⟨⟩⟩ ?_
 have hX2 : K0a (g6 :: g4 :: g3 :: M) w6 c _ := (hX.more (fun g hg => by rcases List.mem_cons.1 hg with rfl | hg; exact .inr (by simpa using S6.new 0 rfl); rcases List.mem_cons.1 hg with rfl | hg; exact .inr (by simpa using S6.new 1 rfl); rcases List.mem_cons.1 hg with rfl | hg; exact .inr (by simpa using S6.new 2 rfl); exact .inl hg)).keep (S6.keep0 _)
 have hM2 : ∀ g ∈ g6 :: g4 :: g3 :: M, g < w6.heap.size := fun g hg => by
  rcases List.mem_cons.1 hg with rfl | hg
  ·exact S6.lt 0 rfl
  ·rcases List.mem_cons.1 hg with rfl | hg
   ·exact S6.lt 1 rfl
   ·rcases List.mem_cons.1 hg with rfl | hg
    ·exact S6.lt 2 rfl
    ·have := hM g hg; have := S6.size; omega
 refine i3a n8b rfl rfl (m6b p hp c (g6 :: g4 :: g3 :: M) _ hM2 _ hX2 hf) ?_
 rintro v15 w15 ⟨⟨Gm, _, csm, _, _, _, gb, rows, vs, rfl, Rm, Ra, S15', hR⟩, -⟩
 have S15 := S6.joinR S15'
 obtain ⟨ga, pada, rfl, rfl, rfl, hmxa⟩ := Ra.pad (by omega)
 obtain ⟨Bm, bm', dm, rfl⟩ := Rm.form
 have KM := x0a.refl Gm.toList w15
 have hQ15 : ∀ g ∈ (Gm.toList ++ ((some ga).toList ++ (gb :: g6 :: g4 :: g3 :: M))) ++ u8a rows, g < w15.heap.size := by
  intro g hg
  simp only [List.mem_append, List.mem_cons] at hg
  rcases hg with (hg | hg | rfl | rfl | rfl | rfl | hg) | hg
  ·exact o6b S15 (k := 2) rfl g hg
  ·exact o6b S15 (k := 1) rfl g hg
  ·exact S15.lt 0 rfl
  ·exact S15.lt 3 rfl
  ·exact S15.lt 4 rfl
  ·exact S15.lt 5 rfl
  ·have := hM g hg; have := S15.size; omega
  ·obtain ⟨x, hx, hg⟩ := d3a.1 hg; exact (S15.own x (List.mem_append_right _ hx) g hg).2.lt
 refine g0a S15 c6a rfl rfl ?_
 intro g7 w7 S7 X7 G7
 have GKM7 := Nat.le_trans KM.size G7
 replace KM := KM.trans (X7.of_nil)
 refine d0a (kk := 0) (vs := [_, _, _]) S7 K2a rfl rfl rfl rfl rfl rfl rfl ?_
 intro w1_4 S1_4 X1_4
 dsimp only [n0a, List.set] at S1_4
 replace KM := KM.fresh2 X1_4 (by exact .inl GKM7)
 refine lC0 rfl ⟨⟩ (A0a b0a [0, 1, 2, 3, 4, 5, 6, 7, 8, 9, 10, 11] [12] [13] (by kernel_rfl) rfl (Cl _ _ _ _) (Cl.start S1_4) ?_)
 obtain ⟨_, b21, p21, _, hx21, hA21, _, _, hc21, hr21⟩ := RdS.get (hTh) (t) (by omega)
 obtain rfl := Option.some.inj (hxth.symm.trans hx21)
 obtain ⟨_, _, _, _, _, _, _, _, _, _, _, _, rfl, _, _, _, hSt21, _, _, _, _, _, _, _, _, _⟩ := T0a.open_ hr21
 obtain ⟨_, b26, p26, _, hx26, hA26, _, hl26, hc26, hr26⟩ := RdS.get (hSt21) (i) (by omega)
 obtain rfl := Option.some.inj (hxs.symm.trans hx26)
 obtain ⟨Ag26, ng26, cg26, As26, ns26, cs26, rfl, ⟨_, _, _, _, _⟩, _, hSet26, _, _⟩ := s1a.open_ hr26
 refine qN ((S1_4.q.a hc26).a hc21) [.o 6,.o 5,.x b21 p21,.f 0 4,.o 5,.x b26 p26,.v 1] rfl ⟨⟨rfl,hl26⟩,⟨hA26,by omega⟩,rfl,rfl,⟨hA21,by omega⟩,rfl,rfl,⟨⟩⟩ (h4a ?_)
 refine S6a rfl rfl o2b rfl ?_
 refine Q1a ?_
 rintro wR2 ⟨SR2, XR2⟩
 intro g8 hg8 G8 ng8
 dsimp only [C3a]
 have GKM8 := Nat.le_trans KM.size G8
 replace KM := KM.trans (XR2.of_nil)
 clear ng8
 replace SR2 := SR2.push_new S1_4 hg8 G8
 refine d0a (kk := 0) (vs := [_, _, _, _, _, _, _, _, _, _, _]) SR2 i2b rfl rfl rfl rfl rfl rfl rfl ?_
 intro w2_13 S2_13 X2_13
 dsimp only [n0a, List.set] at S2_13
 replace KM := KM.fresh2 X2_13 (by exact .inl GKM8)
 refine lO0 rfl ⟨⟩ (g0a S2_13 n8a rfl rfl ?_)
 intro g9 w9 S9 X9 G9
 have GKM9 := Nat.le_trans KM.size G9
 replace KM := KM.trans (X9.of_nil)
 refine lC S9.k [.o 1] rfl ⟨rfl,⟨⟩⟩ ?_
 refine wL (fun μk D ε w => D = [] ∧ ∃ k : Nat, ∃ Gc : Option Nat, ∃ csc : List Value, ∃ vc : Value, ∃ Gv : Option Nat, ∃ csv : List Value, ∃ vv : Value, ∃ csm' : List Value, (k + μk = (s.set.length)) ∧ (m2a N7c 1 [] w0 Gc csc vc ((o3b p s k).map M1a.cell)) ∧ (m2a N7c 1 [] w0 Gv csv vv ((o3b p s k).map fun a => a.to.evl (F1a c t) (F1a c t))) ∧ (∀ g ∈ Gc.toList ++ Gv.toList, w15.heap.size ≤ g) ∧ (z3a Gm 1 c.mem.length csm' (.slice Bm bm' dm) ((v0b (y0b p s k) (F1a c t) c.mem).map (Value.int .i64))) ∧ (x0a Gm.toList w15 w) ∧ St [] w0 w ([(Gc, 3, csc), (Gv, 3, csv), (some g9, 121, [vc, vv]), (some g8, 88, [.int .i64 s.kind, .int .i64 s.frm, .int .i64 s.to, .int .i64 s.guard.op, .int .i64 s.guard.w, .int .i64 s.guard.n, .slice Ag26 ng26 cg26, .slice As26 ns26 cs26, .bool s.release, .int .i64 s.target, .int .i64 s.module_]), (some g7, 52, [.slice Bm bm' dm, .slice (some ⟨ga, 0, none⟩) c.at_.length (c.at_.length + pada.length), .slice (some ⟨gb, 0, none⟩) c.buf.length c.buf.length]), (some gb, 118, vs), (some ga, 3, c.at_.map (Value.int .i64) ++ pada), (Gm, 3, csm'), (some g6, 52, [.slice none 0 0, .slice none 0 0, .slice none 0 0]), (some g4, 68, [.int .i64 t, .int .i64 i, .int .i64 0]), (some g3, 189, [.slice Xm xm ym, .slice Xa xa ya, .slice Xb xb yb, .slice Ac nc cc, .slice Am nm cm, .slice Al nl cl, .slice At nt ct, .int .i64 m])] ++ rows) ∧ Sl ε [(2, .slice Av nv cv), (3, .pointer (some ⟨g3, 0, none⟩)), (4, .pointer (some ⟨g4, 0, none⟩)), (6, .pointer (some ⟨g6, 0, none⟩)), (7, .pointer (some ⟨g7, 0, none⟩)), (8, .pointer (some ⟨g8, 0, none⟩)), (9, .pointer (some ⟨g9, 0, none⟩)), (29, .slice As26 ns26 cs26), (30, .int .i64 ns26), (31, .int .i64 k)]) (μ := (s.set.length)) ⟨rfl, 0, none, [], .slice none 0 0, none, [], .slice none 0 0, csm, by omega, by rw [y3b]; exact m2a.nil, by rw [y3b]; exact m2a.nil, by simp, by rw [z9b]; exact Rm, KM, ((S9.nilEnt 3).nilEnt 3), rfl⟩ ?_
 rintro μk D ε w ⟨rfl, k, Gc, csc, vc, Gv, csv, vv, csm', _, hrc, hrv, hgc, hrm, KM, S, eZ⟩
 refine wK eZ (wB0 rfl ⟨⟩ (fun h32 => ?_) fun h32 => ?_)
 ·obtain ⟨a, b33, p33, _, hxa, hA33, _, hl33, hc33, hr33⟩ := RdS.get (hSet26) (k) (by omega)
  obtain ⟨_, _, _, rfl, ia33, hE33⟩ := O0a.open_ hr33
  have hxa' := hxa
  have q1 := (hso.set a (h0a hxa')).1
  unfold j3a at q1
  have q2 := o9a (hso.set a (h0a hxa')).2.1 (F1a c t) (F1a c t)
  rw [(hso.set a (h0a hxa')).2.2] at q2
  have q2' := S6b hp a.cell
  have q3 : i64 (a.to.evl (F1a c t) (F1a c t)) := by unfold i64; omega
  refine lO (S.k.a hc33) [.x b33 p33,.v 0] rfl ⟨⟨rfl,hl33⟩,⟨hA33,by omega⟩,⟨⟩⟩ (g0a S R1b rfl rfl ?_)
  intro g11 w11 S11 X11 G11
  have GKM11 := Nat.le_trans KM.size G11
  replace KM := KM.trans (X11.of_nil)
  refine d0a (kk := 0) (vs := [_, _, _, _, _]) S11 u1b rfl rfl rfl rfl rfl rfl rfl ?_
  intro w6_3 S6_3 X6_3
  dsimp only [n0a, List.set] at S6_3
  replace KM := KM.fresh2 X6_3 (by exact .inl GKM11)
  refine lO S6_3.k [.o 0] rfl ⟨rfl,⟨⟩⟩ (f0a S6_3 f9a rfl rfl (A6a a.to M _ _ _ _ (F1a c t) (F1a c t) (RdE.keep (S6_3.keep0 M) _ _ hE33) (hI.keep (S6_3.keep0 M)).msk (hV.keep (S6_3.keep0 M)) (hV.keep (S6_3.keep0 M))) ?_)
  intro w39 S39 X39
  replace KM := KM.trans (X39.of_nil)
  refine lO0 rfl ⟨⟩ (s0a E0a rfl (by exact S39.cell 4 rfl rfl) rfl ?_)
  refine lB0 rfl ⟨⟩ (fun h42 => ?_) fun h42 => ?_
  ·refine lO0 rfl ⟨⟩ (s0a h0b rfl (by exact S39.cell 11 rfl rfl) rfl ?_)
   obtain ⟨_, b49, p49, _, hxcl', hA49, _, _, hc49, hr49⟩ := RdS.get (hC) (a.cell.toNat) (by omega)
   obtain ⟨rfl, _, _, _, _⟩ := J2a.open_ hr49
   have hthr := c1a hxcl'
   refine lB (S39.k.a hc49) [.o 0,.x b49 p49,.f 0 3] rfl ⟨rfl,⟨hA49,by omega⟩,rfl,⟨⟩⟩ (fun h52 => ?_) fun h52 => ?_
   ·refine lO0 rfl ⟨⟩ (s0a Z3a rfl (by exact S39.cell 3 rfl rfl) rfl ?_)
    refine lO S39.k [.o 0] rfl ⟨rfl,⟨⟩⟩ (t0a S39 W0a (vs := [.int .i64 _]) (cs := [_]) (by rfl) rfl rfl rfl rfl rfl rfl ?_)
    intro g58 w58 S58 X58 G58
    replace KM := KM.trans (X58.of_nil)
    refine q1a Q1b (k := 2) (M2 := []) (e1 := a.cell) S58 W0a (by decide) rfl hrc rfl rfl (S58.cells 0 rfl) ⟨rfl, ia33⟩ (by have := S8a (p := p) (s := s) (k := k); simp; omega) rfl ?_
    intro v59 Gc' csc' w59 S59 hrc' X59 F59
    have Z59 := KM.size
    obtain ⟨_, _, rfl⟩ := hrc'.form
    replace KM := KM.freshL X59 (fun g hg => .inl (hgc g (List.mem_append_left _ hg)))
    refine lO0 rfl ⟨⟩ ?_
    first | refine u0a (kk := 4) S59 i8c rfl (by conv => lhs; whnf) rfl rfl (by exact Nat.le_of_ble_eq_true rfl) ?_
    intro w9_7 S9_7 X9_7
    replace KM := KM.fresh2 X9_7 (by exact .inl GKM9)
    refine lO0 rfl ⟨⟩ (s0a Z3a rfl (by exact S9_7.cell 4 rfl rfl) rfl ?_)
    refine lO0 rfl ⟨⟩ (t0a S9_7 W0a (vs := [.int .i64 _]) (cs := [_]) (by rfl) rfl rfl rfl rfl rfl rfl ?_)
    intro g64 w64 S64 X64 G64
    replace KM := KM.trans (X64.of_nil)
    refine q1a Q1b (k := 4) (M2 := []) (e1 := a.to.evl (F1a c t) (F1a c t)) S64 W0a (by decide) rfl hrv rfl rfl (S64.cells 0 rfl) ⟨rfl, q3⟩ (by have := S8a (p := p) (s := s) (k := k); simp; omega) rfl ?_
    intro v65 Gv' csv' w65 S65 hrv' X65 F65
    have Z65 := KM.size
    obtain ⟨_, _, rfl⟩ := hrv'.form
    replace KM := KM.freshL X65 (fun g hg => .inl (hgc g (List.mem_append_right _ hg)))
    refine lO0 rfl ⟨⟩ ?_
    first | refine u0a (kk := 5) S65 i8c rfl (by conv => lhs; whnf) rfl rfl (by exact Nat.le_of_ble_eq_true rfl) ?_
    intro w10_6 S10_6 X10_6
    replace KM := KM.fresh2 X10_6 (by exact .inl GKM9)
    refine lP0 rfl ⟨by omega,⟨⟩⟩ ⟨μk - 1, by omega, rfl, (k + 1), (_), (_), (_), (_), (_), (_), (_), (by omega), ?_, ?_, ?_, ?_, (KM), S10_6.tail.tail.tail, rfl⟩
    ·rw [(F1b h42 hxa' (hthr.trans h52)).1, List.map_append]; exact hrc'
    ·rw [(F1b h42 hxa' (hthr.trans h52)).1, List.map_append]; exact hrv'
    ·intro g hg
     rcases List.mem_append.1 hg with hg | hg
     ·rcases F59 g hg with h | h
      ·exact hgc g (List.mem_append_left _ h)
      ·omega
     ·rcases F65 g hg with h | h
      ·exact hgc g (List.mem_append_right _ h)
      ·omega
    ·rw [(F1b h42 hxa' (hthr.trans h52)).2]; exact hrm
   obtain ⟨gm, pad, rfl, hvm, rfl, hmx⟩ := hrm.pad (by simp; omega)
   have hml : (v0b (y0b p s k) (F1a c t) c.mem).length = c.mem.length := by simp
   cases hvm
   refine lO0 rfl ⟨⟩ (s0a Z3a rfl (by exact S39.cell 5 rfl rfl) rfl ?_)
   refine lO S39.k [.o 0] rfl ⟨rfl,⟨⟩⟩ (H0a W0a.slT rfl (by rfl) rfl (by omega) (by omega) rfl ?_)
   first | refine u0a (kk := 8) S39 D8a rfl (by conv => lhs; whnf) rfl rfl (by (simp; omega)) ?_
   intro w11_6 S11_6 X11_6
   replace KM := KM.fresh2 X11_6 (by exact .inr (by simp))
   refine lP0 rfl ⟨by omega,⟨⟩⟩ ⟨μk - 1, by omega, rfl, (k + 1), (_), (_), (_), (_), (_), (_), (_), (by omega), ?_, ?_, ?_, ?_, (KM), S11_6.tail, rfl⟩
   ·rw [(F7a hxa' (fun _ => by rw [hthr]; exact h52)).1]; exact hrc
   ·rw [(F7a hxa' (fun _ => by rw [hthr]; exact h52)).1]; exact hrv
   ·exact hgc
   ·have e2 : y0b p s (k + 1) = y0b p s k ++ [a] := by exact (F7a hxa' (fun _ => by rw [hthr]; exact h52)).2
    rw [e2, H9a]
    have := z3a.ofPad (g := gm) (l := (v0b (y0b p s k) (F1a c t) c.mem).set a.cell.toNat (a.to.evl (F1a c t) (F1a c t))) (pad := pad) (by simpa using hmx)
    rw [← V7a (by omega)] at this
    simpa using this
  obtain ⟨gm, pad, rfl, hvm, rfl, hmx⟩ := hrm.pad (by simp; omega)
  have hml : (v0b (y0b p s k) (F1a c t) c.mem).length = c.mem.length := by simp
  cases hvm
  refine lO0 rfl ⟨⟩ (s0a Z3a rfl (by exact S39.cell 5 rfl rfl) rfl ?_)
  refine lO S39.k [.o 0] rfl ⟨rfl,⟨⟩⟩ (H0a W0a.slT rfl (by rfl) rfl (by omega) (by omega) rfl ?_)
  first | refine u0a (kk := 8) S39 D8a rfl (by conv => lhs; whnf) rfl rfl (by (simp; omega)) ?_
  intro w11_6 S11_6 X11_6
  replace KM := KM.fresh2 X11_6 (by exact .inr (by simp))
  refine lP0 rfl ⟨by omega,⟨⟩⟩ ⟨μk - 1, by omega, rfl, (k + 1), (_), (_), (_), (_), (_), (_), (_), (by omega), ?_, ?_, ?_, ?_, (KM), S11_6.tail, rfl⟩
  ·rw [(F7a hxa' (fun h => absurd h h42)).1]; exact hrc
  ·rw [(F7a hxa' (fun h => absurd h h42)).1]; exact hrv
  ·exact hgc
  ·have e2 : y0b p s (k + 1) = y0b p s k ++ [a] := by exact (F7a hxa' (fun h => absurd h h42)).2
   rw [e2, H9a]
   have := z3a.ofPad (g := gm) (l := (v0b (y0b p s k) (F1a c t) c.mem).set a.cell.toNat (a.to.evl (F1a c t) (F1a c t))) (pad := pad) (by simpa using hmx)
   rw [← V7a (by omega)] at this
   simpa using this
 refine lO0 rfl ⟨⟩ (s0a E0a rfl (by exact S.cell 3 rfl rfl) rfl ?_)
 refine lB0 rfl ⟨⟩ (fun h76 => ?_) fun h76 => ?_
 ·have hR2 := hR.keep (KM.mono (fun g hg => List.mem_append_left _ (List.mem_append_left _ hg)))
  obtain ⟨G, cs', v, hrk, hvk, hrow⟩ := hR2.2.2 t b hxb
  obtain ⟨_, _, rfl⟩ := hrow.form
  obtain ⟨_, _, rfl⟩ := hrc.form
  obtain ⟨_, _, rfl⟩ := hrv.form
  have hvl : vs.length = c.buf.length := hR2.2.1
  have hGb : ∀ g ∈ G.toList, g ∈ (Gm.toList ++ ((some ga).toList ++ (gb :: g6 :: g4 :: g3 :: M))) ++ u8a rows := fun g hg => List.mem_append_right _ (d3a.2 ⟨_, List.mem_of_getElem? hrk, by cases G <;> simp at hg ⊢; exact hg.symm⟩)
  have hC1 : RdI ((Gm.toList ++ ((some ga).toList ++ (gb :: g6 :: g4 :: g3 :: M))) ++ u8a rows) w _ _ := m2a.rd (M := (Gm.toList ++ ((some ga).toList ++ (gb :: g6 :: g4 :: g3 :: M))) ++ u8a rows) (w := w) Q1b hrc S (k := 0) rfl (fun g hg hm => by have := hgc g (by rw [hg]; simp); have := hQ15 g hm; omega) (by have := S8a (p := p) (s := s) (k := k); simp; omega)
  have hC2 : RdI ((Gm.toList ++ ((some ga).toList ++ (gb :: g6 :: g4 :: g3 :: M))) ++ u8a rows) w _ _ := m2a.rd (M := (Gm.toList ++ ((some ga).toList ++ (gb :: g6 :: g4 :: g3 :: M))) ++ u8a rows) (w := w) Q1b hrv S (k := 1) rfl (fun g hg hm => by have := hgc g (by rw [hg]; simp); have := hQ15 g hm; omega) (by have := S8a (p := p) (s := s) (k := k); simp; omega)
  refine lC0 rfl ⟨⟩ (O6b b0a (fun i => [0, 1, 2, 3, 4, 5, 6, 7, 8, 9, 10, 13].contains i) [0, 1, 2, 3, 4, 5, 6, 7, 8, 9, 10, 11, 12, 13] 14 (by kernel_rfl) (by kernel_rfl) (clF (A := [_, _, _, _, _, _, _, _, _, _, _]) (R := rows) S G.toList) _ rfl ?_)
  have SR14 := S.drew
  have YR14 : x0a [] w w.drew := y3a _ _
  generalize w.drew = wR14 at SR14 YR14 ⊢
  have XR14 : x0a (G.toList) _ _ := YR14.of_nil
  replace hR2 := hR2.keep YR14.of_nil
  replace hC1 := hC1.keep YR14.of_nil
  replace hC2 := hC2.keep YR14.of_nil
  refine O2a ⟨(St.front (A := [_, _, _, _, _, _, _, _, _, _, _]) SR14), XR14⟩ rfl rfl rfl ?_
  refine U0a b5a rfl rfl ?_
  refine q0a ?_
  refine O2a ⟨(St.front (A := [_, _, _, _, _, _, _, _, _, _, _]) SR14), XR14⟩ rfl rfl rfl ?_
  refine j0a h6a rfl (fun w1 hw => by exact hw.1.cell 4 rfl rfl) rfl ?_
  refine q0a ?_
  refine O2a ⟨(St.front (A := [_, _, _, _, _, _, _, _, _, _, _]) SR14), XR14⟩ rfl rfl rfl ?_
  refine U0a g5b rfl rfl ?_
  refine q0a ?_
  refine O2a ⟨(St.front (A := [_, _, _, _, _, _, _, _, _, _, _]) SR14), XR14⟩ rfl rfl rfl ?_
  refine j0a E0a rfl (fun w1 hw => by exact hw.1.cell 9 rfl rfl) rfl ?_
  refine q0a ?_
  refine O2a ⟨(St.front (A := [_, _, _, _, _, _, _, _, _, _, _]) SR14), XR14⟩ rfl rfl rfl ?_
  refine U0a b5a rfl rfl ?_
  refine q0a ?_
  refine O2a ⟨(St.front (A := [_, _, _, _, _, _, _, _, _, _, _]) SR14), XR14⟩ rfl rfl rfl ?_
  refine j0a h6a rfl (fun w1 hw => by exact hw.1.cell 4 rfl rfl) rfl ?_
  refine q0a ?_
  refine O2a ⟨(St.front (A := [_, _, _, _, _, _, _, _, _, _, _]) SR14), XR14⟩ rfl rfl rfl ?_
  refine U0a g5b rfl rfl ?_
  refine q0a ?_
  refine O2a ⟨(St.front (A := [_, _, _, _, _, _, _, _, _, _, _]) SR14), XR14⟩ rfl rfl rfl ?_
  refine j0a E0a rfl (fun w1 hw => by exact hw.1.cell 9 rfl rfl) rfl ?_
  refine q0a ?_
  refine O2a ⟨(St.front (A := [_, _, _, _, _, _, _, _, _, _, _]) SR14), XR14⟩ rfl rfl rfl ?_
  refine p0a I4a.slT rfl (by rfl) rfl (by omega) (by omega) rfl ?_
  refine q0a ?_
  refine O2a ⟨(St.front (A := [_, _, _, _, _, _, _, _, _, _, _]) SR14), XR14⟩ rfl rfl rfl ?_
  refine j0a G9a rfl (fun w1 hw => by exact hw.1.cell 5 rfl ((congrArg (vs[·]?) (show 0 + (t : Int).toNat * 1 = t by simp)).trans hvk)) rfl ?_
  refine q0a ?_
  refine O2a ⟨(St.front (A := [_, _, _, _, _, _, _, _, _, _, _]) SR14), XR14⟩ rfl rfl rfl ?_
  refine I2a J1b rfl (fun w1 hw => hw.1.cells 2 rfl) rfl rfl ?_
  refine q0a ?_
  refine A6b ⟨(St.front (A := [_, _, _, _, _, _, _, _, _, _, _]) SR14), XR14⟩ rfl rfl rfl rfl ?_
  refine t0a SR14 q3a (vs := [.agg _]) (cs := [_, _]) (by rfl) rfl rfl rfl rfl rfl rfl ?_
  intro g88 w88 S88 X88 G88
  have XCw88 := XR14.trans (X88.mono (by simp))
  replace hR2 := hR2.keep (X88.of_nil)
  replace hC1 := hC1.keep (X88.of_nil)
  replace hC2 := hC2.keep (X88.of_nil)
  refine L0a ⟨rfl, ?_⟩
  refine A6b ⟨(St.front (A := [_, _, _, _, _, _, _, _, _, _, _, _]) S88).tail, XCw88⟩ rfl rfl rfl rfl ?_
  obtain ⟨G', cs'', _, hrk', hvk', hrow2⟩ := hR2.2.2 t b hxb
  obtain ⟨rfl, rfl⟩ : G = G' ∧ cs' = cs'' := by rw [hrk] at hrk'; cases hrk'; exact ⟨rfl, rfl⟩
  obtain rfl := Option.some.inj (hvk.symm.trans hvk')
  refine q1a i2a (k := 12 + t) (e1 := ⟨(o3b p s k).map M1a.cell, (o3b p s k).map fun a => a.to.evl (F1a c t) (F1a c t)⟩) S88 q3a (by decide) ((r7c [_, _, _, _, _, _, _, _, _, _, _, _] rows t 12 rfl).trans hrk) hrow2 rfl rfl (S88.cells 0 rfl) ⟨_, _, rfl, hC1.more (by omega) (fun g hg => .inl (by rcases List.mem_append.1 hg with h | h; exact hGb g h; exact h)), hC2.more (by omega) (fun g hg => .inl (by rcases List.mem_append.1 hg with h | h; exact hGb g h; exact h))⟩ (by omega) rfl ?_
  intro v89 G89 cs89 w89 S89' hrow89 X89 F89
  have S89 : St [] w0 w89 ([_, _, _, _, _, _, _, _, _, _, _, _] ++ rows.set t (G89, 121, cs89)) := (Y9c [_, _, _, _, _, _, _, _, _, _, _, _] rows t 12 rfl _) ▸ S89'
  have S89b := S89.tail
  have XC89 := XCw88.trans X89
  have hR4 := hR2.put (k := t) (by omega) hrow89 X89 F89 hrk
  obtain ⟨_, _, hv89⟩ := hrow89.form
  subst hv89
  clear hR
  refine L0a ⟨rfl, ?_⟩
  refine O2a ⟨(St.front (A := [_, _, _, _, _, _, _, _, _, _, _]) S89b), XC89⟩ rfl rfl rfl ?_
  refine p0a I4a.slT rfl (by rfl) rfl (by omega) (by omega) rfl ?_
  refine q0a ?_
  refine D0b ⟨(St.front (A := [_, _, _, _, _, _, _, _, _, _, _]) S89b), XC89⟩ ?_
  first | refine u0a (kk := 5) S89b C0c rfl (by conv => lhs; whnf) rfl rfl (by (simp; omega)) ?_
  intro w14_14 S14_14 X14_14
  replace hR4 := hR4.keep (X14_14.mono (by simp))
  refine L0a ⟨rfl, ?_⟩
  try have hR4 := hR.keep (KM.mono (fun g hg => List.mem_append_left _ (List.mem_append_left _ hg)))
  refine fO0 rfl ⟨⟩ (s0a Z3a rfl (by exact S14_14.cell 4 rfl rfl) rfl ?_)
  refine lO0 rfl ⟨⟩ (s0a E0a rfl (by exact S14_14.cell 9 rfl rfl) rfl ?_)
  refine lO0 rfl ⟨⟩ (s0a E0a rfl (by exact S14_14.cell 3 rfl rfl) rfl ?_)
  refine H0a W0a.slT rfl (by rfl) rfl (by omega) (by omega) rfl ?_
  first | refine u0a (kk := 6) S14_14 D8a rfl (by conv => lhs; whnf) rfl rfl (by (simp; omega)) ?_
  intro w15_7 S15_7 X15_7
  replace hR4 := hR4.keep (X15_7.mono (by simp))
  refine lO0 rfl ⟨⟩ (s0a E0a rfl (by exact S15_7.cell 3 rfl rfl) rfl ?_)
  refine lB0 rfl ⟨⟩ (fun h100 => ?_) fun h100 => ?_
  ·refine lO0 rfl ⟨⟩ (s0a Z3a rfl (by exact S15_7.cell 4 rfl rfl) rfl ?_)
   refine lO0 rfl ⟨⟩ (s0a E0a rfl (by exact S15_7.cell 3 rfl rfl) rfl ?_)
   have q6 := hk6 (by omega)
   refine H0a W0a.slT rfl (by rfl) rfl (by omega) (by omega) rfl ?_
   first | refine u0a (kk := 6) S15_7 D8a rfl (by conv => lhs; whnf) rfl rfl (by (simp; omega)) ?_
   intro w17_5 S17_5 X17_5
   replace hR4 := hR4.keep (X17_5.mono (by simp))
   refine lO0 rfl ⟨⟩ (X1a t1a rfl (S17_5.cells 4 rfl) rfl rfl ?_)
   first | refine d0a (kk := 8) (vs := [_, _, _]) S17_5 K2a rfl rfl rfl rfl rfl rfl rfl ?_
   intro w18_1 S18_1 X18_1
   dsimp only [n0a, List.set] at S18_1
   replace hR4 := hR4.keep (X18_1.mono (by simp))
   refine lR0 rfl ⟨⟩ ?_
   have SF := S18_1.setEnt 6 rfl (show _ = (atC c t s).map (Value.int .i64) ++ pada by exact U8b h100 (by omega) (by omega) (by simp) (by simp))
   have hal := A5a c t s
   rw [V0b hm0 h76 hxb (k := k) (by omega)] at hf' ⊢
   have SG := SF.setEnt 5 rfl (congrArg (fun i => vs.set i _) (show 0 + (t : Int).toNat * 1 = t by simp))
   refine y1a (n := 3) rfl t1a rfl (SG.cells 8 rfl) rfl ⟨⟨_, rfl, _, _, _, rfl, hrm.rdI SG (k := 7) rfl hM (d5a hp hf'.mem) (by simp; omega), ?_, ?_⟩, SG.fin⟩
   ·have := (z3a.ofPad (g := ga) (l := atC c t s) (pad := pada) (by rw [hal]; exact hmxa)).rdI SG (k := 6) rfl hM (v8a hp hf') (by rw [hal]; omega)
    rw [hal] at this
    exact this
   ·have hA := SG.apartM (A := [_, _, _, _, _, _, _, _, _, _, _]) hM
    have := SG.rdBs (M := M) 5 rfl (R0a hM (SG.new 5 rfl)) (bs := c.buf.set t _) (by simp; omega) (hR4.rd (A := [_, _, _, _, _, _, _, _, _, _, _]) SG (Mx := M) (fun g hg => by simp [hg]) hA (fun x hx => by
     obtain ⟨q, hq, rfl⟩ := List.getElem_of_mem hx
     have := (hf'.bufs q _ (List.getElem?_eq_getElem hq)).1
     omega))
    rw [List.length_set] at this
    exact this
  refine lO0 rfl ⟨⟩ (X1a t1a rfl (S15_7.cells 4 rfl) rfl rfl ?_)
  first | refine d0a (kk := 8) (vs := [_, _, _]) S15_7 K2a rfl rfl rfl rfl rfl rfl rfl ?_
  intro w18_1 S18_1 X18_1
  dsimp only [n0a, List.set] at S18_1
  replace hR4 := hR4.keep (X18_1.mono (by simp))
  refine lR0 rfl ⟨⟩ ?_
  have SF := S18_1.setEnt 6 rfl (show _ = (atC c t s).map (Value.int .i64) ++ pada by exact K3c h100 (by omega) (by simp))
  have hal := A5a c t s
  rw [V0b hm0 h76 hxb (k := k) (by omega)] at hf' ⊢
  have SG := SF.setEnt 5 rfl (congrArg (fun i => vs.set i _) (show 0 + (t : Int).toNat * 1 = t by simp))
  refine y1a (n := 3) rfl t1a rfl (SG.cells 8 rfl) rfl ⟨⟨_, rfl, _, _, _, rfl, hrm.rdI SG (k := 7) rfl hM (d5a hp hf'.mem) (by simp; omega), ?_, ?_⟩, SG.fin⟩
  ·have := (z3a.ofPad (g := ga) (l := atC c t s) (pad := pada) (by rw [hal]; exact hmxa)).rdI SG (k := 6) rfl hM (v8a hp hf') (by rw [hal]; omega)
   rw [hal] at this
   exact this
  ·have hA := SG.apartM (A := [_, _, _, _, _, _, _, _, _, _, _]) hM
   have := SG.rdBs (M := M) 5 rfl (R0a hM (SG.new 5 rfl)) (bs := c.buf.set t _) (by simp; omega) (hR4.rd (A := [_, _, _, _, _, _, _, _, _, _, _]) SG (Mx := M) (fun g hg => by simp [hg]) hA (fun x hx => by
    obtain ⟨q, hq, rfl⟩ := List.getElem_of_mem hx
    have := (hf'.bufs q _ (List.getElem?_eq_getElem hq)).1
    omega))
   rw [List.length_set] at this
   exact this
 try have hR4 := hR.keep (KM.mono (fun g hg => List.mem_append_left _ (List.mem_append_left _ hg)))
 refine lO0 rfl ⟨⟩ (s0a Z3a rfl (by exact S.cell 4 rfl rfl) rfl ?_)
 refine lO0 rfl ⟨⟩ (s0a E0a rfl (by exact S.cell 9 rfl rfl) rfl ?_)
 refine lO0 rfl ⟨⟩ (s0a E0a rfl (by exact S.cell 3 rfl rfl) rfl ?_)
 refine H0a W0a.slT rfl (by rfl) rfl (by omega) (by omega) rfl ?_
 first | refine u0a (kk := 6) S D8a rfl (by conv => lhs; whnf) rfl rfl (by (simp; omega)) ?_
 intro w15_7 S15_7 X15_7
 replace hR4 := hR4.keep (X15_7.mono (by simp))
 refine lO0 rfl ⟨⟩ (s0a E0a rfl (by exact S15_7.cell 3 rfl rfl) rfl ?_)
 refine lB0 rfl ⟨⟩ (fun h100 => ?_) fun h100 => ?_
 ·refine lO0 rfl ⟨⟩ (s0a Z3a rfl (by exact S15_7.cell 4 rfl rfl) rfl ?_)
  refine lO0 rfl ⟨⟩ (s0a E0a rfl (by exact S15_7.cell 3 rfl rfl) rfl ?_)
  have q6 := hk6 (by omega)
  refine H0a W0a.slT rfl (by rfl) rfl (by omega) (by omega) rfl ?_
  first | refine u0a (kk := 6) S15_7 D8a rfl (by conv => lhs; whnf) rfl rfl (by (simp; omega)) ?_
  intro w17_5 S17_5 X17_5
  replace hR4 := hR4.keep (X17_5.mono (by simp))
  refine lO0 rfl ⟨⟩ (X1a t1a rfl (S17_5.cells 4 rfl) rfl rfl ?_)
  first | refine d0a (kk := 8) (vs := [_, _, _]) S17_5 K2a rfl rfl rfl rfl rfl rfl rfl ?_
  intro w18_1 S18_1 X18_1
  dsimp only [n0a, List.set] at S18_1
  replace hR4 := hR4.keep (X18_1.mono (by simp))
  refine lR0 rfl ⟨⟩ ?_
  have SF := S18_1.setEnt 6 rfl (show _ = (atC c t s).map (Value.int .i64) ++ pada by exact U8b h100 (by omega) (by omega) (by simp) (by simp))
  have hal := A5a c t s
  rw [J0b h76 (k := k) (by omega)] at hf' ⊢
  have SG := SF
  refine y1a (n := 3) rfl t1a rfl (SG.cells 8 rfl) rfl ⟨⟨_, rfl, _, _, _, rfl, hrm.rdI SG (k := 7) rfl hM (d5a hp hf'.mem) (by simp; omega), ?_, ?_⟩, SG.fin⟩
  ·have := (z3a.ofPad (g := ga) (l := atC c t s) (pad := pada) (by rw [hal]; exact hmxa)).rdI SG (k := 6) rfl hM (v8a hp hf') (by rw [hal]; omega)
   rw [hal] at this
   exact this
  ·have hA := SG.apartM (A := [_, _, _, _, _, _, _, _, _, _, _]) hM
   have := SG.rdBs (M := M) 5 rfl (R0a hM (SG.new 5 rfl)) (bs := c.buf) (by omega) (hR4.rd (A := [_, _, _, _, _, _, _, _, _, _, _]) SG (Mx := M) (fun g hg => by simp [hg]) hA (fun x hx => by
    obtain ⟨q, hq, rfl⟩ := List.getElem_of_mem hx
    have := (hf'.bufs q _ (List.getElem?_eq_getElem hq)).1
    omega))
   exact this
 refine lO0 rfl ⟨⟩ (X1a t1a rfl (S15_7.cells 4 rfl) rfl rfl ?_)
 first | refine d0a (kk := 8) (vs := [_, _, _]) S15_7 K2a rfl rfl rfl rfl rfl rfl rfl ?_
 intro w18_1 S18_1 X18_1
 dsimp only [n0a, List.set] at S18_1
 replace hR4 := hR4.keep (X18_1.mono (by simp))
 refine lR0 rfl ⟨⟩ ?_
 have SF := S18_1.setEnt 6 rfl (show _ = (atC c t s).map (Value.int .i64) ++ pada by exact K3c h100 (by omega) (by simp))
 have hal := A5a c t s
 rw [J0b h76 (k := k) (by omega)] at hf' ⊢
 have SG := SF
 refine y1a (n := 3) rfl t1a rfl (SG.cells 8 rfl) rfl ⟨⟨_, rfl, _, _, _, rfl, hrm.rdI SG (k := 7) rfl hM (d5a hp hf'.mem) (by simp; omega), ?_, ?_⟩, SG.fin⟩
 ·have := (z3a.ofPad (g := ga) (l := atC c t s) (pad := pada) (by rw [hal]; exact hmxa)).rdI SG (k := 6) rfl hM (v8a hp hf') (by rw [hal]; omega)
  rw [hal] at this
  exact this
 ·have hA := SG.apartM (A := [_, _, _, _, _, _, _, _, _, _, _]) hM
  have := SG.rdBs (M := M) 5 rfl (R0a hM (SG.new 5 rfl)) (bs := c.buf) (by omega) (hR4.rd (A := [_, _, _, _, _, _, _, _, _, _, _]) SG (Mx := M) (fun g hg => by simp [hg]) hA (fun x hx => by
   obtain ⟨q, hq, rfl⟩ := List.getElem_of_mem hx
   have := (hf'.bufs q _ (List.getElem?_eq_getElem hq)).1
   omega))
  exact this
end Go.Proofs.YtjjmdcnmeommbaaGreatDoor
namespace Go.Fw
open Go.RowKit
def NC (w : World) (rs : List (Nat × Obj)) : Prop := ∀ x ∈ rs, w.heap[x.1]? = some x.2 ∧ ∀ a t f, x.2 ≠ .cells a t f
theorem NC.nil {w : World} : NC w [] := fun x hx => by cases hx
theorem NC.lt {w : World} {rs : List (Nat × Obj)} (h : NC w rs) : ∀ x ∈ rs, x.1 < w.heap.size := fun x hx => by
 have := (h x hx).1
 rcases Nat.lt_or_ge x.1 w.heap.size with h' | h'
 ·exact h'
 ·rw [Array.getElem?_eq_none h'] at this; cases this
theorem NC.keep {w w' : World} {rs : List (Nat × Obj)} (h : NC w rs) (k : x0a [] w w') : NC w' rs := fun x hx => ⟨(k.same x.1 (h.lt x hx) (by simp)).trans (h x hx).1, (h x hx).2⟩
theorem NC.ne {w : World} {rs : List (Nat × Obj)} (h : NC w rs) {g t : Nat} {cs : List Value} (hg : r0a w (g, t, cs)) : ∀ x ∈ rs, x.1 ≠ g := fun x hx he => by
 have h1 := (h x hx).1
 rw [he] at h1
 unfold r0a at hg
 rw [hg] at h1
 exact (h x hx).2 _ _ _ (Option.some.inj h1).symm
theorem NC.keepS {w w' : World} {rs : List (Nat × Obj)} (h : NC w rs) {g t : Nat} {cs : List Value} (k : x0a [g] w w') (hg : r0a w (g, t, cs)) : NC w' rs := fun x hx =>
 ⟨(k.same x.1 (h.lt x hx) (by rw [List.mem_singleton]; exact h.ne hg x hx)).trans (h x hx).1, (h x hx).2⟩
theorem NC.keepL {w w' : World} {rs : List (Nat × Obj)} (h : NC w rs) {Gs : List Nat} (k : x0a Gs w w') (hg : ∀ g ∈ Gs, ∃ t cs, r0a w (g, t, cs)) : NC w' rs := fun x hx =>
 ⟨(k.same x.1 (h.lt x hx) (fun hh => by obtain ⟨t, cs, hb⟩ := hg _ hh; exact h.ne hb x hx rfl)).trans (h x hx).1, (h x hx).2⟩
theorem NC.tail {w : World} {x : Nat × Obj} {rs : List (Nat × Obj)} (h : NC w (x :: rs)) : NC w rs := fun y hy => h y (List.mem_cons_of_mem _ hy)
theorem NC.cons {w : World} {x : Nat × Obj} {rs : List (Nat × Obj)} (h : NC w rs) (h1 : w.heap[x.1]? = some x.2) (h2 : ∀ a t f, x.2 ≠ .cells a t f) : NC w (x :: rs) := fun y hy => by
 rcases List.mem_cons.1 hy with rfl | hy
 ·exact ⟨h1, h2⟩
 ·exact h y hy
theorem NC.put {w : World} {l : Nat} {o o' : Obj} {rs : List (Nat × Obj)} (h : NC w ((l, o) :: rs)) (hl : ∀ x ∈ rs, x.1 ≠ l) (ho : ∀ a t f, o' ≠ .cells a t f) : NC (w.putObj l o') ((l, o') :: rs) := by
 have hlt := h.lt (l, o) (by simp)
 refine NC.cons (fun x hx => ⟨?_, (h.tail x hx).2⟩) (World.putObj_heap_same hlt) ho
 rw [World.putObj_heap_other (hl x hx)]; exact (h.tail x hx).1
theorem St.putObj {M : List Nat} {w0 w : World} {L : List Ent} (S : St M w0 w L) {l : Nat} (o : Obj) {rs : List (Nat × Obj)} {o1 : Obj} (h : NC w rs) (hx : (l, o1) ∈ rs) (hl : w0.heap.size ≤ l ∨ l ∈ M) : St M w0 (w.putObj l o) L := by
 refine ⟨S.below.putObj o hl, fun b hb g hg => ⟨(S.own b hb g hg).1, (S.own b hb g hg).2.putObj (fun he => ?_)⟩, S.apart⟩
 exact h.ne (S.own b hb g hg).2 _ hx he.symm
def q6a (rs : List Nat) : List (Nat × Obj) := rs.map fun r => (r, .deferred (some []))
theorem R9b {rs : List Nat} {x : Nat × Obj} (h : x ∈ q6a rs) : x.1 ∈ rs := by
 obtain ⟨_, hr, rfl⟩ := List.mem_map.1 h; exact hr
def N4a (P : Program) (fn : Func) (R : Value → World → Prop) (D : List Deferred) (e : Env) (w : World) : Prop :=
 ∃ rs : List Nat, D = rs.map f4a ∧ rs.Nodup ∧ NC w (q6a rs) ∧ ∀ w', F0a rs w w' → w'.heap.size = w.heap.size → ∀ tmps : Array Value, I0a { tmps, defers := [] } = e → ∃ v, (results fn tmps).run P w' = .ok v w' ∧ R v w'
theorem s8a {P : Program} {fn : Func} {tmps : Array Value} {R : Value → World → Prop} : ∀ (rs : List Nat) (w : World), rs.Nodup → NC w (q6a rs) → (∀ w', F0a rs w w' → w'.heap.size = w.heap.size → ∃ v, (results fn tmps).run P w' = .ok v w' ∧ R v w') →
 LeavesInM Fence.wide 0 P fn tmps (fun en w' => ∃ v, en = .returned v ∧ R v w') (rs.map f4a) .returning w
 | [], w, _, _, h => by
   obtain ⟨v, h1, h2⟩ := h w (F0a.refl _ _) rfl
   exact ⟨v, h1, v, rfl, h2⟩
 | r :: rs, w, hn, hO, h => by
   obtain ⟨hn1, hn2⟩ := List.nodup_cons.1 hn
   have hr : w.heap[r]? = some (.deferred (some [])) := (hO (r, .deferred (some [])) (by simp [q6a])).1
   refine ⟨by simp, .inl ⟨r, _, rfl, run_takeDeferred hr, s8a rs _ hn2 (fun x hx => ⟨?_, (hO x (by simp [q6a] at hx ⊢; exact .inr hx)).2⟩) fun w' hb hs => ?_⟩⟩
   ·rw [World.putObj_heap_other (show x.1 ≠ r from fun he => hn1 (by rw [← he]; exact R9b hx))]
    exact (hO x (by simp [q6a] at hx ⊢; exact .inr hx)).1
   ·refine h w' ⟨hb.os, hb.tape, hb.output, by simpa using hb.size, fun k hk hm => ?_⟩ (by simpa using hs)
    simp only [List.mem_cons, not_or] at hm
    rw [hb.block k (by simpa using hk) hm.2, World.putObj_heap_other hm.1]
theorem T2a {P : Program} {N : Nat} {w : World} {f : FuncId} {fn : Func} {c : Code} {args : Array Value} {R : Value → World → Prop} (hf : P.funcs[f]? = some fn) (hb : fn.body = some c) (hN : fn.ntmps = N) (hle : Nat.ble args.size N = true)
 (h : W P none N c ⟨N4a P fn R, fun _ _ _ _ => False, N4a P fn R⟩ [] (d9a args) w) : J0a P f args w R := by
 subst hN
 unfold W at h
 have hsz : (args ++ Array.replicate (fn.ntmps - args.size) undef).size = fn.ntmps := by
  have := Nat.le_of_ble_eq_true hle
  simp; omega
 have h1 := h { tmps := args ++ Array.replicate (fn.ntmps - args.size) undef, defers := [] } hsz rfl (n9a _ _)
 have key : ∀ (a : Act) (w : World), N4a P fn R a.defers (I0a a) w → LeavesInM Fence.wide 0 P fn a.tmps (fun en w' => ∃ v, en = .returned v ∧ R v w') a.defers .returning w := by
  intro a w hq
  obtain ⟨rs, hD, hn, hO, hq⟩ := hq
  rw [hD]
  exact s8a rs w hn hO fun w' hb hs => hq w' hb hs a.tmps rfl
 refine callsIn_wide (n := 0).1 (callsIn_of_wp_marks hf hb trivial (wpIn_mono h1 fun ex a w hq => ?_))
 cases ex with
 | normal => exact key a w hq.2
 | ret => exact key a w hq.2
 | exit id => exact hq.2
 | goto l => exact hq
 | panic c => exact hq.elim
 | outgrown => exact hq.elim
section
variable {P : Program} {fn : Func} {R : Value → World → Prop} {D : List Deferred} {e : Env} {w : World}
theorem Y1a {a1 t1 n a2 t2 g1 g2 : Nat} {cs : List Value} {v2 : Value} (h : fn.results = #[.cell a1 t1, .cell a2 t2]) (hM : K6a P t1 n) (hO2 : One P t2) (e1 : e a1 = .pointer (some ⟨g1, 0, none⟩)) (e2 : e a2 = .pointer (some ⟨g2, 0, none⟩)) (hn1 : cs.length = n)
 (rs : List Nat) (hD : D = rs.map f4a) (hn : rs.Nodup) (hO : NC w (q6a rs)) (hc1 : o1a w g1 0 cs) (hc2 : w.cell? ⟨g2, 0, none⟩ = some v2) (hg1 : g1 ∉ rs) (hg2 : g2 ∉ rs) (hR : ∀ w', F0a rs w w' → R (.tuple #[.agg cs.toArray, v2]) w') : N4a P fn R D e w :=
 ⟨rs, hD, hn, hO, fun w' hb _ tmps he => by
  have hk : x0a rs w w' := ⟨hb.size, hb.block⟩
  have c1 := hc1.keep hk hg1
  have c2 := hk.cell (a := ⟨g2, 0, none⟩) hg2 hc2
  subst he; subst hn1
  simp only [I0a, Array.getD_eq_getD_getElem?] at e1 e2
  have h1 := run_loadCells_list (P := P) w' ⟨g1, 0, none⟩ cs (fun j v hj => by rw [Addr.add_lit]; exact c1 j v hj)
  have h2 : (loadVar t2 ⟨g2, 0, none⟩).run P w' = .ok v2 w' := by rw [hO2 w']; simp [load, Sem.run, c2]
  exact ⟨_, by simp [results, h, asAddr, e1, e2, hM w', h1, h2], hR w' hb⟩⟩
end
theorem x0a.of_belowM {M : List Nat} {w w' : World} (h : F0a M w w') : x0a M w w' := ⟨h.size, h.block⟩
theorem M4a {w wi : World} {rs : List (Nat × Obj)} {rc : Loop} (hO : NC w rs) (hdr : wi.heap[w.heap.size]? = some (.deferred (some []))) (hl : wi.heap[w.heap.size + 1]? = some (.loop rc)) (hB : Below w.heap.size w wi) : NC wi ((w.heap.size + 1, .loop rc) :: (w.heap.size, .deferred (some [])) :: rs) :=
 ((hO.keep (x0a.of_below hB)).cons hdr (by simp)).cons hl (by simp)
end Go.Fw
namespace Go.Fw
open Go.RowKit
theorem h7a {m : Int} {b : List G0a} {i : Nat} {en : G0a} (h : b[i]? = some en) : H3a m b i = (decide (i = 0) || (decide (m = 2) && !((b.take i).any fun o => z3b o en))) := by
 unfold H3a
 congr 2
 rw [Bool.eq_iff_iff]
 rw [List.all_eq_true, Bool.not_eq_true', List.any_eq_false]
 have hlt := z1a h
 constructor
 ·intro h1 o ho
  obtain ⟨j, hj, rfl⟩ := List.getElem_of_mem ho
  rw [List.length_take] at hj
  have := h1 j (List.mem_range.2 (by omega))
  rw [h, List.getElem?_eq_getElem (by omega)] at this
  rw [List.getElem_take]
  simpa using this
 ·intro h1 j hj
  have hj := List.mem_range.1 hj
  rw [h, List.getElem?_eq_getElem (show j < b.length by omega)]
  have := h1 b[j] (by rw [List.mem_take_iff_getElem]; exact ⟨j, by omega, rfl⟩)
  simpa using this
end Go.Fw
namespace Go.Proofs.YtjjmdcnmeommbaaGreatDoor
open Go.Fw Go.RowKit
theorem j6c (cs : List Value) (h8 : cs.length = 8) (t : Int) (w0 : World) :
 J0a Tryz.prog 137 #[.agg cs.toArray, .int .i64 t] w0 fun v w' => (∃ gs gt, v = .func (.func 174) #[] #[.pointer (some ⟨gs, 0, none⟩), .pointer (some ⟨gt, 0, none⟩)] ∧ w0.heap.size ≤ gs ∧ w0.heap.size ≤ gt ∧ r0a w' (gs, 189, cs) ∧ r0a w' (gt, 3, [.int .i64 t])) ∧ Below w0.heap.size w0 w' := by
 have S := St.refl w0
 match cs, h8 with
 | [c0, c1, c2, c3, c4, c5, c6, c7], _ =>
 refine a0a Tryz.func137 rfl Tryz.ntmps137 rfl ?_
 refine wO0 rfl ⟨⟩ (m0a S (by conv => lhs; whnf) rfl ?_)
 intro g2 w2 S2 X2 G2
 refine Q6a S2 (v := .int .i64 _) rfl rfl rfl ?_
 intro g3 w3 S3 X3 G3
 refine lO0 rfl ⟨⟩ (G1a rfl rfl ?_)
 refine lR0 rfl ⟨⟩ (o0a rfl (by conv => lhs; whnf) ?_)
 exact ⟨⟨g2, g3, rfl, by simpa using S3.new 1 rfl, by simpa using S3.new 0 rfl, S3.blk 1 rfl, S3.blk 0 rfl⟩, S3.fin⟩
theorem A1c (c : B0a) (m : Int) (t : Nat) (b : List G0a) (hxb : c.buf[t]? = some b) (gs gt l : Nat) (Mf : List Nat) (w0 : World) (xs ps : List Value) (hps : ps.length = 4) (J : Nat → World → Prop) (Q : World → Prop)
 (hX : K0a Mf w0 c xs) (hgs : gs ∉ Mf) (hbs : r0a w0 (gs, 189, xs ++ (ps ++ [.int .i64 m]))) (hbt : r0a w0 (gt, 3, [.int .i64 t]))
 (hJ0 : J 0 w0) (hJK : ∀ i w, J i w → x0a Mf w0 w) (hJs : ∀ i w w', J i w → Below w.heap.size w w' → J i w') (hJn : ∀ i w, J i w → i < b.length → H3a m b i = false → J (i + 1) w)
 (hY : ∀ (i : Nat) (en : G0a) (w : World) (es : List Value), b[i]? = some en → H3a m b i = true → J i w → (∀ (M' : List Nat) (w' : World), (∀ g ∈ M', g ∈ Mf ∨ w0.heap.size ≤ g) → x0a M' w0 w' → a1a M' w' es en) → Yld Tryz.prog l #[.int .i64 i, .agg es.toArray] w fun v w' => (v = .bool true ∧ J (i + 1) w') ∨ (v = .bool false ∧ Q w')) :
 J0a Tryz.prog 174 #[.func (.yield l) #[] #[], .pointer (some ⟨gs, 0, none⟩), .pointer (some ⟨gt, 0, none⟩)] w0 fun _ w' => J b.length w' ∨ Q w' := by
 obtain ⟨_, _, _, _, _, _, Xb, xb, yb, rfl, _, _, hBuf, _, _, _, _, _, _⟩ := hX.open_
 match ps, hps with
 | [c3, c4, c5, c6], _ =>
 have S := St.refl w0
 have hbs2 : w0.cell? ⟨gs, 2, none⟩ = some (.slice Xb xb yb) := hbs.cell rfl
 have hbt2 : w0.cell? ⟨gt, 0, none⟩ = some (.int .i64 t) := hbt.cell rfl
 have ht := z1a hxb
 refine a0a Tryz.func174 rfl Tryz.ntmps174 rfl ?_
 refine wO0 rfl ⟨⟩ (s0a h6a rfl (by exact S.old hbs2) rfl ?_)
 refine s0a E0a rfl (by exact S.old hbt2) rfl ?_
 obtain ⟨_, b11, p11, _, hx11, hA11, _, _, hc11, hr11⟩ := RdS.get (hBuf) (t) (by omega)
 obtain rfl := Option.some.inj (hxb.symm.trans hx11)
 obtain ⟨Ab11, nb11, cb11, rfl, hBu11, _, _⟩ := f7a.open_ hr11
 refine lC (S.k.a hc11) [.x b11 p11,.f 0 0] rfl ⟨rfl,⟨hA11,by omega⟩,⟨⟩⟩ (wL (fun μ D ε w => D = [] ∧ ∃ k : Nat, (k + μ = b.length) ∧ (J k w) ∧ ε 0 = .func (.yield l) #[] #[] ∧ ε 1 = .pointer (some ⟨gs, 0, none⟩) ∧ ε 4 = .slice Ab11 nb11 cb11 ∧ ε 13 = .slice Ab11 nb11 cb11 ∧ ε 14 = .int .i64 nb11 ∧ ε 15 = .int .i64 k) (μ := b.length) ⟨rfl, 0, by omega, hJ0, rfl, rfl, rfl, rfl, rfl, rfl⟩ ?_)
 rintro μ D ε w ⟨rfl, k, hk, hJ, e0, e1, e4, e13, e14, e15⟩
 refine k0a 0 e0 (k0a 1 e1 (k0a 4 e4 (k0a 13 e13 (k0a 14 e14 (k0a 15 e15 ?_)))))
 clear e0 e1 e4 e13 e14 e15
 have hKw := hJK _ _ hJ
 have hBu3 := RdS.keepW hBu11 hKw (a1a.keep hKw)
 have hBu2 := (RdS.mono hBu11 (R' := fun cs x => ∀ (M' : List Nat) (w' : World), (∀ g ∈ M', g ∈ Mf ∨ w0.heap.size ≤ g) → x0a M' w0 w' → a1a M' w' cs x) (fun cs x h M' w' hm hk => a1a.keep hk _ _ (a1a.more hm _ _ h))).keep hKw
 have hbm2 : w.cell? ⟨gs, 7, none⟩ = some (.int .i64 m) := hKw.cell (a := ⟨gs, 7, none⟩) hgs (hbs.cell rfl)
 replace S := St.refl w
 refine wB0 rfl ⟨⟩ (fun h16 => ?_) fun h16 => ?_
 ·obtain ⟨en, b18, p18, _, hxen, hA18, _, hl18, hc18, hr18⟩ := RdS.get (hBu2) (k) (by omega)
  have hrE := hr18 Mf _ (fun g hg => .inl hg) hKw
  obtain ⟨_, _, _, _, _, _, rfl, -⟩ := a1a.open_ hrE
  refine lO (S.k.a hc18) [.x b18 p18,.v 0] rfl ⟨⟨rfl,hl18⟩,⟨hA18,by omega⟩,⟨⟩⟩ (g0a S n8a rfl rfl ?_)
  intro g6 w6 S6 X6 G6
  refine lO0 rfl ⟨⟩ ?_
  first | refine d0a (kk := 0) (vs := [_, _]) S6 I9a rfl rfl rfl rfl rfl rfl rfl ?_
  intro w3_5 S3_5 X3_5
  dsimp only [n0a, List.set] at S3_5
  refine lC0 rfl ⟨⟩ (A0a b0a [0, 1, 2, 3, 4, 5, 6, 7, 8, 9, 10, 11, 12, 13] [] [] (by kernel_rfl) rfl (Cl _ _ _ _) (Cl.start S3_5) ?_)
  refine qB0 rfl ⟨⟩ (fun h21 => ?_) fun h21 => ?_
  ·refine qO0 rfl ⟨⟩ (j0a E0a rfl (fun w1 hw => by exact hw.1.old hbm2) rfl ?_)
   refine qB0 rfl ⟨⟩ (fun h25 => ?_) fun h25 => ?_
   ·refine qD rfl ⟨⟩ ?_
    rintro wR4 ⟨SR4, XR4⟩
    refine lP0 rfl ⟨by omega,⟨⟩⟩ ?_
    exact ⟨μ - 1, by omega, rfl, k + 1, by omega, hJs _ _ _ (hJn _ _ hJ (by omega) (by rw [h7a hxen, decide_eq_false (show ¬ k = 0 by omega), decide_eq_false (show ¬ m = 2 from h25)]; rfl)) SR4.fin, rfl, rfl, rfl, rfl, rfl, rfl⟩
   refine qO0 rfl ⟨⟩ ?_
   refine z4b (lo := 0) (hi := k) (kd := .i64) q3a.slT (show _ = Value.slice (some ⟨b18, p18, none⟩) nb11 cb11 by rw [← hA18]; rfl) (.inl ⟨rfl, rfl⟩) (.inr rfl) (by omega) (by have := hBu2.len; omega) hBu2.len.2.1 rfl ?_
   simp only [Nat.zero_mul, Nat.add_zero, Nat.sub_zero, ite_self]
   refine qO S3_5.q [.w 0] rfl ⟨⟨rfl,by rfl⟩,⟨⟩⟩ (L1a e5c rfl rfl (fun w1 S1 X1 => e7b (b.take k) en Mf _ _ _ (RdS.take (RdS.keepW (hA18 ▸ hBu3) (S1.keep0 Mf) (a1a.keep (S1.keep0 Mf))) k (by omega)) (a1a.keep (S1.keep0 Mf) _ _ hrE)) (fun h31 => ?_) fun h31 => ?_)
   ·refine qD rfl ⟨⟩ ?_
    rintro wR4 ⟨SR4, XR4⟩
    refine lP0 rfl ⟨by omega,⟨⟩⟩ ?_
    exact ⟨μ - 1, by omega, rfl, k + 1, by omega, hJs _ _ _ (hJn _ _ hJ (by omega) (by rw [h7a hxen, decide_eq_false (show ¬ k = 0 by omega), h31]; simp)) SR4.fin, rfl, rfl, rfl, rfl, rfl, rfl⟩
   refine qD rfl ⟨⟩ ?_
   rintro wR4 ⟨SR4, XR4⟩
   refine lO SR4.k [.w 0] rfl ⟨⟨rfl,by rfl⟩,⟨⟩⟩ ?_
   have hrd : H3a m b k = true := by
    rw [h7a hxen]
    rw [decide_eq_true (show m = 2 by omega), h31]; simp
   refine R7a rfl rfl rfl (hY k en _ _ hxen hrd (hJs _ _ _ hJ SR4.fin) hr18) ?_
   rintro v37 w37 (⟨rfl, hJ37⟩ | ⟨rfl, hQ37⟩)
   ·exact lP0 rfl ⟨by omega,⟨⟩⟩ ⟨μ - 1, by omega, rfl, k + 1, by omega, hJ37, rfl, rfl, rfl, rfl, rfl, rfl⟩
   refine lR0 rfl ⟨⟩ (C1a rfl ?_)
   exact .inr hQ37
  refine qD rfl ⟨⟩ ?_
  rintro wR4 ⟨SR4, XR4⟩
  refine lO SR4.k [.w 0] rfl ⟨⟨rfl,by rfl⟩,⟨⟩⟩ ?_
  have hrd : H3a m b k = true := by
   rw [h7a hxen]
   rw [decide_eq_true (show k = 0 by omega)]; rfl
  refine R7a rfl rfl rfl (hY k en _ _ hxen hrd (hJs _ _ _ hJ SR4.fin) hr18) ?_
  rintro v37 w37 (⟨rfl, hJ37⟩ | ⟨rfl, hQ37⟩)
  ·exact lP0 rfl ⟨by omega,⟨⟩⟩ ⟨μ - 1, by omega, rfl, k + 1, by omega, hJ37, rfl, rfl, rfl, rfl, rfl, rfl⟩
  refine lR0 rfl ⟨⟩ (C1a rfl ?_)
  exact .inr hQ37
 refine lF0 rfl ⟨⟩ (C1a rfl ?_)
 obtain rfl : k = b.length := by omega
 exact .inl hJ
end Go.Proofs.YtjjmdcnmeommbaaGreatDoor
namespace Go.Fw
open Go.RowKit
theorem Q8a {rc : Loop} (hst : rc.state = .ready) (hpe : rc.pending = none) : ({ ({ rc with state := .busy } : Loop) with state := if (none : Option Code).isNone then .ready else .done, pending := none } : Loop) = rc := by
 cases rc; simp at hst hpe ⊢; exact ⟨hst.symm, hpe.symm⟩
theorem v5c {M : List Nat} {w0 w : World} {L : List Ent} (S : St M w0 w L) (k : Nat) {G : Option Nat} {t : TypeId} {cs : List Value} (hk : L[k]? = some (G, t, cs)) : ∀ g ∈ G.toList, ∃ t cs, r0a w (g, t, cs) := fun g hg => by
 have : G = some g := by cases G <;> simp at hg ⊢; exact hg.symm
 subst this
 exact ⟨_, _, S.blk k hk⟩
end Go.Fw
namespace Go.Proofs.YtjjmdcnmeommbaaGreatDoor
open Go.Fw Go.RowKit
end Go.Proofs.YtjjmdcnmeommbaaGreatDoor
namespace Go.Fw
open Go.RowKit
def u4b (p : e0a) (m : Int) (c : B0a) (x : c0a) : B0a × Int := if x ∈ N0a p m c then (doC p m c x, 0) else (⟨[], [], []⟩, 110)
theorem R5a {p : e0a} {m : Int} {c : B0a} {x : c0a} (h : x ∈ N0a p m c) : u4b p m c x = (doC p m c x, 0) := if_pos h
theorem f3a {p : e0a} {m : Int} {c : B0a} {x : c0a} (h : x ∉ N0a p m c) : u4b p m c x = (⟨[], [], []⟩, 110) := if_neg h
theorem x2a {M : List Nat} {w : World} : K0a M w ⟨[], [], []⟩ [.slice none 0 0, .slice none 0 0, .slice none 0 0] := ⟨_, _, _, rfl, I1a, I1a, I1a⟩
section
variable {p : e0a} {m : Int} {c : B0a} {t : Nat} {b : List G0a}
theorem L0b {x : c0a} (h : x.thread < 0 ∨ p.threads.length ≤ x.thread) : x ∉ N0a p m c := fun hx => by
 obtain ⟨_, _, ⟨i, _, _, _, rfl⟩ | ⟨i, _, _, rfl⟩⟩ := H1a.1 hx
 ·simp at h; omega
 ·simp at h; omega
theorem X0c {x : c0a} (h : x.step < -1) : x ∉ N0a p m c := fun hx => by
 obtain ⟨_, _, ⟨i, _, _, _, rfl⟩ | ⟨i, _, _, rfl⟩⟩ := H1a.1 hx
 ·simp at h; omega
 ·simp at h
theorem I1c {st cell : Int} (hs : 0 ≤ st) (h : ¬ cell = 0) : (⟨t, st, cell⟩ : c0a) ∉ N0a p m c := fun hx => by
 obtain ⟨t, _, ⟨i, _, _, _, h1⟩ | ⟨i, _, _, h1⟩⟩ := H1a.1 hx
 ·simp at h1; omega
 ·simp at h1; omega
theorem s2c {th : S0a} (hth : p.threads[t]? = some th) {st cell : Int} (hs : 0 ≤ st) (h : th.steps.length ≤ st) : (⟨t, st, cell⟩ : c0a) ∉ N0a p m c := fun hx => by
 obtain ⟨t', _, ⟨i, _, h1, _, h2⟩ | ⟨i, _, _, h1⟩⟩ := H1a.1 hx
 ·simp only [c0a.mk.injEq] at h2
  obtain ⟨_, rfl, rfl⟩ := h2
  obtain rfl : t = t' := by omega
  rw [N1a hth] at h1
  have := z1a h1
  omega
 ·simp at h1; omega
theorem T5c {th : S0a} (hth : p.threads[t]? = some th) {i : Nat} {s : k1a} (hs : th.steps[i]? = some s) {cell : Int} (h : P0a p m c t s = false) : (⟨t, i, cell⟩ : c0a) ∉ N0a p m c := fun hx => by
 obtain ⟨t', _, ⟨i', _, h1, h2, h3⟩ | ⟨i', _, _, h1⟩⟩ := H1a.1 hx
 ·simp only [c0a.mk.injEq] at h3
  obtain ⟨_, _, rfl⟩ := h3
  obtain rfl : t = t' := by omega
  obtain rfl : i = i' := by omega
  rw [N1a hth, hs] at h1
  cases h1
  rw [h] at h2; cases h2
 ·simp only [c0a.mk.injEq] at h1; omega
theorem s4c {th : S0a} (hth : p.threads[t]? = some th) {i : Nat} {s : k1a} (hs : th.steps[i]? = some s) (h : P0a p m c t s = true) : (⟨t, i, 0⟩ : c0a) ∈ N0a p m c :=
 H1a.2 ⟨t, z1a hth, .inl ⟨i, s, by rw [N1a hth]; exact hs, h, rfl⟩⟩
theorem i0d {th : S0a} (hth : p.threads[t]? = some th) {i : Nat} {s : k1a} (hs : th.steps[i]? = some s) : doC p m c ⟨t, i, 0⟩ = E6a p m c t s := L4b (by rw [N1a hth]; exact hs)
theorem m1c (hb : c.buf[t]? = some b) {xc : Int} (h : ∀ q en, q < b.length → b[q]? = some en → H3a m b q = true → en.cells.getD 0 0 ≠ xc) : (⟨t, -1, xc⟩ : c0a) ∉ N0a p m c := fun hx => by
 obtain ⟨t', _, ⟨_, _, h1, h2, h3⟩ | ⟨i, h1, h2, h3⟩⟩ := H1a.1 hx
 ·simp only [c0a.mk.injEq] at h3; omega
 ·simp only [c0a.mk.injEq] at h3
  obtain ⟨_, -, h3⟩ := h3
  obtain rfl : t = t' := by omega
  rw [getD_some hb] at h1 h2 h3
  have hx : b[i]? = some b[i] := List.getElem?_eq_getElem h1
  rw [getD_some hx] at h3
  exact h i _ h1 hx h2 h3.symm
theorem e4c (ht : t < p.threads.length) (hb : c.buf[t]? = some b) {i : Nat} {en : G0a} (hx : b[i]? = some en) (hr : H3a m b i = true) : (⟨t, -1, en.cells.getD 0 0⟩ : c0a) ∈ N0a p m c :=
 H1a.2 ⟨t, ht, .inr ⟨i, by rw [getD_some hb]; exact z1a hx, by rw [getD_some hb]; exact hr, by rw [getD_some hb, getD_some hx]⟩⟩
theorem Z3c (hb : c.buf[t]? = some b) (hne : ∀ e ∈ b, e.cells ≠ []) {i : Nat} {en : G0a} (hx : b[i]? = some en) (hr : H3a m b i = true) : doC p m c ⟨t, -1, en.cells.getD 0 0⟩ = O5a c t i := by
 unfold doC
 rw [if_pos rfl]
 simp only [Int.toNat_natCast]
 rw [getD_some hb]
 have : (b.findIdx? fun e => decide (e.cells.getD 0 0 = en.cells.getD 0 0)) = some i := by
  rw [List.findIdx?_eq_some_iff_getElem]
  refine ⟨z1a hx, ?_, fun j hj => ?_⟩
  ·have := (List.getElem?_eq_some_iff.1 hx).2
   rw [this]; simp
  ·simp only [decide_eq_true_eq]
   intro he
   have hlt := z1a hx
   have hjx : b[j]? = some b[j] := List.getElem?_eq_getElem (by omega)
   have hi0 : ¬ i = 0 := by omega
   rw [h7a hx, decide_eq_false hi0] at hr
   simp only [Bool.false_or, Bool.and_eq_true, Bool.not_eq_true', List.any_eq_false] at hr
   have h1 := hr.2 b[j] (by rw [List.mem_take_iff_getElem]; exact ⟨j, by omega, rfl⟩)
   apply h1
   rw [K2b]
   have hcn := hne en (h0a hx)
   have hcj := hne b[j] (List.getElem_mem _)
   refine ⟨en.cells.getD 0 0, ?_, ?_⟩
   ·cases hc : en.cells with
    | nil => exact absurd hc hcn
    | cons a l => simp
   ·rw [← he]
    cases hc : (b[j]).cells with
    | nil => exact absurd hc hcj
    | cons a l => simp
 rw [this]; rfl
end
theorem g8a {w0 w : World} {L : List Ent} {M : List Nat} (S : St [] w0 w L) {i j g g' t t' : Nat} {cs cs' : List Value} (h0 : L[i]? = some (some g, t, cs)) (h1 : L[j]? = some (some g', t', cs')) : ∀ x ∈ g :: g' :: M, x ∈ M ∨ w0.heap.size ≤ x := fun x hx => by
 rcases List.mem_cons.1 hx with rfl | hx
 ·exact .inr (by simpa using S.new i h0)
 ·rcases List.mem_cons.1 hx with rfl | hx
  ·exact .inr (by simpa using S.new j h1)
  ·exact .inl hx
theorem t0c {w0 w : World} {L : List Ent} {M : List Nat} (S : St [] w0 w L) {i j g g' t t' : Nat} {cs cs' : List Value} (h0 : L[i]? = some (some g, t, cs)) (h1 : L[j]? = some (some g', t', cs')) (hM : ∀ g ∈ M, g < w0.heap.size) : ∀ x ∈ g :: g' :: M, x < w.heap.size := fun x hx => by
 rcases List.mem_cons.1 hx with rfl | hx
 ·exact S.lt i h0
 ·rcases List.mem_cons.1 hx with rfl | hx
  ·exact S.lt j h1
  ·exact Nat.lt_of_lt_of_le (hM x hx) S.size
end Go.Fw
namespace Go.Proofs.YtjjmdcnmeommbaaGreatDoor
open Go.Fw Go.RowKit
theorem InP.two {p : e0a} {M : List Nat} {w0 w : World} {cs : List Value} (h : InP p M w0 cs) {L : List Ent} (S : St [] w0 w L) {i j g g' t t' : Nat} {ds ds' : List Value} (h0 : L[i]? = some (some g, t, ds)) (h1 : L[j]? = some (some g', t', ds')) : InP p (g :: g' :: M) w cs :=
 ⟨(h.rd.more (g8a S h0 h1)).keep (S.keep0 _), h.ok, (h.msk.more (g8a S h0 h1)).keep (S.keep0 _), t0c S h0 h1 h.lt⟩
theorem k3b (p : e0a) (c : B0a) (x : c0a) (M : List Nat) (w0 : World) (cs xs : List Value) (hI : InP p M w0 cs) (hX : K0a M w0 c xs) (hf : b6a p c) (he : J5a c) (hx : x ∉ N0a p 0 c) :
 J0a Tryz.prog 135 #[.agg cs.toArray, .agg xs.toArray, .agg #[.int .i64 x.thread, .int .i64 x.step, .int .i64 x.cell]] w0 fun v w' => v = .tuple #[.agg #[.slice none 0 0, .slice none 0 0, .slice none 0 0], .int .i64 110] ∧ Below w0.heap.size w0 w' := by
 obtain ⟨Ac, nc, cc, Am, nm, cm, Al, nl, cl, At, nt, ct, rfl, _, _, _, _, _, _, _, _, _, _, _, _⟩ := hI.rd.open_
 obtain ⟨Xm, xm, ym, Xa, xa, ya, Xb, xb, yb, rfl, _, _, _, _, _, _, _, _, _⟩ := hX.open_
 have S := St.refl w0
 refine a0a Tryz.func135 rfl Tryz.ntmps135 rfl ?_
 refine wO0 rfl ⟨⟩ (m0a S (by conv => lhs; whnf) rfl ?_)
 intro g3 w3 S3 X3 G3
 refine m0a S3 (by conv => lhs; whnf) rfl ?_
 intro g4 w4 S4 X4 G4
 refine m0a S4 (by conv => lhs; whnf) rfl ?_
 intro g5 w5 S5 X5 G5
 refine g0a S5 c6a rfl rfl ?_
 intro g6 w6 S6 X6 G6
 refine lO S6.k [.w 3] rfl ⟨⟨rfl,rfl⟩,⟨⟩⟩ (f0a S6 M5b rfl rfl (N5a p M _ _ (hI.keep (S6.keep0 M))) ?_)
 intro w11 S11 X11
 refine lO S11.k [.w 3,.w 2] rfl ⟨⟨rfl,rfl⟩,⟨rfl,rfl⟩,⟨⟩⟩ (f0a S11 c9b rfl rfl (X9a p c M _ _ _ (hI.keep (S11.keep0 M)) (hX.keep (S11.keep0 M)) hf he) ?_)
 intro w16 S16 X16
 refine lO S16.k [.w 3,.w 2] rfl ⟨⟨rfl,rfl⟩,⟨rfl,rfl⟩,⟨⟩⟩ (C0a S16 P9b rfl rfl (d6a p c M _ _ _ (hI.keep (S16.keep0 M)) (hX.keep (S16.keep0 M)) hf he) ?_)
 rintro v22 w22 hr S22 X22
 obtain ⟨Ar, nr, cr, rfl⟩ := hr.form
 obtain ⟨_, -, _⟩ := hr.len
 have K22 := x0a.refl [] w22
 refine lC0 rfl ⟨⟩ (wL (fun μk D ε w => D = [] ∧ ∃ k : Nat, (k + μk = ((N0a p 0 c).length)) ∧ (x0a [] w22 w) ∧ St [] w0 w [(some g6, 52, [.slice none 0 0, .slice none 0 0, .slice none 0 0]), (some g5, 68, [.int .i64 x.thread, .int .i64 x.step, .int .i64 x.cell]), (some g4, 52, [.slice Xm xm ym, .slice Xa xa ya, .slice Xb xb yb]), (some g3, 27, [.slice Ac nc cc, .slice Am nm cm, .slice Al nl cl, .slice At nt ct])] ∧ Sl ε [(3, .pointer (some ⟨g3, 0, none⟩)), (4, .pointer (some ⟨g4, 0, none⟩)), (5, .pointer (some ⟨g5, 0, none⟩)), (6, .pointer (some ⟨g6, 0, none⟩)), (22, .slice Ar nr cr), (23, .int .i64 nr), (24, .int .i64 k)]) (μ := ((N0a p 0 c).length)) ⟨rfl, 0, by omega, K22, S22, rfl⟩ ?_)
 rintro μk D ε w ⟨rfl, k, _, K22, S, eZ⟩
 refine wK eZ (wB0 rfl ⟨⟩ (fun h25 => ?_) fun h25 => ?_)
 ·obtain ⟨y, b26, p26, _, hxy, hA26, _, hl26, hc26, hr26⟩ := RdS.get ((hr.keep K22.of_nil)) (k) (by omega)
  obtain ⟨rfl, _, _, _⟩ := id hr26
  refine lO (S.k.b hc26) [.x b26 p26,.v 0] rfl ⟨⟨rfl,hl26⟩,⟨hA26,by omega⟩,⟨⟩⟩ (g0a S a2b rfl rfl ?_)
  intro g9 w9 S9 X9 G9
  have GK229 := Nat.le_trans K22.size G9
  replace K22 := K22.trans X9
  refine d0a (kk := 0) (vs := [_, _, _]) S9 w0b rfl rfl rfl rfl rfl rfl rfl ?_
  intro w5_3 S5_3 X5_3
  dsimp only [n0a, List.set] at S5_3
  replace K22 := K22.fresh X5_3 (by first | exact GK229)
  refine lOn 6 S5_3.k [.w 2,.w 0] rfl ⟨⟨rfl,by rfl⟩,⟨rfl,rfl⟩,⟨⟩⟩ (z3c j0b rfl rfl rfl (fun h30 => ?_) fun h30 => ?_)
  ·exact absurd (h0a hxy) (by obtain ⟨a, b, c⟩ := x; obtain ⟨a', b', c'⟩ := y; obtain ⟨rfl, rfl, rfl⟩ := h30; exact hx)
  refine lP0 rfl ⟨by omega,⟨⟩⟩ ⟨μk - 1, by omega, rfl, (k + 1), (by omega), (K22), S5_3.tail, rfl⟩
 refine lO0 rfl ⟨⟩ (p1a j5a (vs := []) (cs := [_, _, _]) rfl rfl rfl rfl ?_)
 refine d0a (kk := 0) (vs := [_, _, _]) S K2a rfl rfl rfl rfl rfl rfl rfl ?_
 intro w9_1 S9_1 X9_1
 dsimp only [n0a, List.set] at S9_1
 exact lR0 rfl ⟨⟩ (m4a (n := 3) rfl t1a rfl (S9_1.cells 0 rfl) rfl rfl ⟨rfl, S9_1.fin⟩)
theorem p0b (p : e0a) (c : B0a) (x : c0a) (M : List Nat) (w0 : World) (cs xs : List Value) (hI : InP p M w0 cs) (hX : K0a M w0 c xs) (hf : b6a p c) (he : J5a c) :
 J0a Tryz.prog 135 #[.agg cs.toArray, .agg xs.toArray, .agg #[.int .i64 x.thread, .int .i64 x.step, .int .i64 x.cell]] w0 fun v w' => (∃ ys, v = .tuple #[.agg ys.toArray, .int .i64 (u4b p 0 c x).2] ∧ K0a M w' (u4b p 0 c x).1 ys) ∧ Below w0.heap.size w0 w' := by
 by_cases hx : x ∈ N0a p 0 c
 ·rw [R5a hx]; exact i5b p c x M w0 cs xs hI hX hf he hx
 ·rw [f3a hx]; exact (k3b p c x M w0 cs xs hI hX hf he hx).mono fun _ _ h => ⟨⟨_, h.1, x2a⟩, h.2⟩
theorem R1a : One Tryz.prog 32 := G2a Tryz.underlying32 (by intro _ h; cases h) (by intro _ _ h; cases h)
set_option maxHeartbeats 2000000 in
theorem n7b (p : e0a) (c : B0a) (m : Int) (x : c0a) (hm : (m = 0 ∧ J5a c) ∨ m = 1 ∨ m = 2) (M : List Nat) (w0 : World) (cs xs : List Value) (hI : InP p M w0 cs) (hX : K0a M w0 c xs) (hf : b6a p c) :
 J0a Tryz.prog 77 #[.agg cs.toArray, .int .i64 m, .agg xs.toArray, .agg #[.int .i64 x.thread, .int .i64 x.step, .int .i64 x.cell]] w0 fun v w' => (∃ ys, v = .tuple #[.agg ys.toArray, .int .i64 (u4b p m c x).2] ∧ K0a M w' (u4b p m c x).1 ys) ∧ Below w0.heap.size w0 w' := by
 obtain ⟨Ac, nc, cc, Am, nm, cm, Al, nl, cl, At, nt, ct, rfl, _, _, _, hTh, _, _, _, hnt, _, _, _, _⟩ := hI.rd.open_
 obtain ⟨Xm, xm, ym, Xa, xa, ya, Xb, xb, yb, rfl, _, _, _, _, _, _, _, _, _⟩ := hX.open_
 have S := St.refl w0
 have hM := hI.lt
 have hp := hI.ok
 have f2 := hf.nat
 have f3 := hf.nbuf
 have n2 := hp.nthreads
 obtain ⟨xt, xst, xc⟩ := x
 simp only
 refine T2a Tryz.func77 rfl Tryz.ntmps77 rfl (wI ?_)
 refine wO0 rfl ⟨⟩ (m0a S (by conv => lhs; whnf) rfl ?_)
 intro g4 w4 S4 X4 G4
 refine m0a S4 (by conv => lhs; whnf) rfl ?_
 intro g6 w6 S6 X6 G6
 refine m0a S6 (by conv => lhs; whnf) rfl ?_
 intro g7 w7 S7 X7 G7
 refine g0a S7 c6a rfl rfl ?_
 intro g8 w8 S8 X8 G8
 refine g0a S8 e2c rfl rfl ?_
 intro g9 w9 S9 X9 G9
 refine lB0 rfl ⟨⟩ (fun h16 => ?_) fun h16 => ?_
 ·have hm0 : m = 0 ∧ J5a c := by rcases hm with h | h | h; exact h; omega; omega
  obtain ⟨rfl, he⟩ := hm0
  refine lO S9.k [.w 4,.w 3,.w 2] rfl ⟨⟨rfl,by rfl⟩,⟨rfl,by rfl⟩,⟨rfl,by rfl⟩,⟨⟩⟩ (C0a S9 D5c rfl rfl (p0b p c ⟨xt, xst, xc⟩ (g9 :: g8 :: M) _ _ _ (hI.two S9 (i := 0) (j := 1) rfl rfl) ((hX.more (g8a S9 (i := 0) (j := 1) rfl rfl)).keep (S9.keep0 _)) hf he) ?_)
  rintro v20 w20 ⟨ys, rfl, hy⟩ S20 X20
  obtain ⟨Ym, ym', zm, Ya, ya', za, Yb, yb', zb, rfl, -⟩ := hy.open_
  refine lO0 rfl ⟨⟩ ?_
  first | refine d0a (kk := 1) (vs := [_, _, _]) S20 K2a rfl rfl rfl rfl rfl rfl rfl ?_
  intro w2_6 S2_6 X2_6
  dsimp only [n0a, List.set] at S2_6
  replace hy := hy.keep (X2_6.mono (by simp))
  first | refine u0a (kk := 0) S2_6 Z6a rfl (by conv => lhs; whnf) rfl rfl (by exact Nat.le_of_ble_eq_true rfl) ?_
  intro w2_7 S2_7 X2_7
  replace hy := hy.keep (X2_7.mono (by simp))
  exact lR0 rfl ⟨⟩ (Y1a (n := 3) rfl t1a R1a rfl rfl rfl [] rfl List.nodup_nil NC.nil (S2_7.cells 1 rfl) (S2_7.cell 0 rfl rfl) (by simp) (by simp) (fun w' hb => ⟨⟨_, rfl, (hy.keep (x0a.of_below hb.nil)).less (fun g hg => by simp [hg])⟩, (S2_7.below.trans hb).nil⟩))
 have hm2 : m = 1 ∨ m = 2 := by rcases hm with h | h | h; exact absurd h.1 (by assumption); exact .inl h; exact .inr h
 refine lO S9.k [.w 4,.w 3] rfl ⟨⟨rfl,by rfl⟩,⟨rfl,by rfl⟩,⟨⟩⟩ (f0a S9 Y3c rfl rfl (R5c p c m hm2 M _ _ _ (hI.keep (S9.keep0 M)) (hX.keep (S9.keep0 M)) hf) ?_)
 intro w27 S27 X27
 refine lO0 rfl ⟨⟩ (g0a S27 Z2c rfl rfl ?_)
 intro g10 w10 S10 X10 G10
 refine d0a (kk := 0) (vs := [_, _, _, _, _, _, _, _]) S10 F9b rfl rfl rfl rfl rfl rfl rfl ?_
 intro w3_8 S3_8 X3_8
 dsimp only [n0a, List.set] at S3_8
 refine lB S3_8.k [.o 3] rfl ⟨rfl,⟨⟩⟩ (fun h35 => ?_) fun h35 => ?_
 ·refine lO0 rfl ⟨⟩ (p1a j5a (vs := []) (cs := [_, _, _]) rfl rfl rfl rfl ?_)
  first | refine d0a (kk := 2) (vs := [_, _, _]) S3_8 K2a rfl rfl rfl rfl rfl rfl rfl ?_
  intro w7_1 S7_1 X7_1
  dsimp only [n0a, List.set] at S7_1
  first | refine u0a (kk := 1) S7_1 Z6a rfl (by conv => lhs; whnf) rfl rfl (by exact Nat.le_of_ble_eq_true rfl) ?_
  intro w7_2 S7_2 X7_2
  refine lR0 rfl ⟨⟩ ?_
  rw [f3a (L0b (x := ⟨xt, xst, xc⟩) (.inl h35))]
  exact Y1a (n := 3) rfl t1a R1a rfl rfl rfl [] rfl List.nodup_nil NC.nil (S7_2.cells 2 rfl) (S7_2.cell 1 rfl rfl) (by simp) (by simp) (fun w' hb => ⟨⟨_, rfl, x2a⟩, (S7_2.below.trans hb).nil⟩)
 refine lB S3_8.k [.o 3,.o 5] rfl ⟨rfl,rfl,⟨⟩⟩ (fun h42 => ?_) fun h42 => ?_
 ·refine lO0 rfl ⟨⟩ (p1a j5a (vs := []) (cs := [_, _, _]) rfl rfl rfl rfl ?_)
  first | refine d0a (kk := 2) (vs := [_, _, _]) S3_8 K2a rfl rfl rfl rfl rfl rfl rfl ?_
  intro w7_1 S7_1 X7_1
  dsimp only [n0a, List.set] at S7_1
  first | refine u0a (kk := 1) S7_1 Z6a rfl (by conv => lhs; whnf) rfl rfl (by exact Nat.le_of_ble_eq_true rfl) ?_
  intro w7_2 S7_2 X7_2
  refine lR0 rfl ⟨⟩ ?_
  rw [f3a (L0b (x := ⟨xt, xst, xc⟩) (.inr (by rw [← hnt]; exact h42)))]
  exact Y1a (n := 3) rfl t1a R1a rfl rfl rfl [] rfl List.nodup_nil NC.nil (S7_2.cells 2 rfl) (S7_2.cell 1 rfl rfl) (by simp) (by simp) (fun w' hb => ⟨⟨_, rfl, x2a⟩, (S7_2.below.trans hb).nil⟩)
 refine lB S3_8.k [.o 3] rfl ⟨rfl,⟨⟩⟩ (fun h47 => ?_) fun h47 => ?_
 ·refine lO0 rfl ⟨⟩ (p1a j5a (vs := []) (cs := [_, _, _]) rfl rfl rfl rfl ?_)
  first | refine d0a (kk := 2) (vs := [_, _, _]) S3_8 K2a rfl rfl rfl rfl rfl rfl rfl ?_
  intro w7_1 S7_1 X7_1
  dsimp only [n0a, List.set] at S7_1
  first | refine u0a (kk := 1) S7_1 Z6a rfl (by conv => lhs; whnf) rfl rfl (by exact Nat.le_of_ble_eq_true rfl) ?_
  intro w7_2 S7_2 X7_2
  refine lR0 rfl ⟨⟩ ?_
  rw [f3a (X0c (x := ⟨xt, xst, xc⟩) h47)]
  exact Y1a (n := 3) rfl t1a R1a rfl rfl rfl [] rfl List.nodup_nil NC.nil (S7_2.cells 2 rfl) (S7_2.cell 1 rfl rfl) (by simp) (by simp) (fun w' hb => ⟨⟨_, rfl, x2a⟩, (S7_2.below.trans hb).nil⟩)
 obtain ⟨t, rfl⟩ := Int.eq_ofNat_of_zero_le (show 0 ≤ xt by omega)
 have ht : t < p.threads.length := by omega
 obtain ⟨b, hxb⟩ : ∃ b, c.buf[t]? = some b := ⟨c.buf[t]'(by omega), List.getElem?_eq_getElem _⟩
 obtain ⟨th, hxth⟩ : ∃ th, p.threads[t]? = some th := ⟨p.threads[t]'(by omega), List.getElem?_eq_getElem _⟩
 refine lB S3_8.k [.o 3] rfl ⟨rfl,⟨⟩⟩ (fun h52 => ?_) fun h52 => ?_
 ·subst h52
  refine lO S3_8.k [.w 0,.o 3] rfl ⟨rfl,⟨rfl,by rfl⟩,⟨⟩⟩ ?_
  have Zb := S3_8.size
  refine C0a S3_8 h4c rfl rfl (j6c _ rfl (t : Int) _) ?_
  rintro v56 w56 ⟨gs, gt, rfl, _, _, hbs, hbt⟩ S56 X56
  refine lC0 rfl ⟨⟩ (wJ ?_)
  refine C6a (vs := fun y => #[y, _, _]) p5c rfl (fun _ => rfl) (fun rc wi hst hpe htm henv hps has hbo hdr hl hB hsz => ?_)
  obtain ⟨l, hl'⟩ : ∃ l, l = w56.heap.size + 1 := ⟨_, rfl⟩
  have hO1 := M4a (NC.nil (w := w56)) hdr hl hB
  rw [← hl'] at hl hO1 ⊢
  have Si := S56.later hB
  have Ki : x0a [] w56 wi := x0a.of_below hB
  have Zw := S56.size
  have lgs : gs < w56.heap.size := hbs.lt
  have hMl : ∀ g ∈ (l :: M), g ∈ M ∨ w0.heap.size ≤ g := fun g hg => by
   rcases List.mem_cons.1 hg with rfl | hg
   ·right; omega
   ·exact .inl hg
  have hXi : K0a (l :: M) wi c _ := (hX.more hMl).keep (Si.keep0 _)
  have hgsM : gs ∉ (l :: M) := fun hh => by
   rcases List.mem_cons.1 hh with h | h
   ·omega
   ·have := hM gs h; omega
  have hlne : ∀ x ∈ [(w56.heap.size, Obj.deferred (some []))], x.1 ≠ l := fun x hx => by
   rcases List.mem_cons.1 hx with rfl | hx
   ·show w56.heap.size ≠ l; omega
   ·cases hx
  refine J0a.mono (A1c c m t b hxb gs gt l (l :: M) wi _ [.slice Ac nc cc, .slice Am nm cm, .slice Al nl cl, .slice At nt ct] rfl (fun i w => NC w [(l, .loop rc), (w56.heap.size, .deferred (some []))] ∧ St [] w0 w [(some g10, 189, [.slice Xm xm ym, .slice Xa xa ya, .slice Xb xb yb, .slice Ac nc cc, .slice Am nm cm, .slice Al nl cl, .slice At nt ct, .int .i64 m]), (some g9, 32, [.int .i64 0]), (some g8, 52, [.slice none 0 0, .slice none 0 0, .slice none 0 0]), (some g7, 68, [.int .i64 t, .int .i64 (-1), .int .i64 xc]), (some g6, 52, [.slice Xm xm ym, .slice Xa xa ya, .slice Xb xb yb]), (some g4, 27, [.slice Ac nc cc, .slice Am nm cm, .slice Al nl cl, .slice At nt ct])] ∧ x0a (l :: M) wi w ∧ (∀ q en, q < i → b[q]? = some en → H3a m b q = true → en.cells.getD 0 0 ≠ xc)) (fun w => ∃ (i : Nat) (en : G0a) (ys : List Value), b[i]? = some en ∧ H3a m b i = true ∧ en.cells.getD 0 0 = xc ∧ (∀ q en, q < i → b[q]? = some en → H3a m b q = true → en.cells.getD 0 0 ≠ xc) ∧ NC w [(l, .loop { rc with state := .done, pending := some .ret }), (w56.heap.size, .deferred (some []))] ∧ St [] w0 w [(some g10, 189, [.slice Xm xm ym, .slice Xa xa ya, .slice Xb xb yb, .slice Ac nc cc, .slice Am nm cm, .slice Al nl cl, .slice At nt ct, .int .i64 m]), (some g9, 32, [.int .i64 0]), (some g8, 52, ys), (some g7, 68, [.int .i64 t, .int .i64 (-1), .int .i64 xc]), (some g6, 52, [.slice Xm xm ym, .slice Xa xa ya, .slice Xb xb yb]), (some g4, 27, [.slice Ac nc cc, .slice Am nm cm, .slice Al nl cl, .slice At nt ct])] ∧ ys.length = 3 ∧ K0a (l :: w56.heap.size :: M) w (O5a c t i) ys) hXi hgsM (f1a Ki hbs) (f1a Ki hbt) ⟨hO1, Si, x0a.refl _ _, fun q en hq => absurd hq (by omega)⟩ (fun i w hJ => hJ.2.2.1) ?_ ?_ (fun i en w es hxen hrd hJ hE => ?_)) ?_
  ·rintro i w w' ⟨hO3, S3, K3, hno⟩ hB'
   exact ⟨hO3.keep (x0a.of_below hB'), S3.later hB', K3.trans (x0a.of_below hB'), hno⟩
  ·rintro i w ⟨hO3, S3, K3, hno⟩ hi hr
   exact ⟨hO3, S3, K3, fun q en hq hx hr' => by
    by_cases hqi : q = i
    ·subst hqi; rw [hr] at hr'; cases hr'
    ·exact hno q en (by omega) hx hr'⟩
  ·obtain ⟨hO3, S3, K3, hno⟩ := hJ
   obtain ⟨_, _, _, _, _, _, rfl, -⟩ := a1a.open_ (hE _ _ (fun g hg => .inl hg) K3)
   have qE := (hf.bufs t b hxb).2.1 en (h0a hxen)
   have qE0 : 0 < en.cells.length := by
    rcases Nat.eq_zero_or_pos en.cells.length with h | h
    ·exact absurd (List.length_eq_zero_iff.1 h) qE.some_
    ·exact h
   have li := z1a hxen
   refine N8b (hO3 (l, .loop rc) (by simp)).1 hst htm henv hps has hbo rfl rfl ?_
   refine wI ?_
   refine wO0 rfl ⟨⟩ (g0a S3 n8a rfl rfl ?_)
   intro g13 w13 S13 X13 G13
   have GK313 := Nat.le_trans K3.size G13
   replace K3 := K3.trans (X13.of_nil)
   replace hO3 := hO3.keep X13
   refine d0a (kk := 0) (vs := [_, _]) S13 I9a rfl rfl rfl rfl rfl rfl rfl ?_
   intro w11_1 S11_1 X11_1
   dsimp only [n0a, List.set] at S11_1
   replace K3 := K3.fresh2 X11_1 (by exact .inl GK313)
   replace hO3 := by exact hO3.keepS X11_1 (S13.blk 0 rfl)
   refine lF0 rfl ⟨⟩ ?_
   refine ⟨(hO3 (l, .loop rc) (by simp)).1, ?_⟩
   have Sb := S11_1.putObj (.loop { rc with state := .busy }) hO3 (List.mem_cons_self) (.inl (by omega))
   have hOb := hO3.put (o' := .loop { rc with state := .busy }) hlne (by simp)
   have Kb := K3.fresh2 (h1a w11_1 l (.loop { rc with state := .busy })) (.inr (by simp))
   generalize w11_1.putObj l (.loop { rc with state := .busy }) = wb at Sb hOb Kb ⊢
   obtain ⟨_, _, _, _, _, _, heq, hCeB, -⟩ := a1a.open_ (hE (l :: M) wb (fun g hg => .inl hg) Kb)
   simp only [List.cons.injEq, Value.slice.injEq, and_true] at heq
   obtain ⟨⟨rfl, rfl, rfl⟩, rfl, rfl, rfl⟩ := heq
   have hec := hCeB.len.1
   refine wI ?_
   obtain ⟨_, _, _, _, hxx0, _, _, _, hcx, hrx⟩ := RdS.get hCeB 0 qE0
   obtain ⟨rfl, _⟩ := hrx
   refine wC0 rfl ⟨⟩ (A0a b0a [0, 1, 2, 3, 4, 5, 6] [] [] (by kernel_rfl) rfl (Cl _ _ _ _) (Cl.start Sb) ?_)
   refine qO Sb.q [.o 0] rfl ⟨rfl,⟨⟩⟩ (p0a W0a.slT rfl (by assumption) rfl (by omega) (by omega) rfl ?_)
   refine j0a E0a rfl (fun w1 hw => by exact hw.2.cell List.not_mem_nil (hcx 0 _ rfl)) rfl ?_
   refine qO0 rfl ⟨⟩ (j0a E0a rfl (fun w1 hw => by exact hw.1.cell 4 rfl rfl) rfl ?_)
   refine qB0 rfl ⟨⟩ (fun h65 => ?_) fun h65 => ?_
   ·refine qD rfl ⟨⟩ ?_
    rintro wR12 ⟨SR12, XR12⟩
    replace Kb := Kb.trans (XR12.of_nil)
    replace hOb := hOb.keep XR12
    refine lO0 rfl ⟨⟩ (X1a H8a rfl (SR12.cells 1 rfl) rfl rfl ?_)
    refine lO0 rfl ⟨⟩ (s0a E0a rfl (by exact SR12.cell 4 rfl rfl) rfl ?_)
    refine lO0 rfl ⟨⟩ ?_
    have hM4 : ∀ g ∈ l :: w56.heap.size :: g9 :: g8 :: M, g < wR12.heap.size := fun g hg => by
     rcases List.mem_cons.1 hg with rfl | hg
     ·exact hOb.lt _ List.mem_cons_self
     ·rcases List.mem_cons.1 hg with rfl | hg
      ·exact hOb.lt (w56.heap.size, .deferred (some [])) (by simp)
      ·exact t0c SR12 (i := 2) (j := 3) rfl rfl hM g hg
    have hN4 : ∀ g ∈ l :: w56.heap.size :: g9 :: g8 :: M, g ∈ M ∨ w0.heap.size ≤ g := fun g hg => by
     rcases List.mem_cons.1 hg with rfl | hg
     ·right; omega
     ·rcases List.mem_cons.1 hg with rfl | hg
      ·right; omega
      ·exact g8a SR12 (i := 2) (j := 3) rfl rfl g hg
    refine C0a SR12 K4c rfl rfl (D9b p hp c t i b (l :: w56.heap.size :: g9 :: g8 :: M) _ hM4 [.slice Ac nc cc, .slice Am nm cm, .slice Al nl cl, .slice At nt ct] [.slice Xm xm ym, .slice Xa xa ya, .slice Xb xb yb] m ⟨(hI.rd.more hN4).keep (SR12.keep0 _), hI.ok, (hI.msk.more hN4).keep (SR12.keep0 _), hM4⟩ ((hX.more hN4).keep (SR12.keep0 _)) hf hxb li) ?_
    rintro v70 w70 ⟨ys, rfl, hy⟩ S70 X70
    replace hOb := hOb.keep X70
    obtain ⟨Ym, ym', zm, Ya, ya', za, Yb, yb', zb, rfl, -⟩ := hy.open_
    first | refine d0a (kk := 3) (vs := [_, _, _]) S70 K2a rfl rfl rfl rfl rfl rfl rfl ?_
    intro w13_5 S13_5 X13_5
    dsimp only [n0a, List.set] at S13_5
    replace hOb := by exact hOb.keepS X13_5 (S70.blk 3 rfl)
    replace hy := hy.keep (X13_5.mono (by simp))
    first | refine u0a (kk := 2) S13_5 Z6a rfl (by conv => lhs; whnf) rfl rfl (by exact Nat.le_of_ble_eq_true rfl) ?_
    intro w13_6 S13_6 X13_6
    replace hOb := by exact hOb.keepS X13_6 (S13_5.blk 2 rfl)
    replace hy := hy.keep (X13_6.mono (by simp))
    refine lR0 rfl ⟨⟩ ?_
    refine ⟨{ rc with state := .busy }, (hOb (l, _) (by simp)).1, .inr ⟨rfl, ?_⟩⟩
    have hOn := hOb.put (o' := .loop { rc with state := .done, pending := some .ret }) hlne (by simp)
    have Sn := S13_6.tail.putObj (.loop { rc with state := .done, pending := some .ret }) hOb (List.mem_cons_self) (.inl (by omega))
    exact ⟨i, en, _, hxen, hrd, by rw [getD_some hxx0]; exact h65, hno, hOn, Sn, rfl, (hy.keep ((h1a w13_6 l _).mono (by simp))).less (fun g hg => by simp only [List.mem_cons] at hg ⊢; rcases hg with h | h | h <;> simp [h])⟩
   refine qD rfl ⟨⟩ ?_
   rintro wR12 ⟨SR12, XR12⟩
   replace Kb := Kb.trans (XR12.of_nil)
   replace hOb := hOb.keep XR12
   refine lF0 rfl ⟨⟩ ?_
   refine ⟨{ rc with state := .busy }, (hOb (l, _) (by simp)).1, .inl ⟨rfl, ?_⟩⟩
   have hOn := hOb.put (o' := .loop rc) hlne (by simp)
   have Sn := SR12.tail.putObj (.loop rc) hOb (List.mem_cons_self) (.inl (by omega))
   have Kn := Kb.fresh2 (h1a wR12 l (.loop rc)) (.inr (by simp))
   rw [Q8a hst hpe]
   exact ⟨hOn, Sn, Kn, fun q en' hq hx hr' => by
    by_cases hqi : q = i
    ·subst hqi; obtain rfl := Option.some.inj (hxen.symm.trans hx); rw [getD_some hxx0]; exact h65
    ·exact hno q en' (by omega) hx hr'⟩
  rintro v w3 (⟨hO3, S3, K3, hno⟩ | ⟨i, en, ys, hxen, hrd, hce, hfst, hO3, S3, hy3, hyr⟩)
  rotate_left
  ·refine ⟨{ rc with state := .done, pending := some .ret }, (hO3 (l, _) List.mem_cons_self).1, by simp, .inr ⟨rfl, ?_⟩⟩
   have Sa := S3.putObj (.loop { rc with state := .exhausted, pending := some .ret }) hO3 (List.mem_cons_self) (.inl (by omega))
   have hOa := (hO3.put (o' := .loop { rc with state := .exhausted, pending := some .ret }) hlne (by simp)).tail
   have Ka := h1a w3 l (.loop { rc with state := .exhausted, pending := some .ret })
   have hya := hyr.keep (Ka.mono (by simp))
   subst hce
   rw [R5a (e4c ht hxb hxen hrd), Z3c hxb (fun e he => ((hf.bufs t b hxb).2.1 e he).some_) hxen hrd]
   exact Y1a (n := 3) rfl t1a R1a rfl rfl hy3 [w56.heap.size] rfl (by simp) hOa (Sa.cells 2 rfl) (Sa.cell 1 rfl rfl) (by have := hOa.ne (Sa.blk 2 rfl) _ (List.mem_cons_self); simpa using fun h : g8 = _ => this h.symm) (by have := hOa.ne (Sa.blk 1 rfl) _ (List.mem_cons_self); simpa using fun h : g9 = _ => this h.symm) (fun w' hb => ⟨⟨_, rfl, (hya.keep ((x0a.of_belowM hb).mono (by simp))).less (fun g hg => by simp [hg])⟩, (F0a.step Sa.below hb (by simp; omega)).nil⟩)
  refine ⟨rc, (hO3 (l, .loop rc) (by simp)).1, by rw [hst]; simp, .inl ⟨hpe, ?_⟩⟩
  have Sa := S3.putObj (.loop { rc with state := .exhausted }) hO3 (List.mem_cons_self) (.inl (by omega))
  have hOa := (hO3.put (o' := .loop { rc with state := .exhausted }) hlne (by simp)).tail
  generalize w3.putObj l (.loop { rc with state := .exhausted }) = wa at Sa hOa ⊢
  refine fO0 rfl ⟨⟩ (p1a j5a (vs := []) (cs := [_, _, _]) rfl rfl rfl rfl ?_)
  first | refine d0a (kk := 2) (vs := [_, _, _]) Sa K2a rfl rfl rfl rfl rfl rfl rfl ?_
  intro w14_1 S14_1 X14_1
  dsimp only [n0a, List.set] at S14_1
  replace hOa := by exact hOa.keepS X14_1 (Sa.blk 2 rfl)
  first | refine u0a (kk := 1) S14_1 Z6a rfl (by conv => lhs; whnf) rfl rfl (by exact Nat.le_of_ble_eq_true rfl) ?_
  intro w14_2 S14_2 X14_2
  replace hOa := by exact hOa.keepS X14_2 (S14_1.blk 1 rfl)
  refine lR0 rfl ⟨⟩ ?_
  rw [f3a (m1c hxb hno)]
  exact Y1a (n := 3) rfl t1a R1a rfl rfl rfl [w56.heap.size] rfl (by simp) hOa (S14_2.cells 2 rfl) (S14_2.cell 1 rfl rfl) (by have := hOa.ne (S14_2.blk 2 rfl) _ (List.mem_cons_self); simpa using fun h : g8 = _ => this h.symm) (by have := hOa.ne (S14_2.blk 1 rfl) _ (List.mem_cons_self); simpa using fun h : g9 = _ => this h.symm) (fun w' hb => ⟨⟨_, rfl, x2a⟩, (F0a.step S14_2.below hb (by simp; omega)).nil⟩)
 obtain ⟨i, rfl⟩ := Int.eq_ofNat_of_zero_le (show 0 ≤ xst by omega)
 refine lO S3_8.k [.w 4,.o 3] rfl ⟨rfl,⟨rfl,by rfl⟩,⟨⟩⟩ (C0a S3_8 k6c rfl rfl (c5c p hp c t b (g9 :: g8 :: M) _ (t0c S3_8 (i := 1) (j := 2) rfl rfl hM) _ ((hX.more (g8a S3_8 (i := 1) (j := 2) rfl rfl)).keep (S3_8.keep0 _)) hf hxb) ?_)
 rintro v75 w75 hV S75 X75
 obtain ⟨_, _, _, rfl⟩ := hV.form
 refine lC0 rfl ⟨⟩ (A0a b0a [0, 1, 2, 3, 4, 5, 6, 7, 8, 9, 10, 11, 12, 13, 14, 15, 16, 17, 18, 19, 20, 21, 22, 23, 24, 25] [] [] (by kernel_rfl) rfl (Cl _ _ _ _) (Cl.start S75) ?_)
 refine qB S75.q [.o 3] rfl ⟨rfl,⟨⟩⟩ (fun h78 => ?_) fun h78 => ?_
 ·refine qD rfl ⟨⟩ ?_
  rintro wR16 ⟨SR16, XR16⟩
  replace hV := hV.keep (XR16.of_nil)
  refine lO0 rfl ⟨⟩ (p1a j5a (vs := []) (cs := [_, _, _]) rfl rfl rfl rfl ?_)
  first | refine d0a (kk := 2) (vs := [_, _, _]) SR16 K2a rfl rfl rfl rfl rfl rfl rfl ?_
  intro w17_1 S17_1 X17_1
  dsimp only [n0a, List.set] at S17_1
  first | refine u0a (kk := 1) S17_1 Z6a rfl (by conv => lhs; whnf) rfl rfl (by exact Nat.le_of_ble_eq_true rfl) ?_
  intro w17_2 S17_2 X17_2
  refine lR0 rfl ⟨⟩ ?_
  rw [f3a (I1c (t := t) (st := i) (by omega) h78)]
  exact Y1a (n := 3) rfl t1a R1a rfl rfl rfl [] rfl List.nodup_nil NC.nil (S17_2.cells 2 rfl) (S17_2.cell 1 rfl rfl) (by simp) (by simp) (fun w' hb => ⟨⟨_, rfl, x2a⟩, (S17_2.below.trans hb).nil⟩)
 obtain ⟨_, b86, p86, _, hx86, hA86, _, _, hc86, hr86⟩ := RdS.get (hTh) (t) (by omega)
 obtain rfl := Option.some.inj (hxth.symm.trans hx86)
 obtain ⟨_, _, _, _, _, _, _, _, _, _, _, _, rfl, _, _, _, _, _, _, _, hns86, _, _, _, _, _⟩ := T0a.open_ hr86
 refine qB (S75.q.a hc86) [.o 3,.o 5,.o 3,.x b86 p86,.f 0 4] rfl ⟨rfl,⟨hA86,by omega⟩,rfl,rfl,rfl,⟨⟩⟩ (fun h90 => ?_) fun h90 => ?_
 ·refine qD rfl ⟨⟩ ?_
  rintro wR16 ⟨SR16, XR16⟩
  replace hV := hV.keep (XR16.of_nil)
  refine lO0 rfl ⟨⟩ (p1a j5a (vs := []) (cs := [_, _, _]) rfl rfl rfl rfl ?_)
  first | refine d0a (kk := 2) (vs := [_, _, _]) SR16 K2a rfl rfl rfl rfl rfl rfl rfl ?_
  intro w17_1 S17_1 X17_1
  dsimp only [n0a, List.set] at S17_1
  first | refine u0a (kk := 1) S17_1 Z6a rfl (by conv => lhs; whnf) rfl rfl (by exact Nat.le_of_ble_eq_true rfl) ?_
  intro w17_2 S17_2 X17_2
  refine lR0 rfl ⟨⟩ ?_
  rw [f3a (s2c hxth (st := i) (by omega) (by rw [← hns86]; exact h90))]
  exact Y1a (n := 3) rfl t1a R1a rfl rfl rfl [] rfl List.nodup_nil NC.nil (S17_2.cells 2 rfl) (S17_2.cell 1 rfl rfl) (by simp) (by simp) (fun w' hb => ⟨⟨_, rfl, x2a⟩, (S17_2.below.trans hb).nil⟩)
 refine qO S75.q [.w 0,.o 3,.o 3] rfl ⟨rfl,rfl,⟨rfl,by rfl⟩,⟨⟩⟩ ?_
 obtain ⟨s, hxs⟩ : ∃ s, th.steps[i]? = some s := ⟨th.steps[i]'(by omega), List.getElem?_eq_getElem _⟩
 refine L1a L3c rfl rfl (fun w1 S1 X1 => m1b p c m hm2 t i th s M _ [.slice Ac nc cc, .slice Am nm cm, .slice Al nl cl, .slice At nt ct] [.slice Xm xm ym, .slice Xa xa ya, .slice Xb xb yb] _ (hI.keep (S1.keep0 M)) (hX.keep (S1.keep0 M)) ((hV.keep (X1.of_nil)).less (fun g hg => List.mem_cons_of_mem _ (List.mem_cons_of_mem _ hg))) hf hxth hxs) (fun h99 => ?_) fun h99 => ?_
 ·refine qD rfl ⟨⟩ ?_
  rintro wR16 ⟨SR16, XR16⟩
  replace hV := hV.keep (XR16.of_nil)
  subst h78
  have hin := s4c hxth hxs h99
  have hdo : doC p m c ⟨t, i, 0⟩ = E6a p m c t s := i0d hxth hxs
  have hf' := V5b hp hf hin
  rw [hdo] at hf'
  refine lO SR16.k [.w 0,.w 3] rfl ⟨⟨rfl,by rfl⟩,⟨rfl,by rfl⟩,⟨⟩⟩ (C0a SR16 a4c rfl rfl (w7b p c m hm2 t i th s (g9 :: g8 :: M) _ [.slice Ac nc cc, .slice Am nm cm, .slice Al nl cl, .slice At nt ct] [.slice Xm xm ym, .slice Xa xa ya, .slice Xb xb yb] _ (hI.two SR16 (i := 1) (j := 2) rfl rfl) ((hX.more (g8a SR16 (i := 1) (j := 2) rfl rfl)).keep (SR16.keep0 _)) hV hf hxth hxs hf') ?_)
  rintro v106 w106 ⟨ys, rfl, hy⟩ S106 X106
  obtain ⟨Ym, ym', zm, Ya, ya', za, Yb, yb', zb, rfl, -⟩ := hy.open_
  first | refine d0a (kk := 2) (vs := [_, _, _]) S106 K2a rfl rfl rfl rfl rfl rfl rfl ?_
  intro w18_4 S18_4 X18_4
  dsimp only [n0a, List.set] at S18_4
  replace hy := hy.keep (X18_4.mono (by simp))
  first | refine u0a (kk := 1) S18_4 Z6a rfl (by conv => lhs; whnf) rfl rfl (by exact Nat.le_of_ble_eq_true rfl) ?_
  intro w18_5 S18_5 X18_5
  replace hy := hy.keep (X18_5.mono (by simp))
  refine lR0 rfl ⟨⟩ ?_
  rw [R5a hin, hdo]
  exact Y1a (n := 3) rfl t1a R1a rfl rfl rfl [] rfl List.nodup_nil NC.nil (S18_5.cells 2 rfl) (S18_5.cell 1 rfl rfl) (by simp) (by simp) (fun w' hb => ⟨⟨_, rfl, (hy.keep (x0a.of_below hb.nil)).less (fun g hg => by simp [hg])⟩, (S18_5.below.trans hb).nil⟩)
 refine qD rfl ⟨⟩ ?_
 rintro wR16 ⟨SR16, XR16⟩
 refine lO0 rfl ⟨⟩ (p1a j5a (vs := []) (cs := [_, _, _]) rfl rfl rfl rfl ?_)
 first | refine d0a (kk := 2) (vs := [_, _, _]) SR16 K2a rfl rfl rfl rfl rfl rfl rfl ?_
 intro w17_1 S17_1 X17_1
 dsimp only [n0a, List.set] at S17_1
 first | refine u0a (kk := 1) S17_1 Z6a rfl (by conv => lhs; whnf) rfl rfl (by exact Nat.le_of_ble_eq_true rfl) ?_
 intro w17_2 S17_2 X17_2
 refine lR0 rfl ⟨⟩ ?_
 rw [f3a (T5c hxth hxs h99)]
 exact Y1a (n := 3) rfl t1a R1a rfl rfl rfl [] rfl List.nodup_nil NC.nil (S17_2.cells 2 rfl) (S17_2.cell 1 rfl rfl) (by simp) (by simp) (fun w' hb => ⟨⟨_, rfl, x2a⟩, (S17_2.below.trans hb).nil⟩)
end Go.Proofs.YtjjmdcnmeommbaaGreatDoor
namespace Go.Fw
open Go.RowKit
def x3a (p : e0a) (m : Int) (c : B0a) : List c0a → List B0a
 | [] => []
 | x :: l => if x ∈ N0a p m c then doC p m c x :: x3a p m (doC p m c x) l else []
def D3a (p : e0a) (m : Int) (run : List c0a) : List B0a := A1a p :: x3a p m (A1a p) run
theorem Q4c {p : e0a} {m : Int} {c : B0a} (he : J5a c) {x : c0a} (hx : x ∈ N0a p m c) : ∃ (t i : Nat) (th : S0a) (s : k1a), x = ⟨t, i, 0⟩ ∧ p.threads[t]? = some th ∧ th.steps[i]? = some s ∧ P0a p m c t s = true := by
 obtain ⟨t, ht, h | h⟩ := H1a.1 hx
 ·obtain ⟨i, s, hs, he, rfl⟩ := h
  have hth : p.threads[t]? = some p.threads[t] := List.getElem?_eq_getElem ht
  rw [N1a hth] at hs
  exact ⟨t, i, _, s, rfl, hth, hs, he⟩
 ·obtain ⟨i, h1, -⟩ := h
  rw [he.getD] at h1; simp at h1
section
variable {p : e0a} {m : Int}
theorem J3b : ∀ (run : List c0a) (c : B0a), (x3a p m c run).length ≤ run.length
 | [], _ => Nat.le_refl _
 | x :: l, c => by
   unfold x3a
   split
   ·simpa using J3b l _
   ·simp
theorem K9a : ∀ (run : List c0a) (c0 : B0a) (k : Nat) (c : B0a) (x : c0a), (c0 :: x3a p m c0 run)[k]? = some c → run[k]? = some x →
 (x ∈ N0a p m c → (c0 :: x3a p m c0 run)[k + 1]? = some (doC p m c x)) ∧ (x ∉ N0a p m c → (x3a p m c0 run).length = k)
 | [], _, _, _, _, _, h => by simp at h
 | y :: l, c0, 0, c, x, hc, hx => by
   simp at hc hx
   subst hc; subst hx
   unfold x3a
   constructor
   ·intro h; rw [if_pos h]; rfl
   ·intro h; rw [if_neg h]; rfl
 | y :: l, c0, k + 1, c, x, hc, hx => by
   have hx' : l[k]? = some x := by simpa using hx
   by_cases hy : y ∈ N0a p m c0
   ·have e : x3a p m c0 (y :: l) = doC p m c0 y :: x3a p m (doC p m c0 y) l := by rw [x3a, if_pos hy]
    rw [e] at hc ⊢
    have hc' : (doC p m c0 y :: x3a p m (doC p m c0 y) l)[k]? = some c := by simpa using hc
    obtain ⟨h1, h2⟩ := K9a l _ k c x hc' hx'
    exact ⟨fun h => by rw [List.getElem?_cons_succ]; exact h1 h, fun h => by rw [List.length_cons, h2 h]⟩
   ·have e : x3a p m c0 (y :: l) = [] := by rw [x3a, if_neg hy]
    rw [e] at hc
    simp at hc
theorem X6b (p : e0a) (m : Int) (run : List c0a) : (D3a p m run).length = (x3a p m (A1a p) run).length + 1 := rfl
theorem f5a (p : e0a) (m : Int) (run : List c0a) : (D3a p m run).length ≤ run.length + 1 := by have := J3b (p := p) (m := m) run (A1a p); rw [X6b]; omega
theorem O1b {run : List c0a} {k : Nat} {c : B0a} {x : c0a} (hc : (D3a p m run)[k]? = some c) (hx : run[k]? = some x) (h : x ∈ N0a p m c) : (D3a p m run)[k + 1]? = some (doC p m c x) := (K9a run _ k c x hc hx).1 h
theorem o8b {run : List c0a} {k : Nat} {c : B0a} {x : c0a} (hc : (D3a p m run)[k]? = some c) (hx : run[k]? = some x) (h : x ∉ N0a p m c) : (D3a p m run).length = k + 1 := by rw [X6b, (K9a run _ k c x hc hx).2 h]
def n7c (p : e0a) (m : Int) (c : B0a) : Prop := b6a p c ∧ (m = 0 → J5a c)
theorem q7b (hp : g1a p) : n7c p m (A1a p) := ⟨t9a hp, fun _ b hb => by
 simp only [A1a, List.mem_map] at hb
 obtain ⟨_, _, rfl⟩ := hb; rfl⟩
theorem P6c (hp : g1a p) {c : B0a} (h : n7c p m c) {x : c0a} (hx : x ∈ N0a p m c) : n7c p m (doC p m c x) := ⟨V5b hp h.1 hx, fun h0 => by
 subst h0
 obtain ⟨_, _, _, _, rfl, hth, hs, _⟩ := Q4c (h.2 rfl) hx
 rw [H9c (h.2 rfl) hth hs]
 exact h.2 rfl⟩
theorem z6b (hp : g1a p) : ∀ (run : List c0a) (c0 : B0a), n7c p m c0 → ∀ c ∈ c0 :: x3a p m c0 run, n7c p m c
 | [], c0, h, c, hc => by simp [x3a] at hc; subst hc; exact h
 | y :: l, c0, h, c, hc => by
   rcases List.mem_cons.1 hc with rfl | hc
   ·exact h
   ·unfold x3a at hc
    split at hc
    ·rename_i hy
     exact z6b hp l _ (P6c hp h hy) c hc
    ·cases hc
theorem b6b (hp : g1a p) {run : List c0a} {c : B0a} (hc : c ∈ D3a p m run) : n7c p m c := z6b hp run _ (q7b hp) c hc
end
end Go.Fw
namespace Go.Fw
open Go.RowKit
structure u3a where
 at_ : Int
 kind : Int
 module_ : Int
 thread : Int
 item : Int
  deriving DecidableEq
def i1b (cs : List Value) (v : u3a) : Prop := cs = [.int .i64 v.at_, .int .i64 v.kind, .int .i64 v.module_, .int .i64 v.thread, .int .i64 v.item] ∧ i64 v.at_ ∧ i64 v.kind ∧ i64 v.module_ ∧ i64 v.thread ∧ i64 v.item
abbrev J2c (M : List Nat) (w : World) (v : Value) (l : List u3a) : Prop := RdS M w 5 i1b v l
theorem S2a : j7a (fun (_ : List Nat) (_ : World) => i1b) 5 where
 len h := by rw [h.1]; rfl
 one h u hu := by rw [h.1] at hu; simp at hu; rcases hu with rfl | rfl | rfl | rfl | rfl <;> rfl
 keep _ h := h
 more _ h := h
theorem i1b.of {a k m t i : Int} (h1 : i64 a) (h2 : i64 k) (h3 : i64 m) (h4 : i64 t) (h5 : i64 i) : i1b [.int .i64 a, .int .i64 k, .int .i64 m, .int .i64 t, .int .i64 i] ⟨a, k, m, t, i⟩ := ⟨rfl, h1, h2, h3, h4, h5⟩
def T7c : k1a := ⟨0, 0, 0, ⟨0, 0, 0, []⟩, [], false, 0, 0⟩
def Q9c : v2a := ⟨ByteArray.empty, ByteArray.empty, ⟨0, 0, 0, []⟩, ⟨0, 0, 0, []⟩, []⟩
def r0d : S0a := ⟨ByteArray.empty, 0, [], [], [], [], false⟩
def noE : E := ⟨0, 0, 0, []⟩
def i7a (c : B0a) : Bool := !(c.buf.any fun b => decide (0 < b.length))
structure EvD where
 at_ : Int
 x : c0a
 c : B0a
 d : B0a
section
variable (p : e0a) (e : EvD)
def EvD.step : Bool := decide (0 ≤ e.at_) && decide (e.x.step ≠ -1)
def EvD.still : Bool := e.step && (i7a e.c && i7a e.d)
def sOf : k1a := (s2a p e.x.thread.toNat).getD e.x.step.toNat T7c
def v7b (m : Int) : v2a := p.modules.getD m.toNat Q9c
def F8a (t : Nat) : S0a := p.threads.getD t r0d
def G3b (kind : Int) : u3a := ⟨e.at_, kind, (sOf p e).module_, e.x.thread, e.x.step⟩
def k1b (s : k1a) : Bool := s.set.any fun a => decide (w1a p.cells a.cell = -1) && !decide (a.cell ∈ (v7b p s.module_).frame)
def T3a : List u3a := if e.still = true ∧ k1b p (sOf p e) = true then [G3b p e 4] else []
def j7b : Bool := decide ((v7b p (sOf p e).module_).guar.evl e.c.mem e.d.mem ≠ 0)
def x6a : List u3a := if e.still = true ∧ j7b p e = false then [G3b p e 3] else []
def v9a (t : Nat) : List u3a :=
 if (t : Int) = e.x.thread ∨ e.c.at_.getD t 0 = -1 then []
 else if (v7b p ((F8a p t).modules.getD (e.c.at_.getD t 0).toNat 0)).rely.op ≠ 0 ∧ (v7b p ((F8a p t).modules.getD (e.c.at_.getD t 0).toNat 0)).rely.evl e.c.mem e.d.mem = 0 then
  [⟨e.at_, 5, (F8a p t).modules.getD (e.c.at_.getD t 0).toNat 0, t, e.c.at_.getD t 0⟩]
 else []
def g6a (k : Nat) : List u3a := (List.range k).flatMap (v9a p e)
def D6a : List u3a := if e.still = true ∧ T3a p e = [] ∧ x6a p e = [] then g6a p e p.threads.length else []
def d7b (l : s9a) : Int := if e.step = true then (sOf p e).module_ else if 0 ≤ e.at_ then (F8a p e.x.thread.toNat).modules.getD (e.d.at_.getD e.x.thread.toNat 0).toNat 0 else l.module_
def o6a (i : Nat) : List u3a := match p.locks[i]? with
 | some l => if e.d.mem.getD l.cell.toNat 0 ≠ 0 ∨ l.inv.evl e.d.mem e.d.mem ≠ 0 then [] else [⟨e.at_, 2, d7b p e l, if 0 ≤ e.at_ then e.x.thread else -1, i⟩]
 | none => []
def t4a (k : Nat) : List u3a := (List.range k).flatMap (o6a p e)
def X3a : List u3a := if i7a e.d = true then t4a p e p.locks.length else []
def I6a (t : Nat) : Int := if e.step = true ∧ ((t : Int) = e.x.thread ∨ (sOf p e).kind = 6 ∧ (sOf p e).target = t) then (sOf p e).module_ else (F8a p t).modules.getD (e.d.at_.getD t 0).toNat 0
def H2a (t : Nat) : List u3a :=
 if e.d.at_.getD t 0 = -1 ∨ ((F8a p t).asserts.getD (e.d.at_.getD t 0).toNat noE).evl e.d.mem e.d.mem ≠ 0 then []
 else [⟨e.at_, 1, I6a p e t, t, e.d.at_.getD t 0⟩]
def L2a (k : Nat) : List u3a := (List.range k).flatMap (H2a p e)
def h2a : List u3a := if i7a e.d = true then L2a p e p.threads.length else []
def k5a : List u3a := (if 0 ≤ e.at_ then T3a p e ++ (x6a p e ++ D6a p e) else []) ++ (X3a p e ++ h2a p e)
end
def A4c : c0a := ⟨0, 0, 0⟩
def noC : B0a := ⟨[], [], []⟩
def R2b (run : List c0a) (l : List B0a) (i : Nat) : EvD := if i = 0 then ⟨-1, A4c, noC, l.getD 0 noC⟩ else ⟨(i : Int) - 1, run.getD (i - 1) A4c, l.getD (i - 1) noC, l.getD i noC⟩
def s4a (p : e0a) (run : List c0a) (l : List B0a) (k : Nat) : List u3a := (List.range k).flatMap fun i => k5a p (R2b run l i)
def S3a (p : e0a) (m : Int) (run : List c0a) : List u3a := s4a p run (D3a p m run) (D3a p m run).length
structure K7b (p : e0a) (e : EvD) : Prop where
 lo : -1 ≤ e.at_
 hi : e.at_ ≤ 1000
 d : b6a p e.d
 c : 0 ≤ e.at_ → b6a p e.c
 t : 0 ≤ e.at_ → 0 ≤ e.x.thread ∧ e.x.thread < p.threads.length
 s : 0 ≤ e.at_ → e.x.step = -1 ∨ (0 ≤ e.x.step ∧ e.x.step < (s2a p e.x.thread.toNat).length)
 aw : 0 ≤ e.at_ → e.d.at_.getD e.x.thread.toNat 0 ≠ -1
 ci : e.at_ = -1 → e.x = A4c ∧ e.c = noC
section
variable {p : e0a} {e : EvD}
theorem z4a {t : Nat} {th : S0a} (h : p.threads[t]? = some th) : F8a p t = th := getD_some h
theorem B4a {m : Int} {c : v2a} (h : p.modules[m.toNat]? = some c) : v7b p m = c := getD_some h
theorem W3a (k : Nat) : g6a p e (k + 1) = g6a p e k ++ v9a p e k := by simp [g6a, List.range_succ]
theorem W2a (k : Nat) : t4a p e (k + 1) = t4a p e k ++ o6a p e k := by simp [t4a, List.range_succ]
theorem W1a (k : Nat) : L2a p e (k + 1) = L2a p e k ++ H2a p e k := by simp [L2a, List.range_succ]
theorem t3b {run : List c0a} {l : List B0a} (k : Nat) : s4a p run l (k + 1) = s4a p run l k ++ k5a p (R2b run l k) := by simp [s4a, List.range_succ]
theorem a6a {f : Nat → List u3a} {n : Nat} (h : ∀ i, (f i).length ≤ n) : ∀ k, ((List.range k).flatMap f).length ≤ k * n
 | 0 => by simp
 | k + 1 => by
   have h1 := a6a h k
   have h2 := h k
   have h3 : ([k].flatMap f).length = (f k).length := by simp
   rw [List.range_succ, List.flatMap_append, List.length_append, Nat.add_mul]
   omega
theorem f4b (k : Nat) : (v9a p e k).length ≤ 1 := by
 unfold v9a
 split
 ·simp
 ·split <;> simp
theorem Y3b (k : Nat) : (o6a p e k).length ≤ 1 := by
 unfold o6a
 split
 ·split <;> simp
 ·simp
theorem R9a (k : Nat) : (H2a p e k).length ≤ 1 := by unfold H2a; split <;> simp
theorem e8a : (T3a p e).length ≤ 1 := by unfold T3a; split <;> simp
theorem P9a : (x6a p e).length ≤ 1 := by unfold x6a; split <;> simp
theorem U5a (k : Nat) : (g6a p e k).length ≤ k := by have := a6a (f4b (p := p) (e := e)) k; simpa [g6a] using this
theorem R2a (k : Nat) : (t4a p e k).length ≤ k := by have := a6a (Y3b (p := p) (e := e)) k; simpa [t4a] using this
theorem V1a (k : Nat) : (L2a p e k).length ≤ k := by have := a6a (R9a (p := p) (e := e)) k; simpa [L2a] using this
theorem V7b (hp : g1a p) : (k5a p e).length ≤ 16 := by
 have h1 := e8a (p := p) (e := e)
 have h2 := P9a (p := p) (e := e)
 have h3 := U5a (p := p) (e := e) p.threads.length
 have h4 := R2a (p := p) (e := e) p.locks.length
 have h5 := V1a (p := p) (e := e) p.threads.length
 have h6 := hp.nthreads
 have h7 := hp.nlocks
 unfold k5a D6a X3a h2a
 repeat' split
 all_goals simp <;> omega
theorem d0b (hp : g1a p) {run : List c0a} {l : List B0a} (k : Nat) : (s4a p run l k).length ≤ k * 16 := a6a (fun _ => V7b hp) k
end
end Go.Fw
namespace Go.Fw
open Go.RowKit
section
variable {P : Program} {r : Option Nat} {N : Nat} {D : List Deferred} {e : Env} {w w0 : World} {ops : Array Oper} {rest : List Oper} {K : List Deferred → Env → World → Prop} {L : List Ent} {M : List Nat}
variable {d : Nat} {t : TypeId} {p : String} {af : Array Edge} {f : FuncId} {args : Array Operand} {at_ : Array TypeId} {vs : List Value} {x : Operand}
theorem N2c {g : Operand} {b : Bool} (S : St M w0 w L) (hH : Has P f) (hg : ev e g = .func (.func f) #[] #[]) (hvs : args.toList.map (ev e) = vs) (hd : Nat.ble (d + 1) N = true)
 (hc : J0a P f vs.toArray w fun v w' => v = .bool b ∧ Below w.heap.size w w') (h1 : b = true → ∀ w1, St M w0 w1 L → x0a [] w w1 → WL P r N ops rest K D (upd e d (.bool true)) w1)
 (h2 : b = false → ∀ w1, St M w0 w1 L → x0a [] w w1 → WL P r N ops rest K D (upd e d (.bool false)) w1) :
 WL P r N ops (⟨some d, .call { callee := .value g, args := args, argTypes := at_ }, t, p, af, none⟩ :: rest) K D e w := by
 refine T9a hH hg (vs := vs) (by simpa using hvs) hd hc fun v w' ⟨hv, hb⟩ => ?_
 subst hv
 cases b
 ·exact h2 rfl w' (S.later hb) (x0a.of_below hb)
 ·exact h1 rfl w' (S.later hb) (x0a.of_below hb)
end
end Go.Fw
namespace Go.Proofs.YtjjmdcnmeommbaaGreatDoor
open Go.Fw Go.RowKit
structure Q2b (p : e0a) (e : EvD) (M : List Nat) (w : World) (g : Nat) (cs xs ys : List Value) : Prop where
 cell : o1a w g 0 (cs ++ (.int .i64 e.at_ :: .int .i64 e.x.thread :: .int .i64 e.x.step :: .int .i64 e.x.cell :: (xs ++ ys)))
 inp : InP p M w cs
 c : K0a M w e.c xs
 d : K0a M w e.d ys
 out : g ∉ M
 ok : K7b p e
theorem Q2b.keep {p : e0a} {e : EvD} {M : List Nat} {w w' : World} {g : Nat} {cs xs ys : List Value} (h : Q2b p e M w g cs xs ys) (hk : x0a M w w') : Q2b p e M w' g cs xs ys :=
 ⟨h.cell.keep hk h.out, h.inp.keep hk, h.c.keep hk, h.d.keep hk, h.out, h.ok⟩
theorem e7a (p : e0a) (e : EvD) (M : List Nat) (w0 : World) (ge : Nat) (cs xs ys : List Value) (hE : Q2b p e M w0 ge cs xs ys) :
 J0a Tryz.prog 160 #[.pointer (some ⟨ge, 0, none⟩)] w0 fun v w' => v = .bool e.step ∧ Below w0.heap.size w0 w' := by
 obtain ⟨_, _, _, _, _, _, _, _, _, _, _, _, rfl, -⟩ := hE.inp.rd.open_
 have hc0 := hE.cell
 have S := St.refl w0
 refine a0a Tryz.func160 rfl Tryz.ntmps160 rfl ?_
 refine wB (S.k.a hc0) [.f 0 4] rfl ⟨rfl,⟨⟩⟩ (fun h7 => ?_) fun h7 => ?_
 ·refine lB (S.k.a hc0) [.f 0 6] rfl ⟨rfl,⟨⟩⟩ (fun h14 => ?_) fun h14 => ?_
  ·refine lT rfl ⟨⟩ rfl ⟨congrArg Value.bool ?_, S.fin⟩
   unfold EvD.step
   simp; omega
  refine lT rfl ⟨⟩ rfl ⟨congrArg Value.bool ?_, S.fin⟩
  unfold EvD.step
  simp; omega
 refine lT rfl ⟨⟩ rfl ⟨congrArg Value.bool ?_, S.fin⟩
 unfold EvD.step
 simp; omega
theorem L8b (b : List G0a) (M : List Nat) (w0 : World) (v : Value) (hR : m7c M w0 v b) :
 J0a Tryz.prog 192 #[v] w0 fun v w' => v = .bool (decide (0 < b.length)) ∧ Below w0.heap.size w0 w' := by
 obtain ⟨_, _, _, rfl⟩ := hR.form
 have hn := hR.len.1
 have S := St.refl w0
 refine a0a Tryz.func192 rfl Tryz.ntmps192 rfl ?_
 refine wB0 rfl ⟨⟩ (fun h5 => ?_) fun h5 => ?_
 ·refine lT rfl ⟨⟩ rfl ⟨congrArg Value.bool ?_, S.fin⟩
  exact (decide_eq_true (by omega)).symm
 refine lT rfl ⟨⟩ rfl ⟨congrArg Value.bool ?_, S.fin⟩
 exact (decide_eq_false (by omega)).symm
theorem H1b (M : List Nat) (w0 : World) (v : Value) (l : List (List G0a)) (hR : u7c M w0 v l) :
 J0a Tryz.prog 207 #[v, .func (.func 192) #[] #[]] w0 fun v w' => (∃ n, v = .int .i64 n ∧ (0 ≤ n ↔ (l.any fun b => decide (0 < b.length)) = true)) ∧ Below w0.heap.size w0 w' := by
 obtain ⟨A, n, c, rfl⟩ := hR.form
 obtain ⟨_, _, _⟩ := hR.len
 have S := St.refl w0
 refine a0a Tryz.func207 rfl Tryz.ntmps207 rfl ?_
 refine wC0 rfl ⟨⟩ (wL (fun μk D ε w => D = [] ∧ ∃ k : Nat, (k + μk = (l.length)) ∧ (n1a (l) k (fun x => decide (0 < x.length) = false)) ∧ St [] w0 w [] ∧ Sl ε [(0, .slice A n c), (1, .func (.func 192) #[] #[]), (7, .int .i64 n), (8, .int .i64 k)]) (μ := (l.length)) ⟨rfl, 0, by omega, n1a.zero, S, rfl⟩ ?_)
 rintro μk D ε w ⟨rfl, k, _, ha, S, eZ⟩
 refine wK eZ (wB0 rfl ⟨⟩ (fun h9 => ?_) fun h9 => ?_)
 ·obtain ⟨x, b14, p14, _, hxx, hA14, _, _, hc14, hr14⟩ := RdS.get (hR) (k) (by omega)
  obtain ⟨Ab14, nb14, cb14, rfl, hBu14, _, _⟩ := f7a.open_ hr14
  refine lO (S.k.a hc14) [.x b14 p14,.f 0 0] rfl ⟨rfl,⟨hA14,by omega⟩,⟨⟩⟩ (N2c (vs := [.slice Ab14 nb14 cb14]) S Z4c rfl rfl rfl (L8b x M _ _ (RdS.keepW hBu14 (S.keep0 M) (a1a.keep (S.keep0 M)))) (fun h16 w16 S16 X16 => ?_) (fun h16 w16 S16 X16 => ?_))
  ·exact lT rfl ⟨⟩ rfl ⟨⟨_, rfl, ⟨fun _ => List.any_eq_true.2 ⟨x, h0a hxx, h16⟩, fun _ => by omega⟩⟩, S16.fin⟩
  refine lP0 rfl ⟨by omega,⟨⟩⟩ ⟨μk - 1, by omega, rfl, (k + 1), (by omega), (ha.succ hxx (h16)), S16, rfl⟩
 refine lT rfl ⟨⟩ rfl ?_
 refine ⟨⟨_, rfl, ⟨fun h => by omega, fun h => ?_⟩⟩, S.fin⟩; obtain ⟨x, h1, h2⟩ := List.any_eq_true.1 h; rw [ha.all (by omega) x h1] at h2; cases h2
theorem C8a (M : List Nat) (w0 : World) (v : Value) (l : List (List G0a)) (hR : u7c M w0 v l) :
 J0a Tryz.prog 191 #[v, .func (.func 192) #[] #[]] w0 fun v w' => v = .bool (l.any fun b => decide (0 < b.length)) ∧ Below w0.heap.size w0 w' := by
 obtain ⟨_, _, _, rfl⟩ := hR.form
 have S := St.refl w0
 refine a0a Tryz.func191 rfl Tryz.ntmps191 rfl ?_
 refine wO0 rfl ⟨⟩ (C0a S q5c rfl rfl (H1b M _ _ l (RdS.keepW hR (S.keep0 M) (f7a.keep (S.keep0 M)))) ?_)
 rintro v7 w7 ⟨_, rfl, hm⟩ S7 X7
 refine lB0 rfl ⟨⟩ (fun h8 => ?_) fun h8 => ?_
 ·refine lR0 rfl ⟨⟩ (o0a rfl (by conv => lhs; whnf) ?_)
  exact ⟨by rw [hm.1 (by omega)], S7.fin⟩
 refine lT rfl ⟨⟩ rfl ?_
 refine ⟨congrArg Value.bool ?_, S7.fin⟩; cases hq : (l.any fun b => decide (0 < b.length)) with | false => rfl | true => exact absurd (hm.2 hq) (by omega)
theorem A7a (c : B0a) (M : List Nat) (w0 : World) (xs : List Value) (hX : K0a M w0 c xs) :
 J0a Tryz.prog 158 #[.agg xs.toArray] w0 fun v w' => v = .bool (i7a c) ∧ Below w0.heap.size w0 w' := by
 obtain ⟨_, _, _, _, _, _, _, _, _, rfl, _, _, hBuf, _, _, _, _, _, _⟩ := hX.open_
 have S := St.refl w0
 refine a0a Tryz.func158 rfl Tryz.ntmps158 rfl ?_
 refine wO0 rfl ⟨⟩ (m0a S (by conv => lhs; whnf) rfl ?_)
 intro g1 w1 S1 X1 G1
 refine lO S1.k [.o 0] rfl ⟨rfl,⟨⟩⟩ (f0a S1 C6c rfl rfl (C8a M _ _ c.buf (RdS.keepW hBuf (S1.keep0 M) (f7a.keep (S1.keep0 M)))) ?_)
 intro w5 S5 X5
 exact lT rfl ⟨⟩ rfl ⟨rfl, S5.fin⟩
theorem U2b (x : E) (l : List Int) (M : List Nat) (w0 : World) (es : List Value) (v : Value) (hR : RdE M w0 x es) (hK : e3a M w0) (hL : RdI M w0 v l) :
 J0a Tryz.prog 159 #[.agg es.toArray, v] w0 fun v w' => v = .bool (decide (x.evl l l ≠ 0)) ∧ Below w0.heap.size w0 w' := by
 obtain ⟨_, _, _, rfl, -⟩ := RdE.cells hR
 obtain ⟨_, _, _, rfl⟩ := hL.form
 have S := St.refl w0
 refine a0a Tryz.func159 rfl Tryz.ntmps159 rfl ?_
 refine wO0 rfl ⟨⟩ (m0a S (by conv => lhs; whnf) rfl ?_)
 intro g2 w2 S2 X2 G2
 refine lO S2.k [.w 0] rfl ⟨⟨rfl,by rfl⟩,⟨⟩⟩ (f0a S2 f9a rfl rfl (A6a x M _ _ _ _ l l (RdE.keep (S2.keep0 M) _ _ hR) (hK.keep (S2.keep0 M)) (hL.keep (S2.keep0 M)) (hL.keep (S2.keep0 M))) ?_)
 intro w8 S8 X8
 refine lB0 rfl ⟨⟩ (fun h9 => ?_) fun h9 => ?_
 ·refine lT rfl ⟨⟩ rfl ⟨congrArg Value.bool ?_, S8.fin⟩
  simp [h9]
 refine lT rfl ⟨⟩ rfl ⟨congrArg Value.bool ?_, S8.fin⟩
 simp [h9]
theorem u2b (p : e0a) (e : EvD) (M : List Nat) (w0 : World) (ge : Nat) (cs xs ys : List Value) (hE : Q2b p e M w0 ge cs xs ys) :
 J0a Tryz.prog 154 #[.pointer (some ⟨ge, 0, none⟩)] w0 fun v w' => v = .bool e.still ∧ Below w0.heap.size w0 w' := by
 obtain ⟨_, _, _, _, _, _, _, _, _, _, _, _, rfl, -⟩ := hE.inp.rd.open_
 obtain ⟨_, _, _, _, _, _, _, _, _, rfl, -⟩ := hE.c.open_
 obtain ⟨_, _, _, _, _, _, _, _, _, rfl, -⟩ := hE.d.open_
 have hc0 := hE.cell
 have S := St.refl w0
 refine a0a Tryz.func154 rfl Tryz.ntmps154 rfl ?_
 refine wO0 rfl ⟨⟩ (v0a S N1b rfl rfl (e7a p e M _ _ _ _ _ (hE.keep (S.keep0 M))) (fun h4 w4 S4 X4 => ?_) (fun h4 w4 S4 X4 => ?_))
 ·refine lO (S4.k.a hc0) [.f 0 8] rfl ⟨rfl,⟨⟩⟩ (v0a S4 t2b rfl rfl (A7a e.c M _ _ (hE.c.keep (S4.keep0 M))) (fun h10 w10 S10 X10 => ?_) (fun h10 w10 S10 X10 => ?_))
  ·refine lO (S10.k.a hc0) [.f 0 11] rfl ⟨rfl,⟨⟩⟩ (v0a S10 t2b rfl rfl (A7a e.d M _ _ (hE.d.keep (S10.keep0 M))) (fun h17 w17 S17 X17 => ?_) (fun h17 w17 S17 X17 => ?_))
   ·refine lT rfl ⟨⟩ rfl ⟨congrArg Value.bool ?_, S17.fin⟩
    unfold EvD.still
    rw [h4, h10, h17]; rfl
   refine lT rfl ⟨⟩ rfl ⟨congrArg Value.bool ?_, S17.fin⟩
   unfold EvD.still
   rw [h4, h10, h17]; rfl
  refine lT rfl ⟨⟩ rfl ⟨congrArg Value.bool ?_, S10.fin⟩
  unfold EvD.still
  rw [h4, h10]; rfl
 refine lT rfl ⟨⟩ rfl ⟨congrArg Value.bool ?_, S4.fin⟩
 unfold EvD.still
 rw [h4]; rfl
end Go.Proofs.YtjjmdcnmeommbaaGreatDoor
namespace Go.Proofs.YtjjmdcnmeommbaaGreatDoor
open Go.Fw Go.RowKit
theorem w2c (cs : List Value) (h4 : cs.length = 4) (m : Int) (A : Option Addr) (n cap : Nat) (w0 : World) :
 J0a Tryz.prog 43 #[.agg cs.toArray, .int .i64 m, .slice A n cap] w0 fun v w' => (∃ gp gr gm, v = .func (.func 75) #[] #[.pointer (some ⟨gp, 0, none⟩), .pointer (some ⟨gr, 0, none⟩), .pointer (some ⟨gm, 0, none⟩)] ∧ w0.heap.size ≤ gp ∧ w0.heap.size ≤ gr ∧ w0.heap.size ≤ gm ∧
  r0a w' (gp, 27, cs) ∧ r0a w' (gr, 28, [.slice A n cap]) ∧ r0a w' (gm, 3, [.int .i64 m])) ∧ Below w0.heap.size w0 w' := by
 have S := St.refl w0
 match cs, h4 with
 | [c0, c1, c2, c3], _ =>
 refine a0a Tryz.func43 rfl Tryz.ntmps43 rfl ?_
 refine wO0 rfl ⟨⟩ (m0a S (by conv => lhs; whnf) rfl ?_)
 intro g3 w3 S3 X3 G3
 refine Q6a S3 (v := .int .i64 _) rfl rfl rfl ?_
 intro g4 w4 S4 X4 G4
 refine Q6a S4 (v := .slice _ _ _) rfl rfl rfl ?_
 intro g5 w5 S5 X5 G5
 refine lO0 rfl ⟨⟩ (G1a rfl rfl ?_)
 refine lR0 rfl ⟨⟩ (o0a rfl (by conv => lhs; whnf) ?_)
 exact ⟨⟨g3, g5, g4, rfl, by simpa using S5.new 2 rfl, by simpa using S5.new 0 rfl, by simpa using S5.new 1 rfl, S5.blk 2 rfl, S5.blk 0 rfl, S5.blk 1 rfl⟩, S5.fin⟩
structure d3b (p : e0a) (m : Int) (run : List c0a) (l : Nat) (Bs0 M0 : List Nat) (w0 : World) (J : Nat → Nat → List Nat → World → Prop) (Q : World → Prop) : Prop where
 start : ∀ g5 w, w0.heap.size ≤ g5 → Below w0.heap.size w0 w → J g5 0 Bs0 w
 own : ∀ g5 k Bs w w', w0.heap.size ≤ g5 → g5 ∉ Bs → J g5 k Bs w → F0a [g5] w w' → J g5 k Bs w'
 lt : ∀ g5 k Bs w, J g5 k Bs w → ∀ g ∈ Bs, g < w.heap.size
 each : ∀ g5 k Bs w c ys (err : Int), w0.heap.size ≤ g5 → g5 < w.heap.size → g5 ∉ Bs → J g5 k Bs w → x0a Bs0 w0 w → ((err = 0 ∧ (D3a p m run)[k]? = some c) ∨ (err = 110 ∧ k = (D3a p m run).length ∧ (D3a p m run).length ≤ run.length ∧ c = ⟨[], [], []⟩)) → K0a (g5 :: (Bs ++ M0)) w c ys →
  Yld Tryz.prog l #[.agg ys.toArray, .int .i64 err] w fun v w' => (err = 0 ∧ v = .bool true ∧ ∃ Bs', J g5 (k + 1) Bs' w' ∧ x0a Bs w w' ∧ ∀ g ∈ Bs', g ∈ Bs ∨ w.heap.size ≤ g) ∨ (err = 110 ∧ v = .bool false ∧ Q w')
section
variable {p : e0a} {m : Int} {run : List c0a} {l : Nat} {Bs0 M0 : List Nat} {w0 : World} {J : Nat → Nat → List Nat → World → Prop} {Q : World → Prop}
theorem d3b.round (h : d3b p m run l Bs0 M0 w0 J Q) : ∀ g5 k Bs w c ys, w0.heap.size ≤ g5 → g5 < w.heap.size → g5 ∉ Bs → J g5 k Bs w → x0a Bs0 w0 w → (D3a p m run)[k]? = some c → K0a (g5 :: (Bs ++ M0)) w c ys → Yld Tryz.prog l #[.agg ys.toArray, .int .i64 0] w fun v w' => v = .bool true ∧ ∃ Bs', J g5 (k + 1) Bs' w' ∧ x0a Bs w w' ∧ ∀ g ∈ Bs', g ∈ Bs ∨ w.heap.size ≤ g :=
 fun g5 k Bs w c ys h1 h2 h3 h4 h5 h6 h7 => (h.each g5 k Bs w c ys 0 h1 h2 h3 h4 h5 (.inl ⟨rfl, h6⟩) h7).mono fun v w' hh => by
  rcases hh with ⟨_, hh⟩ | ⟨hh, _⟩
  ·exact hh
  ·omega
theorem d3b.last (h : d3b p m run l Bs0 M0 w0 J Q) : ∀ g5 Bs w ys, w0.heap.size ≤ g5 → g5 < w.heap.size → g5 ∉ Bs → x0a Bs0 w0 w → (D3a p m run).length ≤ run.length → J g5 (D3a p m run).length Bs w → K0a (g5 :: (Bs ++ M0)) w ⟨[], [], []⟩ ys → Yld Tryz.prog l #[.agg ys.toArray, .int .i64 110] w fun v w' => v = .bool false ∧ Q w' :=
 fun g5 Bs w ys h1 h2 h3 h4 h5 h6 h7 => (h.each g5 _ Bs w _ ys 110 h1 h2 h3 h6 h4 (.inr ⟨rfl, rfl, h5, rfl⟩) h7).mono fun v w' hh => by
  rcases hh with ⟨hh, _⟩ | ⟨_, hh⟩
  ·omega
  ·exact hh
end
theorem U1a {M : List Nat} {w w' : World} {b : Blk} (hk : x0a M w w') (hm : b.1 ∉ M) (h : r0a w b) : r0a w' b := by
 have := h.lt
 unfold r0a at *; rw [hk.same _ this hm]; exact h
theorem InP.grow {p : e0a} {Bs0 M0 N : List Nat} {w0 w : World} {cs : List Value} (h : InP p (Bs0 ++ M0) w0 cs) (hK : x0a Bs0 w0 w) (hN : ∀ g ∈ N, g ∈ Bs0 ++ M0 ∨ w0.heap.size ≤ g) (hlt : ∀ g ∈ N, g < w.heap.size) : InP p N w cs := by
 have hm : ∀ g ∈ Bs0 ++ N, g ∈ Bs0 ++ M0 ∨ w0.heap.size ≤ g := fun g hg => by
  rcases List.mem_append.1 hg with h | h
  ·exact .inl (List.mem_append_left _ h)
  ·exact hN g h
 have hk : x0a (Bs0 ++ N) w0 w := hK.mono fun g hg => List.mem_append_left _ hg
 exact ⟨((h.rd.more hm).keep hk).less fun g hg => List.mem_append_right _ hg, h.ok, ⟨fun hh => ((h.msk.more hm).keep hk).1 (List.mem_append_right _ hh), ((h.msk.more hm).keep hk).2⟩, hlt⟩
theorem K0a.grow {c : B0a} {ys : List Value} {g5 : Nat} {Bs Bs' M0 : List Nat} {w w' : World} (h : K0a (g5 :: (Bs ++ M0)) w c ys) (hk : x0a Bs w w') (hb : ∀ g ∈ Bs', g ∈ Bs ∨ w.heap.size ≤ g) : K0a (g5 :: (Bs' ++ M0)) w' c ys := by
 have h1 : K0a (Bs ++ (g5 :: (Bs' ++ M0))) w c ys := h.more fun g hg => by
  simp only [List.mem_append, List.mem_cons] at hg ⊢
  rcases hg with hg | rfl | hg | hg
  ·exact .inl (.inr (.inl hg))
  ·exact .inl (.inl rfl)
  ·rcases hb g hg with h | h
   ·exact .inl (.inr (.inl h))
   ·exact .inr h
  ·exact .inl (.inr (.inr hg))
 exact (h1.keep (hk.mono fun g hg => List.mem_append_left _ hg)).less fun g hg => List.mem_append_right _ hg
theorem n9b (p : e0a) (m : Int) (hm : m = 0 ∨ m = 1 ∨ m = 2) (run : List c0a) (gp gr gm l : Nat) (Bs0 M0 : List Nat) (w0 : World) (cs : List Value) (vr : Value) (J : Nat → Nat → List Nat → World → Prop) (Q : World → Prop)
 (hI : InP p (Bs0 ++ M0) w0 cs) (hRun : q5a (Bs0 ++ M0) w0 vr run) (hbp : r0a w0 (gp, 27, cs)) (hbr : r0a w0 (gr, 28, [vr])) (hbm : r0a w0 (gm, 3, [.int .i64 m])) (hgp : gp ∉ Bs0) (hgr : gr ∉ Bs0) (hgm : gm ∉ Bs0)
 (hJ : d3b p m run l Bs0 M0 w0 J Q) :
 J0a Tryz.prog 75 #[.func (.yield l) #[] #[], .pointer (some ⟨gp, 0, none⟩), .pointer (some ⟨gr, 0, none⟩), .pointer (some ⟨gm, 0, none⟩)] w0 fun _ w' => ((D3a p m run).length = run.length + 1 ∧ ∃ g5 Bs, J g5 (D3a p m run).length Bs w') ∨ Q w' := by
 obtain ⟨Ac, nc, cc, Am, nm, cm, Al, nl, cl, At, nt, ct, rfl, -⟩ := hI.rd.open_
 obtain ⟨Ar, nr, cr, rfl⟩ := hRun.form
 obtain ⟨_, -, _⟩ := hRun.len
 have hp := hI.ok
 have S := St.refl w0
 have hcp : o1a w0 gp 0 [.slice Ac nc cc, .slice Am nm cm, .slice Al nl cl, .slice At nt ct] := fun j v hj => by rw [Nat.zero_add]; exact hbp.cell hj
 have hB0 : ∀ g ∈ Bs0, g < w0.heap.size := fun g hg => hI.lt g (List.mem_append_left _ hg)
 refine a0a Tryz.func75 rfl Tryz.ntmps75 rfl ?_
 refine wO0 rfl ⟨⟩ (X1a E5a rfl (hcp.keep (S.keep0 []) (by simp)) (by rfl) rfl ?_)
 refine C0a S R8c rfl rfl (B3b p (Bs0 ++ M0) _ _ (hI.keep (S.keep0 _))) ?_
 rintro v10 w10 ⟨_, rfl, hx⟩ S10 X10
 obtain ⟨Ym, ym', zm, Ya, ya', za, Yb, yb', zb, rfl, -⟩ := hx.open_
 refine g0a S10 c6a rfl rfl ?_
 intro g5 w5 S5 X5 G5
 have G5' := Nat.le_trans S10.size G5
 replace hx := (hx.more (M' := g5 :: (Bs0 ++ M0)) (fun g hg => by rcases List.mem_cons.1 hg with rfl | hg; exact .inr G5; exact .inl hg)).keep X5.of_nil
 first | refine d0a (kk := 0) (vs := [_, _, _]) S5 K2a rfl rfl rfl rfl rfl rfl rfl ?_
 intro w0_3 S0_3 X0_3
 dsimp only [n0a, List.set] at S0_3
 replace hx := hx.keep (X0_3.mono (by simp))
 refine lO0 rfl ⟨⟩ (X1a t1a rfl (S0_3.cells 0 rfl) rfl rfl ?_)
 refine lO0 rfl ⟨⟩ ?_
 have hJ0 := hJ.start g5 _ G5' S0_3.fin
 refine R7a rfl rfl rfl (hJ.round g5 0 Bs0 _ (A1a p) _ G5' (S0_3.lt 0 rfl) (fun hh => by have := hB0 g5 hh; omega) hJ0 (S0_3.keep0 _) rfl hx) ?_
 rintro v14 w14 ⟨rfl, Bs1, hJ1, hK1, hN1⟩
 have hb14 := U1a hK1 (fun hh => by have := hB0 g5 hh; omega) (S0_3.blk 0 rfl)
 have hx1 := K0a.grow hx hK1 hN1
 have K14 : x0a Bs0 w0 w14 := (S0_3.keep0 Bs0).trans hK1
 have hN14 : ∀ g ∈ Bs1, g ∈ Bs0 ∨ w0.heap.size ≤ g := fun g hg => by
  rcases hN1 g hg with h | h
  ·exact .inl h
  ·right; have := S0_3.size; omega
 have n14 : g5 ∉ Bs1 := fun hh => by
  rcases hN1 g5 hh with h | h
  ·have := hB0 g5 h; omega
  ·have := S0_3.lt 0 rfl; omega
 have S := St.borrow1 hb14
 have hcr : w14.cell? ⟨gr, 0, none⟩ = some (.slice Ar nr cr) := K14.cell (a := ⟨gr, 0, none⟩) hgr (hbr.cell rfl)
 refine lO0 rfl ⟨⟩ (s0a j6a rfl (by exact hcr) rfl ?_)
 refine lC0 rfl ⟨⟩ (wL (fun μ D ε w => D = [] ∧ ∃ k : Nat, ∃ c : B0a, ∃ ys : List Value, ∃ Bs : List Nat, (k + μ = run.length) ∧ ((D3a p m run)[k]? = some c) ∧ (J g5 (k + 1) Bs w) ∧ (K0a (g5 :: (Bs ++ M0)) w c ys) ∧ (x0a Bs0 w0 w) ∧ (∀ g ∈ Bs, g ∈ Bs0 ∨ w0.heap.size ≤ g) ∧ (g5 ∉ Bs) ∧ (r0a w (g5, 52, ys)) ∧ ε 0 = .func (.yield l) #[] #[] ∧ ε 1 = .pointer (some ⟨gp, 0, none⟩) ∧ ε 3 = .pointer (some ⟨gm, 0, none⟩) ∧ ε 5 = .pointer (some ⟨g5, 0, none⟩) ∧ ε 16 = .slice Ar nr cr ∧ ε 17 = .int .i64 nr ∧ ε 18 = .int .i64 k) (μ := run.length) ⟨rfl, 0, A1a p, _, Bs1, by omega, rfl, hJ1, hx1, K14, hN14, n14, hb14, rfl, rfl, rfl, rfl, rfl, rfl, rfl⟩ ?_)
 rintro μ D ε w ⟨rfl, k, c, ys, Bs, _, hc, hJk, hx, hK, hN, n5, hb5, e0, e1, e3, e5, e16, e17, e18⟩
 refine k0a 0 e0 (k0a 1 e1 (k0a 3 e3 (k0a 5 e5 (k0a 16 e16 (k0a 17 e17 (k0a 18 e18 ?_))))))
 clear e0 e1 e3 e5 e16 e17 e18
 obtain ⟨Ym, ym', zm, Ya, ya', za, Yb, yb', zb, rfl, -⟩ := hx.open_
 have hRunW := hRun.keep (hK.mono (fun g hg => List.mem_append_left M0 hg))
 have hgp5 : gp ∉ [g5] := fun hh => by rw [List.mem_singleton] at hh; have := hbp.lt; simp at this; omega
 have hgm5 : gm ∉ [g5] := fun hh => by rw [List.mem_singleton] at hh; have := hbm.lt; simp at this; omega
 have hcm : w.cell? ⟨gm, 0, none⟩ = some (.int .i64 m) := hK.cell (a := ⟨gm, 0, none⟩) hgm (hbm.cell rfl)
 have hcpw := hcp.keep hK hgp
 replace S := St.borrow1 hb5
 refine wB0 rfl ⟨⟩ (fun h19 => ?_) fun h19 => ?_
 ·obtain ⟨x, b20, p20, _, hxx, hA20, _, hl20, hc20, hr20⟩ := RdS.get (hRunW) (k) (by omega)
  obtain ⟨rfl, _, _, _⟩ := id hr20
  refine lO (S.k.b hc20) [.x b20 p20,.v 0] rfl ⟨⟨rfl,hl20⟩,⟨hA20,by omega⟩,⟨⟩⟩ (g0a S a2b rfl rfl ?_)
  intro g8 w8 S8 X8 G8
  first | refine d0a (kk := 0) (vs := [_, _, _]) S8 w0b rfl rfl rfl rfl rfl rfl rfl ?_
  intro w4_3 S4_3 X4_3
  dsimp only [n0a, List.set] at S4_3
  refine lO0 rfl ⟨⟩ (X1a E5a rfl (hcpw.keep S4_3.keepM hgp5) (by rfl) rfl ?_)
  refine s0a E0a rfl (by exact S4_3.oldM hgm5 hcm) rfl ?_
  refine X1a t1a rfl (S4_3.cells 1 rfl) rfl rfl ?_
  refine lO S4_3.k [.w 0] rfl ⟨⟨rfl,by rfl⟩,⟨⟩⟩ ?_
  have hlt27 : ∀ g ∈ g5 :: (Bs ++ M0), g < w4_3.heap.size := fun g hg => by
   have hsz := S4_3.size
   rcases List.mem_cons.1 hg with rfl | hg
   ·exact S4_3.lt 1 rfl
   ·rcases List.mem_append.1 hg with h | h
    ·have := hJ.lt _ _ _ _ hJk g h; omega
    ·have := hI.lt g (List.mem_append_right _ h); have := hK.size; omega
  have hN27 : ∀ g ∈ g5 :: (Bs ++ M0), g ∈ Bs0 ++ M0 ∨ w0.heap.size ≤ g := fun g hg => by
   rcases List.mem_cons.1 hg with rfl | hg
   ·exact .inr G5'
   ·rcases List.mem_append.1 hg with h | h
    ·rcases hN g h with h | h
     ·exact .inl (List.mem_append_left _ h)
     ·exact .inr h
    ·exact .inl (List.mem_append_right _ h)
  have hK27 : x0a Bs0 w0 w4_3 := hK.freshL S4_3.keepM (fun g hg => by rw [List.mem_singleton] at hg; subst hg; exact .inl G5')
  have hgd := b6b hp (h0a hc)
  refine C0a S4_3 d8c rfl rfl (n7b p c m x (by rcases hm with h | h | h; exact .inl ⟨h, hgd.2 h⟩; exact .inr (.inl h); exact .inr (.inr h)) (g5 :: (Bs ++ M0)) _ _ _ (hI.grow hK27 hN27 hlt27) (hx.keep (S4_3.keepM.mono (by simp))) hgd.1) ?_
  rintro v27 w27 ⟨_, rfl, hz⟩ S27 X27
  obtain ⟨Zm, zm1, zm2, Za, za1, za2, Zb, zb1, zb2, rfl, -⟩ := hz.open_
  refine lO0 rfl ⟨⟩ ?_
  first | refine d0a (kk := 1) (vs := [_, _, _]) S27 K2a rfl rfl rfl rfl rfl rfl rfl ?_
  intro w5_8 S5_8 X5_8
  dsimp only [n0a, List.set] at S5_8
  replace hz := hz.keep (X5_8.mono (by simp))
  refine lO0 rfl ⟨⟩ (X1a t1a rfl (S5_8.cells 1 rfl) rfl rfl ?_)
  refine lO0 rfl ⟨⟩ ?_
  have hJ33 := hJ.own g5 (k + 1) Bs _ _ G5' n5 hJk S5_8.below
  have hK33 : x0a Bs0 w0 w5_8 := hK.freshL S5_8.keepM (fun g hg => by rw [List.mem_singleton] at hg; subst hg; exact .inl G5')
  have hYY : Yld Tryz.prog l #[.agg #[.slice Zm zm1 zm2, .slice Za za1 za2, .slice Zb zb1 zb2], .int .i64 (u4b p m c x).2] w5_8 fun v w' => (v = .bool true ∧ x ∈ N0a p m c ∧ ∃ Bs', J g5 (k + 1 + 1) Bs' w' ∧ x0a Bs w5_8 w' ∧ ∀ g ∈ Bs', g ∈ Bs ∨ w5_8.heap.size ≤ g) ∨ (v = .bool false ∧ Q w') := by
   by_cases hin : x ∈ N0a p m c
   ·have hz2 := hz
    rw [R5a hin] at hz2 ⊢
    exact (hJ.round g5 (k + 1) Bs _ _ _ G5' (S5_8.lt 1 rfl) n5 hJ33 hK33 (O1b hc hxx hin) hz2).mono fun v w' h => .inl ⟨h.1, hin, h.2⟩
   ·have hz2 := hz
    rw [f3a hin] at hz2 ⊢
    have hln := o8b hc hxx hin
    exact (hJ.last g5 Bs _ _ G5' (S5_8.lt 1 rfl) n5 hK33 (by omega) (by rw [hln]; exact hJ33) hz2).mono fun v w' h => .inr h
  refine R7a rfl rfl rfl hYY ?_
  rintro v33 w33 (⟨rfl, hin, Bs1, hJ1, hK1, hN1⟩ | ⟨rfl, hQ33⟩)
  ·refine lB0 rfl ⟨⟩ (fun h37 => by exact absurd (by rw [R5a hin]) h37) (fun h37 => ?_)
   refine lP0 rfl ⟨by omega,⟨⟩⟩ ?_
   have hz2 := hz
   rw [R5a hin] at hz2
   have hc2 := O1b hc hxx hin
   have hb33 := U1a hK1 n5 (S5_8.blk 1 rfl)
   have hx1 := K0a.grow hz2 hK1 hN1
   have K33 : x0a Bs0 w0 w33 := hK33.freshL hK1 (fun g hg => (hN g hg).symm)
   have hN33 : ∀ g ∈ Bs1, g ∈ Bs0 ∨ w0.heap.size ≤ g := fun g hg => by
    rcases hN1 g hg with h | h
    ·exact hN g h
    ·right; have := hK33.size; omega
   have n33 : g5 ∉ Bs1 := fun hh => by
    rcases hN1 g5 hh with h | h
    ·exact n5 h
    ·have := S5_8.lt 1 rfl; omega
   exact ⟨μ - 1, by omega, rfl, k + 1, _, _, Bs1, by omega, hc2, hJ1, hx1, K33, hN33, n33, hb33, rfl, rfl, rfl, rfl, rfl, rfl, rfl⟩
  refine lR0 rfl ⟨⟩ (C1a rfl ?_)
  exact .inr hQ33
 refine lF0 rfl ⟨⟩ (C1a rfl ?_)
 refine .inl ⟨?_, g5, Bs, ?_⟩
 ·have := z1a hc; have := f5a p m run; omega
 ·have := z1a hc; have := f5a p m run
  rw [show (D3a p m run).length = k + 1 by omega]; exact hJk
end Go.Proofs.YtjjmdcnmeommbaaGreatDoor
namespace Go.Fw
open Go.RowKit
theorem NC.keepN {w w' : World} {rs : List (Nat × Obj)} (h : NC w rs) {Gs : List Nat} (k : x0a Gs w w') (hg : ∀ x ∈ rs, x.1 ∉ Gs) : NC w' rs := fun x hx => ⟨(k.same x.1 (h.lt x hx) (hg x hx)).trans (h x hx).1, (h x hx).2⟩
theorem St.other {M : List Nat} {w0 w w' : World} {L : List Ent} (S : St M w0 w L) {g : Nat} (hb : F0a [g] w w') (hg : w0.heap.size ≤ g) (hn : g ∉ u8a L) : St M w0 w' L := by
 refine ⟨⟨hb.os.trans S.below.os, hb.tape.trans S.below.tape, hb.output.trans S.below.output, Nat.le_trans S.below.size hb.size, fun k hk hm => ?_⟩, fun b hm x hx => ?_, S.apart⟩
 ·rw [hb.block k (Nat.lt_of_lt_of_le hk S.below.size) (by rw [List.mem_singleton]; omega)]
  exact S.below.block k hk hm
 ·obtain ⟨h1, h2⟩ := S.own b hm x hx
  refine ⟨h1, ?_⟩
  have hlt := h2.lt
  unfold r0a at *
  rw [hb.block x hlt (by rw [List.mem_singleton]; rintro rfl; exact hn (d3a.2 ⟨b, hm, hx⟩))]
  exact h2
theorem p9c {a b c d e t1 t2 t3 t4 t5 t6 : Nat} {c1 c2 c3 c4 c5 c6 : List Value} {G : Option Nat} : u8a ([(some a, t1, c1), (some b, t2, c2), (some c, t3, c3), (some d, t4, c4), (some e, t5, c5)] ++ [(G, t6, c6)]) = a :: b :: c :: d :: e :: G.toList := by cases G <;> rfl
section
variable {P : Program} {fn : Func} {R : Value → World → Prop} {D : List Deferred} {e : Env} {w : World}
theorem U4a {a1 t1 a2 t2 a3 t3 g1 g2 g3 : Nat} {v1 v2 v3 : Value} (h : fn.results = #[.cell a1 t1, .cell a2 t2, .cell a3 t3]) (o1 : One P t1) (o2 : One P t2) (o3 : One P t3) (e1 : e a1 = .pointer (some ⟨g1, 0, none⟩)) (e2 : e a2 = .pointer (some ⟨g2, 0, none⟩)) (e3 : e a3 = .pointer (some ⟨g3, 0, none⟩))
 (rs : List Nat) (hD : D = rs.map f4a) (hn : rs.Nodup) (hO : NC w (q6a rs)) {x1 x2 x3 : Nat} {c1 c2 c3 : List Value} (b1 : r0a w (g1, x1, c1)) (b2 : r0a w (g2, x2, c2)) (b3 : r0a w (g3, x3, c3)) (q1 : c1[0]? = some v1) (q2 : c2[0]? = some v2) (q3 : c3[0]? = some v3) (hR : ∀ w', F0a rs w w' → R (.tuple #[v1, v2, v3]) w') : N4a P fn R D e w :=
 ⟨rs, hD, hn, hO, fun w' hb _ tmps he => by
  have hk : x0a rs w w' := ⟨hb.size, hb.block⟩
  have hne : ∀ {g x : Nat} {c : List Value}, r0a w (g, x, c) → g ∉ rs := fun hb hh => hO.ne hb _ (List.mem_map.2 ⟨_, hh, rfl⟩) rfl
  have k1 := hk.cell (a := ⟨g1, 0, none⟩) (hne b1) (b1.cell q1)
  have k2 := hk.cell (a := ⟨g2, 0, none⟩) (hne b2) (b2.cell q2)
  have k3 := hk.cell (a := ⟨g3, 0, none⟩) (hne b3) (b3.cell q3)
  subst he
  simp only [I0a, Array.getD_eq_getD_getElem?] at e1 e2 e3
  have hl : ∀ (t g : Nat) (v : Value), One P t → w'.cell? ⟨g, 0, none⟩ = some v → (loadVar t ⟨g, 0, none⟩).run P w' = .ok v w' := fun t g v ho hc => by rw [ho w']; simp [load, Sem.run, hc]
  exact ⟨_, by simp [results, h, asAddr, e1, e2, e3, hl _ _ _ o1 k1, hl _ _ _ o2 k2, hl _ _ _ o3 k3], hR w' hb⟩⟩
end
abbrev d0d (M : List Nat) (w : World) (v : Value) (l : List B0a) : Prop := RdS M w 3 (L5a M w) v l
theorem L5a.keep {M : List Nat} {w w' : World} (hk : x0a M w w') : ∀ cs c, L5a M w cs c → L5a M w' cs c := fun _ _ h => K0a.keep hk h
theorem L5a.less {M M' : List Nat} {w : World} (hk : ∀ g ∈ M', g ∈ M) : ∀ cs c, L5a M w cs c → L5a M' w cs c := fun _ _ h => K0a.less hk h
def t5c (p : e0a) (m : Int) (run : List c0a) : Int := if (D3a p m run).length = run.length + 1 then 0 else 110
end Go.Fw
namespace Go.Proofs.YtjjmdcnmeommbaaGreatDoor
open Go.Fw Go.RowKit
theorem j8b {M Mx : List Nat} {w0 w w' : World} {A : List Ent} {G : Option Nat} {cs' : List Value} {v : Value} {l : List B0a} {r : Nat} (hrow : m2a L5a 3 Mx w G cs' v l) (S : St [] w0 w (A ++ [(G, 52, cs')])) (hM : ∀ g ∈ M, g < w0.heap.size) (hsub : ∀ g ∈ r :: M, g ∈ Mx) (hO : NC w (q6a [r])) (hb : F0a [r] w w') (hl : l.length ≤ 1000000) : d0d M w' v l := by
 have h1 : m2a L5a 3 (r :: M) w G cs' v l := hrow.more P1a fun g hg => .inl (.inr (hsub g hg))
 have h2 := h1.rd P1a S (k := A.length) (el := 52) (by simp) (fun g hg hm => by
  subst hg
  have hmem : (some g, 52, cs') ∈ A ++ [(some g, 52, cs')] := by simp
  have hblk := S.own _ hmem g rfl
  rcases List.mem_cons.1 hm with rfl | hm
  ·exact hO.ne hblk.2 _ (List.mem_cons_self) rfl
  ·rcases hblk.1 with h | h
   ·have := hM g hm; omega
   ·cases h) hl
 have hk : x0a (r :: M) w w' := (x0a.of_belowM hb).mono (by simp)
 exact RdS.lessW (RdS.keepW h2 hk (L5a.keep hk)) (fun g hg => List.mem_cons_of_mem _ hg) (L5a.less fun g hg => List.mem_cons_of_mem _ hg)
set_option maxHeartbeats 2000000 in
theorem g9c (p : e0a) (m : Int) (hm : m = 0 ∨ m = 1 ∨ m = 2) (run : List c0a) (M : List Nat) (w0 : World) (cs : List Value) (vr : Value) (hI : InP p M w0 cs) (hRun : q5a M w0 vr run) (hlen : run.length ≤ 120) :
 J0a Tryz.prog 17 #[.agg cs.toArray, .int .i64 m, vr] w0 fun v w' => (∃ vl, v = .tuple #[vl, .int .i64 (t5c p m run), .int .i64 (((D3a p m run).length : Int) - 1)] ∧ d0d M w' vl (D3a p m run)) ∧ Below w0.heap.size w0 w' := by
 obtain ⟨Ac, nc, cc, Am, nm, cm, Al, nl, cl, At, nt, ct, rfl, _, _, _, _, _, _, _, _, _, _, _, _⟩ := hI.rd.open_
 obtain ⟨Ar, nr, cr, rfl⟩ := hRun.form
 obtain ⟨_, -, _⟩ := hRun.len
 have hp := hI.ok
 have hM := hI.lt
 have S := St.refl w0
 have hle := f5a p m run
 refine T2a Tryz.func17 rfl Tryz.ntmps17 rfl (wI ?_)
 refine wO0 rfl ⟨⟩ (m0a S (by conv => lhs; whnf) rfl ?_)
 intro g3 w3 S3 X3 G3
 refine g0a S3 E1c rfl rfl ?_
 intro g6 w6 S6 X6 G6
 refine g0a S6 e2c rfl rfl ?_
 intro g7 w7 S7 X7 G7
 refine g0a S7 q9c rfl rfl ?_
 intro g8 w8 S8 X8 G8
 refine lCn 2 S8.k [] rfl ⟨⟩ (wY (fun D ε w => D = [] ∧ St [] w0 w [(some g8, 3, [.int .i64 0]), (some g7, 32, [.int .i64 0]), (some g6, 39, [.slice none 0 0]), (some g3, 27, [.slice Ac nc cc, .slice Am nm cm, .slice Al nl cl, .slice At nt ct])] ∧ Sl ε [(1, .int .i64 m), (2, .slice Ar nr cr), (3, .pointer (some ⟨g3, 0, none⟩)), (6, .pointer (some ⟨g6, 0, none⟩)), (7, .pointer (some ⟨g7, 0, none⟩)), (8, .pointer (some ⟨g8, 0, none⟩))]) ?_ ?_)
 ·refine wO S8.k [.w 3] rfl ⟨⟨rfl,by rfl⟩,⟨⟩⟩ (f0a S8 u3b rfl rfl (y5a p M _ _ (hI.keep (S8.keep0 M)).rd hI.ok (hI.keep (S8.keep0 M)).msk (hI.keep (S8.keep0 M)).lt) ?_)
  intro w17 S17 X17
  refine lB0 rfl ⟨⟩ (fun h22 => by exfalso; omega) fun h22 => ?_
  refine lB0 rfl ⟨⟩ (fun h24 => ?_) fun h24 => ?_
  ·refine lB0 rfl ⟨⟩ (fun h27 => ?_) fun h27 => ?_
   ·refine lB0 rfl ⟨⟩ (fun h31 => by exfalso; omega) fun h31 => ?_
    refine lP0 rfl ⟨⟩ ⟨rfl, S17, rfl⟩
   refine lP0 rfl ⟨⟩ ⟨rfl, S17, rfl⟩
  refine lP0 rfl ⟨⟩ ⟨rfl, S17, rfl⟩
 rintro D ε w ⟨rfl, S, eZ⟩
 refine wK eZ ?_
 refine wB0 rfl ⟨⟩ (fun h35 => by exfalso; omega) fun h35 => ?_
 refine lO0 rfl ⟨⟩ (g0a S E1c rfl rfl ?_)
 intro g12 w12 S12 X12 G12
 refine lO S12.k [.w 4] rfl ⟨⟨rfl,by rfl⟩,⟨⟩⟩ ?_
 have Zb := S12.size
 refine C0a S12 G7c rfl rfl (w2c _ rfl m Ar nr cr _) ?_
 rintro v39 w39 ⟨gp, gr, gm, rfl, Ggp, Ggr, Ggm, hbp, hbr, hbm⟩ S39 X39
 refine lC0 rfl ⟨⟩ (wJ ?_)
 refine C6a (vs := fun y => #[y, _, _, _]) q8c rfl (fun _ => rfl) (fun rc wi hst hpe htm henv hps has hbo hdr hl hB hsz => ?_)
 obtain ⟨l, hl'⟩ : ∃ l, l = w39.heap.size + 1 := ⟨_, rfl⟩
 have hO1 := M4a (NC.nil (w := w39)) hdr hl hB
 rw [← hl'] at hl hO1 ⊢
 have Si := (S39.later hB).nils (R := [(none, 52, [])]) (by simp)
 have Ki : x0a [] w39 wi := x0a.of_below hB
 have Zw := S39.size
 have lgp : gp < w39.heap.size := hbp.lt
 have lgr : gr < w39.heap.size := hbr.lt
 have lgm : gm < w39.heap.size := hbm.lt
 have hlne : ∀ x ∈ [(w39.heap.size, Obj.deferred (some []))], x.1 ≠ l := fun x hx => by
  rcases List.mem_cons.1 hx with rfl | hx
  ·show w39.heap.size ≠ l; omega
  ·cases hx
 have hBmem : ∀ g ∈ g12 :: g8 :: g7 :: g6 :: g3 :: ([] : List Nat), g < w12.heap.size ∧ w0.heap.size ≤ g := fun g hg => by
  simp only [List.mem_cons, List.not_mem_nil, or_false] at hg
  rcases hg with rfl | rfl | rfl | rfl | rfl
  ·exact ⟨S12.lt 0 rfl, by simpa using S12.new 0 rfl⟩
  ·exact ⟨S12.lt 1 rfl, by simpa using S12.new 1 rfl⟩
  ·exact ⟨S12.lt 2 rfl, by simpa using S12.new 2 rfl⟩
  ·exact ⟨S12.lt 3 rfl, by simpa using S12.new 3 rfl⟩
  ·exact ⟨S12.lt 4 rfl, by simpa using S12.new 4 rfl⟩
 have hN0 : ∀ g ∈ (l :: g12 :: g8 :: g7 :: g6 :: g3 :: []) ++ (w39.heap.size :: M), g ∈ M ∨ w0.heap.size ≤ g := fun g hg => by
  rcases List.mem_append.1 hg with hg | hg
  ·rcases List.mem_cons.1 hg with rfl | hg
   ·right; omega
   ·exact .inr (hBmem g hg).2
  ·rcases List.mem_cons.1 hg with rfl | hg
   ·right; omega
   ·exact .inl hg
 have hlt0 : ∀ g ∈ (l :: g12 :: g8 :: g7 :: g6 :: g3 :: []) ++ (w39.heap.size :: M), g < wi.heap.size := fun g hg => by
  rcases List.mem_append.1 hg with hg | hg
  ·rcases List.mem_cons.1 hg with rfl | hg
   ·omega
   ·have := (hBmem g hg).1; omega
  ·rcases List.mem_cons.1 hg with rfl | hg
   ·omega
   ·have := hM g hg; omega
 have hIi : InP p ((l :: g12 :: g8 :: g7 :: g6 :: g3 :: []) ++ (w39.heap.size :: M)) wi _ := ⟨(hI.rd.more hN0).keep (Si.keep0 _), hI.ok, (hI.msk.more hN0).keep (Si.keep0 _), hlt0⟩
 have hRi : q5a ((l :: g12 :: g8 :: g7 :: g6 :: g3 :: []) ++ (w39.heap.size :: M)) wi (.slice Ar nr cr) run := (hRun.more (by omega) hN0).keep (Si.keep0 _)
 have hnB : ∀ g, w12.heap.size ≤ g → g < w39.heap.size → g ∉ (l :: g12 :: g8 :: g7 :: g6 :: g3 :: []) := fun g h1 h2 hh => by
  rcases List.mem_cons.1 hh with h | h
  ·omega
  ·have := (hBmem g h).1; omega
 refine J0a.mono (n9b p m hm run gp gr gm l (l :: g12 :: g8 :: g7 :: g6 :: g3 :: []) (w39.heap.size :: M) wi _ _ (fun g5 k Bs w => ∃ (G : Option Nat) (cs' : List Value) (v : Value), Bs = (l :: g12 :: g8 :: g7 :: g6 :: g3 :: G.toList) ∧ NC w [(l, .loop rc), (w39.heap.size, .deferred (some []))] ∧ St [] w0 w ([(some g12, 39, [v]), (some g8, 3, [.int .i64 0]), (some g7, 32, [.int .i64 0]), (some g6, 39, [.slice none 0 0]), (some g3, 27, [.slice Ac nc cc, .slice Am nm cm, .slice Al nl cl, .slice At nt ct])] ++ [(G, 52, cs')]) ∧ m2a L5a 3 (g5 :: l :: w39.heap.size :: g12 :: g8 :: g7 :: g6 :: g3 :: M) w G cs' v ((D3a p m run).take k)) (fun w => (D3a p m run).length ≤ run.length ∧ ∃ (g5 : Nat) (G : Option Nat) (cs' : List Value) (v : Value), NC w [(l, .loop { rc with state := .done, pending := some .ret }), (w39.heap.size, .deferred (some []))] ∧ St [] w0 w ([(some g12, 39, [v]), (some g8, 3, [.int .i64 (((D3a p m run).length : Int) - 1)]), (some g7, 32, [.int .i64 110]), (some g6, 39, [v]), (some g3, 27, [.slice Ac nc cc, .slice Am nm cm, .slice Al nl cl, .slice At nt ct])] ++ [(G, 52, cs')]) ∧ m2a L5a 3 (g5 :: l :: w39.heap.size :: g12 :: g8 :: g7 :: g6 :: g3 :: M) w G cs' v (D3a p m run)) hIi hRi (f1a Ki hbp) (f1a Ki hbr) (f1a Ki hbm) (hnB gp Ggp lgp) (hnB gr Ggr lgr) (hnB gm Ggm lgm) ⟨?_, ?_, ?_, fun g5 k Bs w c ys err hg5 hg5w hn5 hJ hKw hcase hY => ?_⟩) ?_
 ·intro g5 w hg5 hBw
  exact ⟨none, [], _, rfl, hO1.keep (x0a.of_below hBw), Si.later hBw, m2a.nil⟩
 ·rintro g5 k Bs w w' hg5 hn5 ⟨G, cs', v, rfl, hO, S, hrow⟩ hb
  simp only [List.mem_cons, not_or] at hn5
  refine ⟨G, cs', v, rfl, hO.keepN (x0a.of_belowM hb) (fun x hx => ?_), S.other hb (by omega) (by rw [p9c]; simp only [List.mem_cons, not_or]; exact hn5.2), hrow.keep P1a ((x0a.of_belowM hb).mono (by simp))⟩
  rw [List.mem_singleton]
  rcases List.mem_cons.1 hx with rfl | hx
  ·exact fun h => hn5.1 h.symm
  ·rcases List.mem_cons.1 hx with rfl | hx
   ·show ¬ w39.heap.size = g5; omega
   ·cases hx
 ·rintro g5 k Bs w ⟨G, cs', v, rfl, hO, S, hrow⟩ g hg
  rcases List.mem_cons.1 hg with rfl | hg
  ·exact hO.lt _ List.mem_cons_self
  ·have hb5 : g ∈ u8a ([(some g12, 39, [v]), (some g8, 3, [.int .i64 0]), (some g7, 32, [.int .i64 0]), (some g6, 39, [.slice none 0 0]), (some g3, 27, [.slice Ac nc cc, .slice Am nm cm, .slice Al nl cl, .slice At nt ct])] ++ [(G, 52, cs')]) := by rw [p9c]; exact hg
   obtain ⟨x, hx, hg⟩ := d3a.1 hb5; exact (S.own x hx g hg).2.lt
 ·obtain ⟨G, cs', v, rfl, hO3, S3, hrow3⟩ := hJ
  obtain ⟨_, _, _, _, _, _, _, _, _, rfl, -⟩ := hY.open_
  have K3 := x0a.refl (l :: g12 :: g8 :: g7 :: g6 :: g3 :: G.toList) w
  refine N8b (hO3 (l, .loop rc) (by simp)).1 hst htm henv hps has hbo rfl rfl ?_
  refine wI ?_
  refine wO0 rfl ⟨⟩ (g0a S3 c6a rfl rfl ?_)
  intro g13 w13 S13 X13 G13
  have GK313 := Nat.le_trans K3.size G13
  replace K3 := K3.trans (X13.of_nil)
  replace hO3 := hO3.keep X13
  refine d0a (kk := 0) (vs := [_, _, _]) S13 K2a rfl rfl rfl rfl rfl rfl rfl ?_
  intro w10_1 S10_1 X10_1
  dsimp only [n0a, List.set] at S10_1
  replace K3 := K3.fresh2 X10_1 (by exact .inl GK313)
  replace hO3 := by exact hO3.keepS X10_1 (S13.blk 0 rfl)
  refine lF0 rfl ⟨⟩ ?_
  refine ⟨(hO3 (l, .loop rc) (by simp)).1, ?_⟩
  have Sb := S10_1.putObj (.loop { rc with state := .busy }) hO3 (List.mem_cons_self) (.inl (by omega))
  have hOb := hO3.put (o' := .loop { rc with state := .busy }) hlne (by simp)
  have Kb := K3.fresh2 (h1a w10_1 l (.loop { rc with state := .busy })) (.inr (by simp))
  generalize w10_1.putObj l (.loop { rc with state := .busy }) = wb at Sb hOb Kb ⊢
  have hYb := hY.keep (Kb.mono (fun g hg => List.mem_cons_of_mem _ (List.mem_append_left _ hg)))
  have hsubB : ∀ g ∈ G.toList ++ (g5 :: l :: w39.heap.size :: g12 :: g8 :: g7 :: g6 :: g3 :: M), g ∈ g5 :: ((l :: g12 :: g8 :: g7 :: g6 :: g3 :: G.toList) ++ (w39.heap.size :: M)) := fun g hg => by
   simp only [List.mem_append, List.mem_cons] at hg ⊢
   rcases hg with h | h | h | h | h | h | h | h | h | h <;> simp [h]
  have hsubC : ∀ g ∈ (l :: g12 :: g8 :: g7 :: g6 :: g3 :: G.toList), g ∈ G.toList ++ (g5 :: l :: w39.heap.size :: g12 :: g8 :: g7 :: g6 :: g3 :: M) := fun g hg => by
   simp only [List.mem_append, List.mem_cons] at hg ⊢
   rcases hg with h | h | h | h | h | h | h <;> simp [h]
  have hrowB := hrow3.keep P1a (Kb.mono hsubC)
  have Kr := x0a.refl [] wb
  have Zb2 := Kb.size
  refine wI ?_
  refine wB0 rfl ⟨⟩ (fun h43 => ?_) fun h43 => ?_
  ·obtain ⟨herr, rfl, hle2, _⟩ := hcase.resolve_left (fun h => h43 h.1)
   rw [List.take_length] at hrowB
   refine lC0 rfl ⟨⟩ (I7b b0a (by kernel_rfl) (fun f ε w => ε 6 = .pointer (some ⟨g6, 0, none⟩) ∧ ε 7 = .pointer (some ⟨g7, 0, none⟩) ∧ ε 8 = .pointer (some ⟨g8, 0, none⟩) ∧ ε 12 = .pointer (some ⟨g12, 0, none⟩) ∧ ∃ (u8 u7 u6 : Value) (c13 : List Value), St [] w0 w ([(some g13, 52, c13), (some g12, 39, [v]), (some g8, 3, [u8]), (some g7, 32, [u7]), (some g6, 39, [u6]), (some g3, 27, [.slice Ac nc cc, .slice Am nm cm, .slice Al nl cl, .slice At nt ct])] ++ [(G, 52, cs')]) ∧ NC w [(l, .loop { rc with state := .busy }), (w39.heap.size, .deferred (some []))] ∧ m2a L5a 3 (g5 :: l :: w39.heap.size :: g12 :: g8 :: g7 :: g6 :: g3 :: M) w G cs' v (D3a p m run) ∧ (f 0 = true → ε 44 = v) ∧ (f 1 = true → ε 45 = v) ∧ (f 2 = true → ε 46 = .int .i64 ((D3a p m run).length : Nat)) ∧ (f 3 = true → ε 47 = .int .i64 (((D3a p m run).length : Int) - 1)) ∧ (f 4 = true → u6 = v) ∧ (f 5 = true → u7 = .int .i64 110) ∧ (f 6 = true → u8 = .int .i64 (((D3a p m run).length : Int) - 1))) ?_ ?_ ?_)
   ·exact ⟨rfl, rfl, rfl, rfl, _, _, _, _, Sb.drew, hOb.keep (y3a _ _), hrowB.keep P1a (y3a _ _), by simp, by simp, by simp, by simp, by simp, by simp, by simp⟩
   ·rintro f ε w i o ⟨e6, e7, e8, e12, u8, u7, u6, c13, S, hO, hrow, h0, h1, h2, h3, h4, h5, h6⟩ ho hfi hpr
    have hi : i < 7 := (List.getElem?_eq_some_iff.1 ho).1
    refine r1a 6 e6 (r1a 7 e7 (r1a 8 e8 (r1a 12 e12 ?_)))
    rcases (show i = 0 ∨ i = 1 ∨ i = 2 ∨ i = 3 ∨ i = 4 ∨ i = 5 ∨ i = 6 by omega) with rfl | rfl | rfl | rfl | rfl | rfl | rfl
    ·cases ho
     refine s0a a7a rfl (S.cell 1 rfl rfl) rfl ?_
     refine L0a ⟨rfl, rfl, rfl, rfl, rfl, u8, u7, u6, c13, S, hO, hrow, fun _ => rfl, fun hh => h1 (by simpa using hh), fun hh => h2 (by simpa using hh), fun hh => h3 (by simpa using hh), fun hh => h4 (by simpa using hh), fun hh => h5 (by simpa using hh), fun hh => h6 (by simpa using hh)⟩
    ·cases ho
     refine s0a a7a rfl (S.cell 1 rfl rfl) rfl ?_
     refine L0a ⟨rfl, rfl, rfl, rfl, rfl, u8, u7, u6, c13, S, hO, hrow, fun hh => h0 (by simpa using hh), fun _ => rfl, fun hh => h2 (by simpa using hh), fun hh => h3 (by simpa using hh), fun hh => h4 (by simpa using hh), fun hh => h5 (by simpa using hh), fun hh => h6 (by simpa using hh)⟩
    ·cases ho
     obtain ⟨Av, cv, hv⟩ := hrow.form
     refine r1a 45 ((h1 (hpr 1 (by decide))).trans hv) ?_
     refine W7c h4b.slT rfl rfl ?_
     refine L0a ⟨rfl, rfl, rfl, rfl, rfl, u8, u7, u6, c13, S, hO, hrow, fun hh => h0 (by simpa using hh), fun _ => hv.symm, fun _ => rfl, fun hh => h3 (by simpa using hh), fun hh => h4 (by simpa using hh), fun hh => h5 (by simpa using hh), fun hh => h6 (by simpa using hh)⟩
    ·cases ho
     refine r1a 46 (h2 (hpr 2 (by decide))) ?_
     refine b0d rfl rfl (by have := f5a p m run; unfold i64; omega) rfl ?_
     refine L0a ⟨rfl, rfl, rfl, rfl, rfl, u8, u7, u6, c13, S, hO, hrow, fun hh => h0 (by simpa using hh), fun hh => h1 (by simpa using hh), fun _ => rfl, fun _ => rfl, fun hh => h4 (by simpa using hh), fun hh => h5 (by simpa using hh), fun hh => h6 (by simpa using hh)⟩
    ·cases ho
     obtain ⟨Av, cv, hv⟩ := hrow.form
     subst hv
     refine r1a 44 (h0 (hpr 0 (by decide))) ?_
     refine u0a (kk := 4) S b0c rfl (by conv => lhs; whnf) rfl rfl (Nat.le_of_ble_eq_true rfl) ?_
     intro w1 S1 X1
     refine L0a ⟨rfl, rfl, rfl, rfl, rfl, u8, u7, _, c13, S1, hO.keepS X1 (S.blk 4 rfl), hrow.keep P1a (X1.mono (by simp)), fun _ => rfl, fun hh => h1 (by simpa using hh), fun hh => h2 (by simpa using hh), fun hh => h3 (by simpa using hh), fun _ => rfl, fun hh => h5 (by simpa using hh), fun hh => h6 (by simpa using hh)⟩
    ·cases ho
     refine u0a (kk := 3) S Z6a rfl (by conv => lhs; whnf) rfl rfl (Nat.le_of_ble_eq_true rfl) ?_
     intro w1 S1 X1
     refine L0a ⟨rfl, rfl, rfl, rfl, rfl, u8, _, u6, c13, S1, hO.keepS X1 (S.blk 3 rfl), hrow.keep P1a (X1.mono (by simp)), fun hh => h0 (by simpa using hh), fun hh => h1 (by simpa using hh), fun hh => h2 (by simpa using hh), fun hh => h3 (by simpa using hh), fun hh => h4 (by simpa using hh), fun _ => rfl, fun hh => h6 (by simpa using hh)⟩
    ·cases ho
     refine r1a 47 (h3 (hpr 3 (by decide))) ?_
     refine u0a (kk := 2) S D8a rfl (by conv => lhs; whnf) rfl rfl (Nat.le_of_ble_eq_true rfl) ?_
     intro w1 S1 X1
     refine L0a ⟨rfl, rfl, rfl, rfl, rfl, _, u7, u6, c13, S1, hO.keepS X1 (S.blk 2 rfl), hrow.keep P1a (X1.mono (by simp)), fun hh => h0 (by simpa using hh), fun hh => h1 (by simpa using hh), fun hh => h2 (by simpa using hh), fun _ => rfl, fun hh => h4 (by simpa using hh), fun hh => h5 (by simpa using hh), fun _ => rfl⟩
   rintro f ε w ⟨e6, e7, e8, e12, u8, u7, u6, c13, S13, hO13, hrow13, h0, h1, h2, h3, h4, h5, h6⟩ hall
   obtain rfl := h4 (hall 4 (by decide))
   obtain rfl := h5 (hall 5 (by decide))
   obtain rfl := h6 (hall 6 (by decide))
   refine fR0 rfl ⟨⟩ ?_
   refine ⟨{ rc with state := .busy }, (hO13 (l, _) List.mem_cons_self).1, .inr ⟨herr, rfl, hle2, g5, G, cs', _, hO13.put (o' := .loop { rc with state := .done, pending := some .ret }) hlne (by simp), S13.tail.putObj (.loop { rc with state := .done, pending := some .ret }) hO13 (List.mem_cons_self) (.inl (by omega)), hrow13.keep P1a ((h1a w l _).mono (by simp))⟩⟩
  refine lO0 rfl ⟨⟩ (s0a a7a rfl (by exact Sb.cell 1 rfl rfl) rfl ?_)
  refine lO Sb.k [.w 0] rfl ⟨⟨rfl,by rfl⟩,⟨⟩⟩ (t0a Sb h4b (vs := [.agg _]) (cs := [_, _, _]) (by rfl) rfl rfl rfl rfl rfl rfl ?_)
  intro g50 w50 S50 X50 G50
  replace Kr := Kr.trans X50
  replace Kb := Kb.trans (X50.of_nil)
  replace hOb := hOb.keep X50
  replace hYb := hYb.keep (X50.of_nil)
  have hc51 : (D3a p m run)[k]? = some c := by rcases hcase with h | h; exact h.2; omega
  refine q1a P1a (k := 7) (e1 := c) S50 h4b (by decide) rfl (hrowB.keep P1a Kr.of_nil) rfl rfl (S50.cells 0 rfl) (K0a.less hsubB hYb) (by rw [List.length_take]; omega) rfl ?_
  intro v51 G51 cs51 w51 S51 hrow51 X51 F51
  have Z51 := Kb.size
  obtain ⟨_, _, rfl⟩ := hrow51.form
  replace hOb := hOb.keepL X51 (v5c S50 7 rfl)
  replace Kb := Kb.freshL X51 (fun g hg => .inr (by simp [hg]))
  first | refine u0a (kk := 2) S51 b0c rfl (by conv => lhs; whnf) rfl rfl (by exact Nat.le_of_ble_eq_true rfl) ?_
  intro w14_4 S14_4 X14_4
  replace Kb := Kb.fresh2 X14_4 (by exact .inr (by simp))
  replace hOb := by exact hOb.keepS X14_4 (S51.blk 2 rfl)
  refine lF0 rfl ⟨⟩ ?_
  obtain ⟨herr, hc⟩ : err = 0 ∧ (D3a p m run)[k]? = some c := ⟨h43, by rcases hcase with h | h; exact h.2; omega⟩
  have hOn := hOb.put (o' := .loop rc) hlne (by simp)
  have Sn := S14_4.tail.tail.putObj (.loop rc) hOb (List.mem_cons_self) (.inl (by omega))
  have Kn := Kb.fresh2 (h1a w14_4 l (.loop rc)) (.inr (by simp))
  have hrn := (hrow51.keep P1a (X14_4.mono (by simp))).keep P1a ((h1a w14_4 l (.loop rc)).mono (by simp))
  refine ⟨{ rc with state := .busy }, (hOb (l, _) List.mem_cons_self).1, .inl ⟨herr, rfl, l :: g12 :: g8 :: g7 :: g6 :: g3 :: G51.toList, ?_⟩⟩
  rw [Q8a hst hpe]
  refine ⟨⟨G51, cs51, _, rfl, hOn, Sn, by rw [e1a hc]; exact hrn⟩, Kn, fun g hg => ?_⟩
  simp only [List.mem_cons] at hg ⊢
  rcases hg with h | h | h | h | h | h | h
  ·simp [h]
  ·simp [h]
  ·simp [h]
  ·simp [h]
  ·simp [h]
  ·simp [h]
  ·rcases F51 g h with h | h
   ·simp [h]
   ·right; omega
 rintro v3 w3 (⟨hlen1, g5, Bs, G, cs', v, rfl, hO3, S3, hrow3⟩ | ⟨hle2, g5, G, cs', v, hO3, S3, hrow3⟩)
 rotate_left
 ·refine ⟨{ rc with state := .done, pending := some .ret }, (hO3 (l, _) List.mem_cons_self).1, by simp, .inr ⟨rfl, ?_⟩⟩
  have Sa := S3.putObj (.loop { rc with state := .exhausted, pending := some .ret }) hO3 (List.mem_cons_self) (.inl (by omega))
  have hOa := (hO3.put (o' := .loop { rc with state := .exhausted, pending := some .ret }) hlne (by simp)).tail
  have hra := hrow3.keep P1a ((h1a w3 l (.loop { rc with state := .exhausted, pending := some .ret })).mono (by simp))
  exact U4a rfl a7a R1a E0a rfl rfl rfl [w39.heap.size] rfl (by simp) hOa (Sa.blk 3 rfl) (Sa.blk 2 rfl) (Sa.blk 1 rfl) rfl rfl rfl (fun w' hb => ⟨⟨v, by unfold t5c; rw [if_neg (by omega)], j8b (A := [_, _, _, _, _]) hra Sa hM (fun g hg => by rcases List.mem_cons.1 hg with h | h <;> simp [h]) hOa hb (by omega)⟩, (F0a.step Sa.below hb (by simp; omega)).nil⟩)
 refine ⟨rc, (hO3 (l, .loop rc) (by simp)).1, by rw [hst]; simp, .inl ⟨hpe, ?_⟩⟩
 have Sa := S3.putObj (.loop { rc with state := .exhausted }) hO3 (List.mem_cons_self) (.inl (by omega))
 have hOa := (hO3.put (o' := .loop { rc with state := .exhausted }) hlne (by simp)).tail
 have hra := hrow3.keep P1a ((h1a w3 l (.loop { rc with state := .exhausted })).mono (by simp))
 rw [List.take_length] at hra
 generalize w3.putObj l (.loop { rc with state := .exhausted }) = wa at Sa hOa hra ⊢
 obtain ⟨Av, cv, rfl⟩ := hra.form
 refine fO0 rfl ⟨⟩ (s0a a7a rfl (by exact Sa.cell 0 rfl rfl) rfl ?_)
 refine lO0 rfl ⟨⟩ ?_
 first | refine u0a (kk := 3) Sa b0c rfl (by conv => lhs; whnf) rfl rfl (by exact Nat.le_of_ble_eq_true rfl) ?_
 intro w15_3 S15_3 X15_3
 replace hOa := by exact hOa.keepS X15_3 (Sa.blk 3 rfl)
 first | refine u0a (kk := 2) S15_3 Z6a rfl (by conv => lhs; whnf) rfl rfl (by exact Nat.le_of_ble_eq_true rfl) ?_
 intro w15_4 S15_4 X15_4
 replace hOa := by exact hOa.keepS X15_4 (S15_3.blk 2 rfl)
 first | refine u0a (kk := 1) S15_4 D8a rfl (by conv => lhs; whnf) rfl rfl (by exact Nat.le_of_ble_eq_true rfl) ?_
 intro w15_5 S15_5 X15_5
 replace hOa := by exact hOa.keepS X15_5 (S15_4.blk 1 rfl)
 refine lR0 rfl ⟨⟩ ?_
 have hrz := ((hra.keep P1a (X15_3.mono (by simp))).keep P1a (X15_4.mono (by simp))).keep P1a (X15_5.mono (by simp))
 refine U4a rfl a7a R1a E0a rfl rfl rfl [w39.heap.size] rfl (by simp) hOa (S15_5.blk 3 rfl) (S15_5.blk 2 rfl) (S15_5.blk 1 rfl) rfl rfl rfl (fun w' hb => ⟨⟨_, ?_, j8b (A := [_, _, _, _, _]) hrz S15_5 hM (fun g hg => by rcases List.mem_cons.1 hg with h | h <;> simp [h]) hOa hb (by omega)⟩, (F0a.step S15_5.below hb (by simp; omega)).nil⟩)
 unfold t5c
 rw [if_pos hlen1, show ((D3a p m run).length : Int) - 1 = (nr : Int) by omega]
end Go.Proofs.YtjjmdcnmeommbaaGreatDoor
namespace Go.Fw
open Go.RowKit
theorem u5c {α : Type} {a b : List α} (hl : a.length = b.length) {k : Nat} (hk : a.length ≤ k) (h : ∀ i x y, i < k → a[i]? = some x → b[i]? = some y → x = y) : a = b := by
 apply List.ext_getElem hl
 intro i h1 h2
 exact h i _ _ (by omega) (List.getElem?_eq_getElem h1) (List.getElem?_eq_getElem h2)
def k1c {α : Type} (a b : List α) (k : Nat) : Prop := ∀ i x y, i < k → a[i]? = some x → b[i]? = some y → x = y
theorem k1c.zero {α : Type} {a b : List α} : k1c a b 0 := fun i x y h => absurd h (by omega)
theorem k1c.succ {α : Type} {a b : List α} {k : Nat} (h : k1c a b k) {x y : α} (hx : a[k]? = some x) (hy : b[k]? = some y) (he : x = y) : k1c a b (k + 1) := fun i x' y' hi h1 h2 => by
 by_cases hik : i = k
 ·subst hik; rw [hx] at h1; rw [hy] at h2; cases h1; cases h2; exact he
 ·exact h i x' y' (by omega) h1 h2
theorem k1c.all {α : Type} {a b : List α} {k : Nat} (h : k1c a b k) (hl : a.length = b.length) (hk : a.length ≤ k) : a = b := u5c hl hk h
theorem y8c {α : Type} {a b : List α} (h : ¬ a.length = b.length) : a ≠ b := fun e => h (by rw [e])
theorem g0d {α : Type} {a b : List α} {k : Nat} {x y : α} (hx : a[k]? = some x) (hy : b[k]? = some y) (h : x ≠ y) : a ≠ b := fun e => by subst e; rw [hx] at hy; cases hy; exact h rfl
theorem G0a.ext' {a b : G0a} (h1 : a.cells = b.cells) (h2 : a.values = b.values) : a = b := by cases a; cases b; simp_all
theorem B0a.ext' {a b : B0a} (h1 : a.mem = b.mem) (h2 : a.at_ = b.at_) (h3 : a.buf = b.buf) : a = b := by cases a; cases b; simp_all
theorem c0a.ext' {a b : c0a} (h : a.thread = b.thread ∧ a.step = b.step ∧ a.cell = b.cell) : a = b := by cases a; cases b; simp_all
end Go.Fw
namespace Go.Proofs.YtjjmdcnmeommbaaGreatDoor
open Go.Fw Go.RowKit
end Go.Proofs.YtjjmdcnmeommbaaGreatDoor
namespace Go.Fw
open Go.RowKit
section
variable {P : Program} {N : Nat} {ops : Array Oper} {rest : List Oper} {C : World → Prop} {K : Env → Prop} {e : Env} {d : Nat} {t : TypeId} {p : String} {af : Array Edge} {x y : Operand} {yt : TypeId}
theorem U8c {ty : TypeId} {a b c a' b' c' : Int} (hE : Eq3 P ty) (hx : ev e x = .agg #[.int .i64 a, .int .i64 b, .int .i64 c]) (hy : ev e y = .agg #[.int .i64 a', .int .i64 b', .int .i64 c']) (hd : Nat.ble (d + 1) N = true)
 (h1 : ¬ (a = a' ∧ b = b' ∧ c = c') → QL P N ops C rest K (upd e d (.bool true))) (h2 : (a = a' ∧ b = b' ∧ c = c') → QL P N ops C rest K (upd e d (.bool false))) :
 QL P N ops C (⟨some d, .binOp .neq ty x y yt, t, p, af, none⟩ :: rest) K e := by
 have hn : ∀ w : World, (binOp .neq ty (.agg #[.int .i64 a, .int .i64 b, .int .i64 c]) (.agg #[.int .i64 a', .int .i64 b', .int .i64 c'])).run P w = .ok (.bool (!decide (a = a' ∧ b = b' ∧ c = c'))) w := fun w => by
  have := hE.2 w a b c a' b' c'
  rw [run_eql_struct] at this
  rw [run_neq_struct]
  revert this
  generalize (Op.equalIn 10000 ty (.agg #[.int .i64 a, .int .i64 b, .int .i64 c]) (.agg #[.int .i64 a', .int .i64 b', .int .i64 c'])).run P w = res
  intro this
  cases res with
  | ok z w' => simp only [Result.andThen_ok] at this ⊢; cases this; rfl
  | halt z w' => simp [Result.andThen] at this
 by_cases hh : a = a' ∧ b = b' ∧ c = c'
 ·exact n3a rfl rfl hd (fun w _ => by simp only [execOp, hx, hy, Sem.run_bind, run_eqGuard_agg w _ _ _ _ _ _ hE.1, Result.andThen_ok, hn, Sem.run_pure, decide_eq_true hh]; rfl) (h2 hh)
 ·exact n3a rfl rfl hd (fun w _ => by simp only [execOp, hx, hy, Sem.run_bind, run_eqGuard_agg w _ _ _ _ _ _ hE.1, Result.andThen_ok, hn, Sem.run_pure, decide_eq_false hh]; rfl) (h1 hh)
end
end Go.Fw
namespace Go.Proofs.YtjjmdcnmeommbaaGreatDoor
open Go.Fw Go.RowKit
end Go.Proofs.YtjjmdcnmeommbaaGreatDoor
