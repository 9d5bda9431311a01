/-
  Part 4 of 8 of the proof of MonitorWeak: what it leans on. No conditions.
-/
import Derived.Test.YtjjmdcnmeommbaaGreatDoorZMonitorWeak3
import Derived.Laws.CopyRow
import Derived.Laws.IdiomCopy
import Derived.Laws.StructEq
import Derived.Lib.SliceRun
import Derived.Laws.OwnMore
set_option maxRecDepth 100000
namespace Go.Fw
open Go.RowKit
theorem I5a.of {t s c : Int} (h1 : i64 t) (h2 : i64 s) (h3 : i64 c) : I5a [.int .i64 t, .int .i64 s, .int .i64 c] ⟨t, s, c⟩ := ⟨rfl, h1, h2, h3⟩
theorem h1b : B7a (fun (_ : List Nat) (_ : World) => I5a) 3 where
 len h := by rw [h.1]; rfl
 one h u hu := by rw [h.1] at hu; simp at hu; rcases hu with rfl | rfl | rfl <;> rfl
 keep _ h := h
 more _ h := h
theorem A7a : B7a (fun (_ : List Nat) (_ : World) => G9c) 1 where
 len h := by rw [h.1]; rfl
 one h u hu := by rw [h.1] at hu; simp at hu; subst hu; rfl
 keep _ h := h
 more _ h := h
theorem p2a : B7a e1a 2 where
 len h := by obtain ⟨_, _, rfl, _⟩ := h; rfl
 one h u hu := by
  obtain ⟨_, _, _, _, _, _, rfl, _⟩ := h.open_
  simp at hu; rcases hu with rfl | rfl <;> rfl
 keep hk h := e1a.keep hk _ _ h
 more hm h := e1a.more hm _ _ h
def o5a (M : List Nat) (w : World) (cs : List Value) (c : D0a) : Prop := O0a M w c cs
theorem Q1a : B7a o5a 3 where
 len h := by obtain ⟨_, _, _, rfl, _⟩ := h; rfl
 one h u hu := by
  obtain ⟨_, _, _, _, _, _, _, _, _, rfl, _⟩ := O0a.open_ h
  simp at hu; rcases hu with rfl | rfl | rfl <;> rfl
 keep hk h := O0a.keep hk h
 more hm h := O0a.more hm h
theorem getD_some {α : Type} {l : List α} {i : Nat} {x d : α} (h : l[i]? = some x) : l.getD i d = x := by rw [List.getD_eq_getElem?_getD, h]; rfl
def B5a (c : D0a) : Prop := ∀ b ∈ c.buf, b = []
theorem B5a.getD {c : D0a} (h : B5a c) (t : Nat) : c.buf.getD t [] = [] := by
 rw [List.getD_eq_getElem?_getD]
 cases hx : c.buf[t]? with
 | none => rfl
 | some b => exact h b (List.mem_of_getElem? hx)
theorem B5a.view {c : D0a} (h : B5a c) (t : Nat) : E1a c t = c.mem := by unfold E1a; rw [h.getD]; rfl
theorem a4a {p : d0a} {c : D0a} (h : B5a c) (t : Nat) (s : m1a) : N0a p 0 c t s = (decide (c.at_.getD t 0 = s.frm) && (decide (s.guard.evl c.mem c.mem = 1) &&
 (if s.kind = 6 then decide (c.at_.getD s.target.toNat 0 = -1) else if s.kind = 7 then decide (c.at_.getD s.target.toNat 0 = (p.threads.getD s.target.toNat ⟨ByteArray.empty, 0, [], [], [], [], false⟩).points - 1) else true))) := by
 unfold N0a
 rw [h.view, h.getD, h.getD]
 congr 2
 split
 ·rename_i h3; rw [if_neg (by omega), if_neg (by omega)]; simp
 ·split
  ·simp
  ·split
   ·simp
   ·split
    ·rfl
    ·simp
@[simp] theorem Z8c (l : List N1a) (v m : List Int) : (A0b l v m).length = m.length := by
 unfold A0b
 induction l generalizing m with
 | nil => rfl
 | cons a l ih => rw [List.foldl_cons, ih, List.length_set]
theorem i9a (l : List N1a) (a : N1a) (v m : List Int) : A0b (l ++ [a]) v m = (A0b l v m).set a.cell.toNat (a.to.evl v v) := by unfold A0b; rw [List.foldl_append]; rfl
theorem m9b {l : List N1a} {a : N1a} {v m : List Int} {k i : Nat} (hx : l[k]? = some a) (hi : i = a.cell.toNat) : ((A0b (l.take k) v m).map (Value.int .i64)).set i (.int .i64 (a.to.evl v v)) = (A0b (l.take (k + 1)) v m).map (Value.int .i64) := by
 subst hi
 rw [h1a hx, i9a, List.map_set]
theorem W9c {p : d0a} {c : D0a} {t i : Nat} {th : J0a} {s : m1a} (h : B5a c) (ht : p.threads[t]? = some th) (hs : th.steps[i]? = some s) : doC p 0 c ⟨t, i, 0⟩ = ⟨A0b s.set c.mem c.mem, atC c t s, c.buf⟩ := by
 unfold doC
 have e1 : e2a p t = th.steps := by unfold e2a; rw [getD_some ht]
 rw [if_neg (by show ¬ ((i : Int) = -1); omega)]
 simp only [Int.toNat_natCast, e1, hs, A6a, h.view]
 simp
def F6b (p : d0a) (m : Int) (c : D0a) (t i : Nat) : Bool := match (e2a p t)[i]? with | some s => N0a p m c t s | none => false
def k3a (p : d0a) (m : Int) (c : D0a) (t j : Nat) : List n0a := ((List.range j).filter (F6b p m c t)).map fun (i : Nat) => (⟨t, i, 0⟩ : n0a)
def B9a (m : Int) (c : D0a) (t j : Nat) : List n0a := ((List.range j).filter (Q3a m (c.buf.getD t []))).map fun (i : Nat) => (⟨t, -1, ((c.buf.getD t []).getD i ⟨[], []⟩).cells.getD 0 0⟩ : n0a)
def H3a (p : d0a) (m : Int) (c : D0a) (k : Nat) : List n0a := (List.range k).flatMap (p3a p m c)
theorem f9a (p : d0a) (m : Int) (c : D0a) (t : Nat) : p3a p m c t = k3a p m c t (e2a p t).length ++ B9a m c t (c.buf.getD t []).length := rfl
theorem o6a (p : d0a) (m : Int) (c : D0a) (k : Nat) : H3a p m c (k + 1) = H3a p m c k ++ p3a p m c k := by
 unfold H3a; rw [List.range_succ, List.flatMap_append]; simp
theorem y8a {p : d0a} {m : Int} {c : D0a} {t j : Nat} {s : m1a} (h : (e2a p t)[j]? = some s) : k3a p m c t (j + 1) = k3a p m c t j ++ (if N0a p m c t s then [⟨t, j, 0⟩] else []) := by
 unfold k3a
 rw [List.range_succ, List.filter_append, List.map_append]
 have : F6b p m c t j = N0a p m c t s := by unfold F6b; rw [h]
 congr 1
 cases he : N0a p m c t s <;> simp [this, he]
theorem h5b {p : d0a} {m : Int} {c : D0a} {t j : Nat} {th : J0a} {s : m1a} (h : p.threads[t]? = some th) (hs : th.steps[j]? = some s) (he : N0a p m c t s = true) : k3a p m c t (j + 1) = k3a p m c t j ++ [⟨t, j, 0⟩] := by
 rw [y8a (by rw [show e2a p t = th.steps by unfold e2a; rw [getD_some h]]; exact hs), he, if_pos rfl]
theorem q7b {p : d0a} {m : Int} {c : D0a} {t j : Nat} {th : J0a} {s : m1a} (h : p.threads[t]? = some th) (hs : th.steps[j]? = some s) (he : N0a p m c t s = false) : k3a p m c t (j + 1) = k3a p m c t j := by
 rw [y8a (by rw [show e2a p t = th.steps by unfold e2a; rw [getD_some h]]; exact hs), he]; simp
theorem O9a (p : d0a) (m : Int) (c : D0a) (t j : Nat) : (k3a p m c t j).length ≤ j := by
 unfold k3a
 have := List.length_filter_le (F6b p m c t) (List.range j)
 simpa using this
theorem w4b (m : Int) (c : D0a) (t j : Nat) : (B9a m c t j).length ≤ j := by
 unfold B9a
 have := List.length_filter_le (Q3a m (c.buf.getD t [])) (List.range j)
 simpa using this
theorem C1a {p : d0a} {t : Nat} {th : J0a} (h : p.threads[t]? = some th) : e2a p t = th.steps := by unfold e2a; rw [getD_some h]
theorem P4a {p : d0a} (hp : T0a p) {c : D0a} (hf : b6a p c) (m : Int) : ∀ k, k ≤ p.threads.length → (H3a p m c k).length ≤ k * 67
 | 0, _ => by simp [H3a]
 | k + 1, hk => by
   have ih := P4a hp hf m k (by omega)
   rw [o6a, f9a]
   have h1 := O9a p m c k (e2a p k).length
   have h2 := w4b m c k (c.buf.getD k []).length
   have hth : p.threads[k]? = some p.threads[k] := List.getElem?_eq_getElem hk
   rw [C1a hth] at h1 ⊢
   have h3 := (hp.threads k hk).nsteps
   have hkb : k < c.buf.length := by rw [hf.nbuf]; exact hk
   have hb : c.buf[k]? = some c.buf[k] := List.getElem?_eq_getElem hkb
   rw [getD_some hb] at h2 ⊢
   have h4 := (hf.bufs k _ hb).1
   simp only [List.length_append]
   omega
theorem J2b (p : d0a) (m : Int) (c : D0a) : H3a p m c p.threads.length = M0a p m c := rfl
end Go.Fw
namespace Go.Proofs.YtjjmdcnmeommbaaGreatDoor
open Go.Fw Go.RowKit
theorem t0b (p : d0a) (c : D0a) (t i : Nat) (th : J0a) (s : m1a) (M : List Nat) (w0 : World) (cs xs : List Value) (hI : InP p M w0 cs) (hX : O0a M w0 c xs) (hf : b6a p c) (he : B5a c) (hxth : p.threads[t]? = some th) (hxs : th.steps[i]? = some s) :
 R0a Tryz.prog 204 #[.agg cs.toArray, .agg xs.toArray, .int .i64 t, .int .i64 i] w0 fun v w' => v = .bool (N0a p 0 c t s) ∧ Below w0.heap.size w0 w' := by
 obtain ⟨_, _, _, _, _, _, _, _, _, _, _, _, rfl, _, _, _, hTh, _, _, _, _, _, _, _, _⟩ := hI.rd.open_
 obtain ⟨_, _, _, _, _, _, _, _, _, rfl, hMem, hAt, _, _, hxa, hxb, _, _, _⟩ := hX.open_
 have S := St.refl w0
 have f2 := hf.nat
 have hp := hI.ok
 have ht := D1a hxth
 have hi := D1a hxs
 have hto := hp.thread hxth
 have hso := hto.steps s (f0a hxs)
 have hk6 : 6 ≤ s.kind → 0 ≤ s.target ∧ s.target < p.threads.length := fun h => (hso.row.k6 h).1
 refine a0a Tryz.func204 rfl Tryz.ntmps204 rfl ?_
 refine wO0 rfl ⟨⟩ (m0a S (by conv => lhs; whnf) rfl ?_)
 intro g4 w4 S4 X4 G4
 refine m0a S4 (by conv => lhs; whnf) rfl ?_
 intro g5 w5 S5 X5 G5
 obtain ⟨_, b13, p13, _, hx13, hA13, _, _, hc13, hr13⟩ := RdS.get (hTh) (t) (by omega)
 obtain rfl := Option.some.inj (hxth.symm.trans hx13)
 obtain ⟨_, _, _, _, _, _, _, _, _, _, _, _, rfl, _, _, _, hSt13, _, _, _, _, _, _, _, _, _⟩ := v0a.open_ hr13
 obtain ⟨_, b17, p17, _, hx17, hA17, _, hl17, hc17, hr17⟩ := RdS.get (hSt13) (i) (by omega)
 obtain rfl := Option.some.inj (hxs.symm.trans hx17)
 obtain ⟨_, _, _, _, _, _, rfl, ⟨_, _, _, _, _⟩, hG17, _, _, _⟩ := A1a.open_ hr17
 refine lO ((S5.k.a hc17).a hc13) [.o 1,.x b13 p13,.f 0 4,.x b17 p17,.v 1] rfl ⟨⟨rfl,hl17⟩,⟨hA17,by omega⟩,rfl,⟨hA13,by omega⟩,rfl,⟨⟩⟩ (k0a S5 k3b rfl rfl ?_)
 intro g9 w9 S9 X9 G9
 refine c0a (kk := 0) (vs := [_, _, _, _, _, _, _, _, _, _, _]) S9 L3b rfl rfl rfl rfl rfl rfl rfl ?_
 intro w1_10 S1_10 X1_10
 dsimp only [e0a, List.set] at S1_10
 refine lC0 rfl ⟨⟩ (x0a b0a [0, 1, 2, 3, 4, 5, 6, 7, 8, 9, 10, 11, 12, 13, 14, 15, 16, 17] [] [] (by kernel_rfl) rfl (Cl _ _ _ _) (Cl.start S1_10) ?_)
 obtain ⟨a, b22, p22, _, hxa, hA22, _, _, hc22, hr22⟩ := RdS.get (hAt) (t) (by omega)
 obtain ⟨rfl, _⟩ := id hr22
 refine qB (S1_10.q.a hc22) [.o 1,.x b22 p22,.f 0 0,.o 0] rfl ⟨rfl,rfl,⟨hA22,by omega⟩,rfl,⟨⟩⟩ (fun h26 => ?_) fun h26 => ?_
 ·refine qD rfl ⟨⟩ ?_
  rintro wR2 ⟨SR2, XR2⟩
  refine lT rfl ⟨⟩ rfl ⟨congrArg Value.bool ?_, SR2.fin⟩
  rw [a4a he, getD_some hxa]
  simp [h26]; done
 refine qO S1_10.q [.o 0,.o 1,.o 1] rfl ⟨rfl,rfl,rfl,⟨⟩⟩ (K1a f0b rfl rfl (fun w1 S1 X1 => J6a s.guard M _ _ _ _ c.mem c.mem (RdE.keep (S1.keep0 M) _ _ hG17) (hI.keep (S1.keep0 M)).msk (hMem.keep (S1.keep0 M)) (hMem.keep (S1.keep0 M))) ?_)
 refine qB0 rfl ⟨⟩ (fun h35 => ?_) fun h35 => ?_
 ·refine qD rfl ⟨⟩ ?_
  rintro wR2 ⟨SR2, XR2⟩
  refine lT rfl ⟨⟩ rfl ⟨congrArg Value.bool ?_, SR2.fin⟩
  rw [a4a he, getD_some hxa]
  simp [h26, h35]; done
 refine qD rfl ⟨⟩ ?_
 rintro wR2 ⟨SR2, XR2⟩
 refine lB SR2.k [.o 0] rfl ⟨rfl,⟨⟩⟩ (fun h40 => ?_) fun h40 => ?_
 ·have q6 := hk6 (by omega)
  obtain ⟨b, b45, p45, _, hxb, hA45, _, _, hc45, hr45⟩ := RdS.get (hAt) (s.target.toNat) (by omega)
  obtain ⟨rfl, _⟩ := id hr45
  refine lB (SR2.k.a hc45) [.o 1,.o 0,.x b45 p45,.f 0 0] rfl ⟨rfl,⟨hA45,by omega⟩,rfl,rfl,⟨⟩⟩ (fun h47 => ?_) fun h47 => ?_
  ·refine lT rfl ⟨⟩ rfl ⟨congrArg Value.bool ?_, SR2.fin⟩
   rw [a4a he, getD_some hxa]
   simp [h26, h35, h40, hxb, h47]; done
  refine lT rfl ⟨⟩ rfl ⟨congrArg Value.bool ?_, SR2.fin⟩
  rw [a4a he, getD_some hxa]
  simp [h26, h35, h40, hxb, h47]; done
 refine lB0 rfl ⟨⟩ (fun h49 => ?_) fun h49 => ?_
 ·refine lC0 rfl ⟨⟩ (x0a b0a [0, 1, 2, 3, 4, 5, 6, 7, 8, 9, 10, 11, 12, 13, 14, 15] [] [] (by kernel_rfl) rfl (Cl _ _ _ _) (Cl.start SR2) ?_)
  have q6 := hk6 (by omega)
  obtain ⟨b, b54, p54, _, hxb, hA54, _, _, hc54, hr54⟩ := RdS.get (hAt) (s.target.toNat) (by omega)
  obtain ⟨rfl, _⟩ := id hr54
  obtain ⟨_, b60, p60, _, hxu, hA60, _, _, hc60, hr60⟩ := RdS.get (hTh) (s.target.toNat) (by omega)
  obtain ⟨_, _, _, _, _, _, _, _, _, _, _, _, rfl, _, _, _, _, _, _, _, _, _, _, _, _, _⟩ := v0a.open_ hr60
  have q7 := (hp.thread hxu).points
  refine qB ((SR2.q.a hc60).a hc54) [.o 1,.o 0,.x b54 p54,.f 0 0,.o 2,.o 0,.x b60 p60,.f 1 1] rfl ⟨by omega,rfl,⟨hA60,by omega⟩,rfl,rfl,rfl,⟨hA54,by omega⟩,rfl,rfl,⟨⟩⟩ (fun h64 => ?_) fun h64 => ?_
  ·refine qD rfl ⟨⟩ ?_
   rintro wR8 ⟨SR8, XR8⟩
   refine lT rfl ⟨⟩ rfl ⟨congrArg Value.bool ?_, SR8.fin⟩
   rw [a4a he, getD_some hxa]
   simp [h26, h35, h49, hxb, hxu, h64]; done
  refine qD rfl ⟨⟩ ?_
  rintro wR8 ⟨SR8, XR8⟩
  refine lT rfl ⟨⟩ rfl ⟨congrArg Value.bool ?_, SR8.fin⟩
  rw [a4a he, getD_some hxa]
  simp [h26, h35, h49, hxb, hxu, h64]; done
 refine lT rfl ⟨⟩ rfl ⟨congrArg Value.bool ?_, SR2.fin⟩
 rw [a4a he, getD_some hxa]
 simp [h26, h35, h40, h49]; done
theorem k6a (p : d0a) (c : D0a) (M : List Nat) (w0 : World) (cs xs : List Value) (hI : InP p M w0 cs) (hX : O0a M w0 c xs) (hf : b6a p c) (he : B5a c) :
 R0a Tryz.prog 170 #[.agg cs.toArray, .agg xs.toArray] w0 fun v w' => v7b M w' v (M0a p 0 c) ∧ Below w0.heap.size w0 w' := by
 obtain ⟨Ac, nc, cc, Am, nm, cm, Al, nl, cl, At, nt, ct, rfl, _, _, _, hTh, _, _, _, _, _, _, _, _⟩ := hI.rd.open_
 obtain ⟨Xm, xm, ym, Xa, xa, ya, Xb, xb, yb, rfl, _, _, _, _, _, _, _, _, _⟩ := hX.open_
 have S := (St.refl w0).nilEnt 68
 have hp := hI.ok
 have n2 := hp.nthreads
 refine a0a Tryz.func170 rfl Tryz.ntmps170 rfl ?_
 refine wO0 rfl ⟨⟩ (m0a S (by conv => lhs; whnf) rfl ?_)
 intro g2 w2 S2 X2 G2
 refine m0a S2 (by conv => lhs; whnf) rfl ?_
 intro g3 w3 S3 X3 G3
 refine lC S3.k [.o 1] rfl ⟨rfl,⟨⟩⟩ (wL (fun μk D ε w => D = [] ∧ ∃ k : Nat, ∃ G : Option Nat, ∃ cs' : List Value, ∃ v : Value, (k + μk = (p.threads.length)) ∧ (s2a (fun _ _ => I5a) 3 [] w0 G cs' v (H3a p 0 c k)) ∧ St [] w0 w [(some g3, 52, [.slice Xm xm ym, .slice Xa xa ya, .slice Xb xb yb]), (some g2, 27, [.slice Ac nc cc, .slice Am nm cm, .slice Al nl cl, .slice At nt ct]), (G, 68, cs')] ∧ Sl ε [(2, .pointer (some ⟨g2, 0, none⟩)), (3, .pointer (some ⟨g3, 0, none⟩)), (5, v), (10, .int .i64 nt), (11, .int .i64 k)]) (μ := (p.threads.length)) ⟨rfl, 0, none, [], .slice none 0 0, by omega, s2a.nil, S3, rfl⟩ ?_)
 rintro μk D ε w ⟨rfl, k, G, cs', v, _, hrow, S, eZ⟩
 refine wK eZ (wB0 rfl ⟨⟩ (fun h12 => ?_) fun h12 => ?_)
 ·obtain ⟨th, b17, p17, _, hxth, hA17, _, _, hc17, hr17⟩ := RdS.get (hTh) (k) (by omega)
  obtain ⟨_, _, _, _, _, _, _, ns17, _, _, _, _, rfl, _, _, _, _, _, _, _, _, _, _, _, _, _⟩ := v0a.open_ hr17
  have hns := (hp.thread hxth).nsteps
  refine lC (S.k.a hc17) [.o 1,.x b17 p17,.f 0 4] rfl ⟨rfl,⟨hA17,by omega⟩,rfl,⟨⟩⟩ (wL (fun μj D ε w => D = [] ∧ ∃ j : Nat, ∃ G2 : Option Nat, ∃ cs2 : List Value, ∃ v2 : Value, (j + μj = (th.steps.length)) ∧ (s2a (fun _ _ => I5a) 3 [] w0 G2 cs2 v2 (H3a p 0 c k ++ k3a p 0 c k j)) ∧ St [] w0 w [(some g3, 52, [.slice Xm xm ym, .slice Xa xa ya, .slice Xb xb yb]), (some g2, 27, [.slice Ac nc cc, .slice Am nm cm, .slice Al nl cl, .slice At nt ct]), (G2, 68, cs2)] ∧ Sl ε [(2, .pointer (some ⟨g2, 0, none⟩)), (3, .pointer (some ⟨g3, 0, none⟩)), (5, v2), (6, .int .i64 k), (10, .int .i64 nt), (11, .int .i64 k), (20, .int .i64 ns17), (21, .int .i64 j)]) (μ := (th.steps.length)) ⟨rfl, 0, G, cs', v, by omega, by simpa [k3a] using hrow, S, rfl⟩ ?_)
  rintro μj D ε w ⟨rfl, j, G2, cs2, v2, _, hrow2, S, eZ⟩
  refine wK eZ (wB0 rfl ⟨⟩ (fun h22 => ?_) fun h22 => ?_)
  ·refine lO S.k [.w 1,.w 0] rfl ⟨⟨rfl,rfl⟩,⟨rfl,rfl⟩,⟨⟩⟩ ?_
   obtain ⟨s, hxs⟩ : ∃ s, th.steps[j]? = some s := ⟨th.steps[j]'(by omega), List.getElem?_eq_getElem _⟩
   refine r0a S a6c rfl rfl (t0b p c k j th s M _ _ _ (hI.keep (S.keep0 M)) (hX.keep (S.keep0 M)) hf he hxth hxs) (fun h28 w28 S28 X28 => ?_) (fun h28 w28 S28 X28 => ?_)
   ·refine lOn 4 S28.k [] rfl ⟨⟩ (u1a (by conv => lhs; whnf) rfl ?_)
    refine lO0 rfl ⟨⟩ (b1a Z8b (vs := [(0, .int .i64 _), (1, .int .i64 _)]) (cs := [_, _, _]) rfl rfl rfl rfl ?_)
    refine y0a S28 O0b (vs := [.agg _]) (cs := [_, _, _]) (by rfl) rfl rfl rfl rfl rfl rfl ?_
    intro g33 w33 S33 X33 G33
    have l1 := P4a hp hf 0 k (by omega)
    have l2 := O9a p 0 c k j
    refine p1a h1b (k := 3) (M2 := []) (e1 := ⟨k, j, 0⟩) S33 O0b (by decide) rfl hrow2 rfl rfl (S33.cells 0 rfl) (I5a.of (by unfold i64; omega) (by unfold i64; omega) (by unfold i64; omega)) (by rw [List.length_append]; omega) rfl ?_
    intro v34 G34 cs34 w34 S34 hrow34 X34 F34
    refine X0a (by conv => lhs; whnf) rfl ?_
    refine lP0 rfl ⟨by omega,⟨⟩⟩ ⟨μj - 1, by omega, rfl, (j + 1), (_), (_), (_), (by omega), ?_, S34.tail, rfl⟩
    rw [h5b hxth hxs h28, ← List.append_assoc]; exact hrow34
   refine lP0 rfl ⟨by omega,⟨⟩⟩ ⟨μj - 1, by omega, rfl, (j + 1), (_), (_), (_), (by omega), ?_, S28, rfl⟩
   rw [q7b hxth hxs h28]; exact hrow2
  refine lP0 rfl ⟨by omega,⟨⟩⟩ ⟨μk - 1, by omega, rfl, (k + 1), (_), (_), (_), (by omega), ?_, S, rfl⟩
  rw [o6a, f9a, C1a hxth, he.getD]
  rw [show th.steps.length = j by omega]
  rw [show k3a p 0 c k j ++ B9a 0 c k ([] : List I0a).length = k3a p 0 c k j by simp [B9a]]
  exact hrow2
 refine lOn 8 S.k [] rfl ⟨⟩ (u1a (by conv => lhs; whnf) rfl ?_)
 refine X0a (by conv => lhs; whnf) rfl ?_
 refine lR0 rfl ⟨⟩ (o0a rfl (by conv => lhs; whnf) ?_)
 obtain rfl : k = p.threads.length := by omega
 have l1 := P4a hp hf 0 _ (Nat.le_refl _)
 rw [J2b] at l1
 exact ⟨s2a.rd (M := M) h1b hrow S (k := 2) rfl (fun g hg => by subst hg; exact U0a hI.lt (S.new 2 rfl)) (by omega), S.fin⟩
end Go.Proofs.YtjjmdcnmeommbaaGreatDoor
namespace Go.Fw
open Go.RowKit
section
variable {P : Program} {r : Option Nat} {N : Nat} {D : List Deferred} {e : Env} {w w0 : World} {ops : Array Oper} {rest : List Oper} {K : List Deferred → Env → World → Prop} {L : List Ent} {M : List Nat}
variable {d : Nat} {t : TypeId} {p : String} {af : Array Edge} {x y : Operand}
theorem RdI.oneCells {M' : List Nat} {A : Option Addr} {m c : Nat} {l : List Int} (h : RdI M' w (.slice A m c) l) (hm : 0 < m) : ∃ b o, A = some ⟨b, o, none⟩ ∧ r1a w b o (l.map (Value.int .i64)) := by
 obtain ⟨_, _, _, _, h5⟩ := h.at
 obtain ⟨b, o, h6, _, h8⟩ := h5 hm
 refine ⟨b, o, h6, fun j v hj => ?_⟩
 rw [List.getElem?_map, Option.map_eq_some_iff] at hj
 obtain ⟨a, ha, rfl⟩ := hj
 obtain ⟨_, _, h10, h11⟩ := h8 j a ha
 rw [h11.1] at h10
 have := h10 0 _ rfl
 simpa using this
theorem E9b {ty el bytes k n c g tb : Nat} {z : Value} {A : Option Addr} {cs : List Value} {l : List Int} {M' : List Nat} (S : St M w0 w L) (hS : SlZ P ty el 1 z bytes) (hk : L[k]? = some (some g, tb, cs)) (hx : ev e x = .slice (some ⟨g, 0, none⟩) n n) (hy : ev e y = .slice A n c) (hcs : cs.length = n)
 (hR : RdI M' w (.slice A n c) l) (hd : Nat.ble (d + 1) N = true)
 (h : ∀ w1, St M w0 w1 (L.set k (some g, tb, l.map (Value.int .i64))) → C0a [g] w w1 → WL P r N ops rest K D (upd e d (.int .i64 n)) w1) :
 WL P r N ops (⟨some d, .call { callee := .builtin .copy, args := #[x, y], argTypes := #[ty, ty] }, t, p, af, none⟩ :: rest) K D e w := by
 obtain ⟨_, hi, _, hsz, _⟩ := hS.parts
 have hs1 : (P.info? el).map (·.size) = some 1 := by rw [hi]; simp [hsz]
 have hn : n = l.length := hR.len.1
 by_cases h0 : n = 0
 ·have e1 : l.map (Value.int .i64) = cs := by
   have a1 : l = [] := List.eq_nil_of_length_eq_zero (by omega)
   have a2 : cs = [] := List.eq_nil_of_length_eq_zero (by omega)
   rw [a1, a2]; rfl
  have hrun := run_copy_none (P := P) w ty ty t el (some ⟨g, 0, none⟩) A n n n c hS.und hs1 (by rw [h0]; rfl)
  have S' := S.setEnt k hk e1.symm
  refine c1a (v := .int .i64 n) (w' := w) rfl rfl hd (by simp) ?_ (h w S' (C0a.refl _ _))
  subst h0
  simp [execOp, resolve, invoke, builtin, hx, hy, hrun, goInt]
 ·obtain ⟨b, o, rfl, hc⟩ := hR.oneCells (by omega)
  have hrun := run_copy_row (P := P) w ty ty t el g 0 n n ⟨b, o, none⟩ n c cs.toArray tb (l.map (Value.int .i64)) hS.und hs1 (S.blk k hk) (by simp [hn]) (fun j v hj => by rw [Addr.add_lit]; exact hc j v hj) (by simp; omega)
   (fun v hv => by obtain ⟨a, _, rfl⟩ := List.mem_map.1 hv; rfl)
  have e1 : (cs.toArray.toList.take 0 ++ l.map (Value.int .i64) ++ cs.toArray.toList.drop (0 + (l.map (Value.int .i64)).length)).toArray = (l.map (Value.int .i64)).toArray := by
   have : cs.length ≤ l.length := by omega
   simp [List.drop_of_length_le this]
  rw [e1] at hrun
  have hb : L0a [g] w (w.setRow g (l.map (Value.int .i64)).toArray) := ⟨rfl, rfl, rfl, by simp [World.setRow], fun q hq hm => setRow_other w g q _ (by simpa using hm)⟩
  refine c1a (v := .int .i64 n) rfl rfl hd (by simp) ?_ (h _ (S.changed1 k hk hb (setRow_heap w g _ _ tb _ (S.blk k hk))) ⟨hb.size, fun q hq hm => hb.block q hq hm⟩)
  rw [List.length_map, ← hn] at hrun
  simp [execOp, resolve, invoke, builtin, hx, hy, hrun, goInt]
def Eq3 (P : Program) (ty : TypeId) : Prop := P.eqGuardType P.depth ty = false ∧ ∀ (w : World) (a b c a' b' c' : Int),
 (binOp .eql ty (.agg #[.int .i64 a, .int .i64 b, .int .i64 c]) (.agg #[.int .i64 a', .int .i64 b', .int .i64 c'])).run P w = .ok (.bool (decide (a = a' ∧ b = b' ∧ c = c'))) w
theorem g3c {ty : TypeId} {a b c a' b' c' : Int} (hE : Eq3 P ty) (hx : ev e x = .agg #[.int .i64 a, .int .i64 b, .int .i64 c]) (hy : ev e y = .agg #[.int .i64 a', .int .i64 b', .int .i64 c']) (hd : Nat.ble (d + 1) N = true)
 (h1 : a = a' ∧ b = b' ∧ c = c' → WL P r N ops rest K D (upd e d (.bool true)) w) (h2 : ¬ (a = a' ∧ b = b' ∧ c = c') → WL P r N ops rest K D (upd e d (.bool false)) w) {yt : TypeId} :
 WL P r N ops (⟨some d, .binOp .eql ty x y yt, t, p, af, none⟩ :: rest) K D e w := by
 by_cases hh : a = a' ∧ b = b' ∧ c = c'
 ·exact c1a rfl rfl hd (by simp) (by simp only [execOp, hx, hy, Sem.run_bind, run_eqGuard_agg w _ _ _ _ _ _ hE.1, Result.andThen_ok, hE.2, Sem.run_pure, decide_eq_true hh]) (h1 hh)
 ·exact c1a rfl rfl hd (by simp) (by simp only [execOp, hx, hy, Sem.run_bind, run_eqGuard_agg w _ _ _ _ _ _ hE.1, Result.andThen_ok, hE.2, Sem.run_pure, decide_eq_false hh]) (h2 hh)
end
end Go.Fw
namespace Go.Proofs.YtjjmdcnmeommbaaGreatDoor
open Go.Fw Go.RowKit
theorem m3b : Eq3 Tryz.prog 68 := by
 refine ⟨Tryz.eqGuardType68, fun w a b c a' b' c' => ?_⟩
 have ht : Tryz.prog.underlying 68 = some (.struct (Tryz.prog.fieldsOf 68)) := by unfold Program.fieldsOf; rw [Tryz.underlying68]
 have hag : ∀ w, (isAgg 3).run Tryz.prog w = .ok false w := fun w => by simp [isAgg, run_underlying Tryz.underlying3]
 rw [run_eql_struct, run_equalIn_struct w 9999 _ _ _ ht Tryz.stoodInHeld68]
 unfold Program.fieldsOf
 rw [Tryz.underlying68]
 by_cases h1 : a = a' <;> by_cases h2 : b = b' <;> by_cases h3 : c = c' <;> simp [Op.eqFields, part, hag, run_equalIn_int _ 9998 _ .i64 .i64 _ _ Tryz.underlying3, h1, h2, h3]
end Go.Proofs.YtjjmdcnmeommbaaGreatDoor
namespace Go.Proofs.YtjjmdcnmeommbaaGreatDoor
open Go.Fw Go.RowKit
theorem y0b (p : d0a) (c : D0a) (t i : Nat) (th : J0a) (s : m1a) (M : List Nat) (w0 : World) (cs xs : List Value) (hI : InP p M w0 cs) (hX : O0a M w0 c xs) (hf : b6a p c) (he : B5a c) (hxth : p.threads[t]? = some th) (hxs : th.steps[i]? = some s) (hf' : b6a p (doC p 0 c ⟨t, i, 0⟩)) :
 R0a Tryz.prog 171 #[.agg cs.toArray, .agg xs.toArray, .agg #[.int .i64 t, .int .i64 i, .int .i64 0]] w0 fun v w' => (∃ ys, v = .agg ys.toArray ∧ O0a M w' (doC p 0 c ⟨t, i, 0⟩) ys) ∧ Below w0.heap.size w0 w' := by
 obtain ⟨Ac, nc, cc, Am, nm, cm, Al, nl, cl, At, nt, ct, rfl, _, _, _, hTh, _, _, _, _, _, _, _, _⟩ := hI.rd.open_
 obtain ⟨Xm, xm, ym, Xa, xa, ya, Xb, xb, yb, rfl, hMem, hAt, _, hxm, hxa, hxb, b1, b2, b3⟩ := hX.open_
 have S := St.refl w0
 have f1 := hf.mem.len
 have f2 := hf.nat
 have f3 := hf.nbuf
 have hp := hI.ok
 have n1 := hp.ncells
 have n2 := hp.nthreads
 have ht := D1a hxth
 have hi := D1a hxs
 have hso := (hp.thread hxth).steps s (f0a hxs)
 have hk6 : 6 ≤ s.kind → 0 ≤ s.target ∧ s.target < p.threads.length := fun h => (hso.row.k6 h).1
 refine a0a Tryz.func171 rfl Tryz.ntmps171 rfl ?_
 refine wO0 rfl ⟨⟩ (m0a S (by conv => lhs; whnf) rfl ?_)
 intro g3 w3 S3 X3 G3
 refine m0a S3 (by conv => lhs; whnf) rfl ?_
 intro g4 w4 S4 X4 G4
 refine m0a S4 (by conv => lhs; whnf) rfl ?_
 intro g5 w5 S5 X5 G5
 refine k0a S5 g6a rfl rfl ?_
 intro g6 w6 S6 X6 G6
 refine lC0 rfl ⟨⟩ (U2c b0a [0, 1, 2, 3, 4, 5, 6, 7, 8, 9, 10, 11, 12, 13] 14 (by kernel_rfl) (by kernel_rfl) (Cl _ _ _ _) (Cl.start S6) _ rfl ?_)
 refine v7a rfl rfl ?_
 refine E0a G5b rfl rfl ?_
 refine p0a ?_
 refine v7a rfl rfl ?_
 refine i0a N3a rfl (fun w1 hw => by exact hw.1.cell 2 rfl rfl) rfl ?_
 refine p0a ?_
 refine W0b rfl W0a.slT rfl rfl ?_
 refine L7a (n := xm) (c := xm) rfl rfl rfl W0a rfl rfl (by omega) (by omega) (by omega) rfl ?_
 intro g14 G14 ng14
 refine v7a rfl rfl ?_
 refine E0a u4b rfl rfl ?_
 refine p0a ?_
 refine v7a rfl rfl ?_
 refine i0a N3a rfl (fun w1 hw => by exact hw.1.cell 2 rfl rfl) rfl ?_
 refine p0a ?_
 refine W0b rfl W0a.slT rfl rfl ?_
 refine L7a (n := xa) (c := xa) rfl rfl rfl W0a rfl rfl (by omega) (by omega) (by omega) rfl ?_
 intro g18 G18 ng18
 refine v7a rfl rfl ?_
 refine E0a R4a rfl rfl ?_
 refine p0a ?_
 refine v7a rfl rfl ?_
 refine i0a p6a rfl (fun w1 hw => by exact hw.1.cell 2 rfl rfl) rfl ?_
 refine p0a ?_
 refine W0b rfl H4a.slT rfl rfl ?_
 refine L7a (n := xb) (c := xb) rfl rfl rfl H4a rfl rfl (by omega) (by omega) (by omega) rfl ?_
 intro g22 G22 ng22
 refine v7a rfl rfl ?_
 refine f3a j5a (vs := [(0, .slice _ _ _), (1, .slice _ _ _), (2, .slice _ _ _)]) (cs := [_, _, _]) rfl rfl rfl rfl ?_
 refine p0a ?_
 refine P6a rfl rfl rfl g6a rfl ?_
 intro g7 G7 ng7
 refine R0b ?_
 rintro wR1 ⟨SR1, _⟩ ⟨⟨⟨⟨-, hg14⟩, hg18⟩, hg22⟩, hg7⟩
 clear ng14
 replace SR1 := SR1.push_new S6 hg14 G14
 replace SR1 := SR1.push_more (L1 := [_]) S6 hg18 G18 (by simpa [eq_comm] using ng18)
 replace SR1 := SR1.push_more (L1 := [_, _]) S6 hg22 G22 (by simpa [eq_comm] using ng22)
 replace SR1 := SR1.push_more (L1 := [_, _, _]) S6 hg7 G7 (by simpa [eq_comm] using ng7)
 refine c0a (kk := 0) (vs := [_, _, _]) SR1 O2a rfl rfl rfl rfl rfl rfl rfl ?_
 intro w1_14 S1_14 X1_14
 dsimp only [e0a, List.set] at S1_14
 refine Z0a ⟨rfl, ?_⟩
 refine fO S1_14.k [.o 0,.o 6] rfl ⟨rfl,rfl,⟨⟩⟩ (E9b (k := 3) S1_14 W0a rfl rfl rfl (by simp) (hMem.keep (S1_14.keep0 M)) rfl ?_)
 intro w28 S28 X28
 refine lO S28.k [.o 0,.o 6] rfl ⟨rfl,rfl,⟨⟩⟩ (E9b (k := 2) S28 W0a rfl rfl rfl (by simp) (hAt.keep (S28.keep0 M)) rfl ?_)
 intro w33 S33 X33
 refine lC0 rfl ⟨⟩ (x0a b0a [0, 1, 2, 3, 4, 5, 6, 7, 8, 9, 10] [11] [12] (by kernel_rfl) rfl (Cl _ _ _ _) (Cl.start S33) ?_)
 obtain ⟨_, b38, p38, _, hx38, hA38, _, _, hc38, hr38⟩ := RdS.get (hTh) (t) (by omega)
 obtain rfl := Option.some.inj (hxth.symm.trans hx38)
 obtain ⟨_, _, _, _, _, _, _, _, _, _, _, _, rfl, _, _, _, hSt38, _, _, _, _, _, _, _, _, _⟩ := v0a.open_ hr38
 obtain ⟨_, b43, p43, _, hx43, hA43, _, hl43, hc43, hr43⟩ := RdS.get (hSt38) (i) (by omega)
 obtain rfl := Option.some.inj (hxs.symm.trans hx43)
 obtain ⟨Ag43, ng43, cg43, As43, ns43, cs43, rfl, ⟨_, _, _, _, _⟩, _, hSet43, _, _⟩ := A1a.open_ hr43
 refine qN ((S33.q.a hc43).a hc38) [.o 7,.o 5,.x b38 p38,.f 0 4,.o 5,.x b43 p43,.v 1] rfl ⟨⟨rfl,hl43⟩,⟨hA43,by omega⟩,rfl,rfl,⟨hA38,by omega⟩,rfl,rfl,⟨⟩⟩ (j4a ?_)
 refine m7a rfl rfl k3b rfl ?_
 refine O1a ?_
 rintro wR4 ⟨SR4, _⟩
 intro g8 hg8 G8 ng8
 dsimp only [I3a]
 clear ng8
 replace SR4 := SR4.push_new S33 hg8 G8
 refine c0a (kk := 0) (vs := [_, _, _, _, _, _, _, _, _, _, _]) SR4 L3b rfl rfl rfl rfl rfl rfl rfl ?_
 intro w4_12 S4_12 X4_12
 dsimp only [e0a, List.set] at S4_12
 refine lC S4_12.k [.o 0] rfl ⟨rfl,⟨⟩⟩ (wL (fun μk D ε w => D = [] ∧ ∃ k : Nat, (k + μk = (s.set.length)) ∧ St [] w0 w [(some g8, 88, [.int .i64 s.kind, .int .i64 s.frm, .int .i64 s.to, .int .i64 s.guard.op, .int .i64 s.guard.w, .int .i64 s.guard.n, .slice Ag43 ng43 cg43, .slice As43 ns43 cs43, .bool s.release, .int .i64 s.target, .int .i64 s.module_]), (some g7, 52, [.slice (some ⟨g14, 0, none⟩) xm xm, .slice (some ⟨g18, 0, none⟩) xa xa, .slice (some ⟨g22, 0, none⟩) xb xb]), (some g22, 118, List.replicate xb (.slice none 0 0)), (some g18, 3, c.at_.map (Value.int .i64)), (some g14, 3, (A0b (s.set.take k) c.mem c.mem).map (Value.int .i64)), (some g6, 52, [.slice none 0 0, .slice none 0 0, .slice none 0 0]), (some g5, 68, [.int .i64 t, .int .i64 i, .int .i64 0]), (some g4, 52, [.slice Xm xm ym, .slice Xa xa ya, .slice Xb xb yb]), (some g3, 27, [.slice Ac nc cc, .slice Am nm cm, .slice Al nl cl, .slice At nt ct])] ∧ Sl ε [(4, .pointer (some ⟨g4, 0, none⟩)), (5, .pointer (some ⟨g5, 0, none⟩)), (6, .pointer (some ⟨g6, 0, none⟩)), (7, .pointer (some ⟨g7, 0, none⟩)), (8, .pointer (some ⟨g8, 0, none⟩)), (46, .slice As43 ns43 cs43), (47, .int .i64 ns43), (48, .int .i64 k)]) (μ := (s.set.length)) ⟨rfl, 0, by omega, S4_12, rfl⟩ ?_)
 rintro μk D ε w ⟨rfl, k, _, S, eZ⟩
 refine wK eZ (wB0 rfl ⟨⟩ (fun h49 => ?_) fun h49 => ?_)
 ·obtain ⟨a, b50, p50, _, hxa, hA50, _, hl50, hc50, hr50⟩ := RdS.get (hSet43) (k) (by omega)
  obtain ⟨_, _, _, rfl, _, hE50⟩ := Q0a.open_ hr50
  have q1 := (hso.set a (f0a hxa)).1
  unfold G2a at q1
  refine lO (S.k.a hc50) [.x b50 p50,.v 0] rfl ⟨⟨rfl,hl50⟩,⟨hA50,by omega⟩,⟨⟩⟩ (k0a S R3b rfl rfl ?_)
  intro g10 w10 S10 X10 G10
  refine c0a (kk := 0) (vs := [_, _, _, _, _]) S10 V3b rfl rfl rfl rfl rfl rfl rfl ?_
  intro w7_3 S7_3 X7_3
  dsimp only [e0a, List.set] at S7_3
  refine lC0 rfl ⟨⟩ (x0a b0a [0, 1, 2, 3, 4, 5, 6, 7, 8, 9, 10, 11] [] [12] (by kernel_rfl) rfl (Cl _ _ _ _) (Cl.start S7_3) ?_)
  refine qO S7_3.q [.o 2,.o 0,.o 0,.o 8,.o 8] rfl ⟨rfl,rfl,rfl,rfl,rfl,⟨⟩⟩ (K1a f0b rfl rfl (fun w1 S1 X1 => J6a a.to M _ _ _ _ c.mem c.mem (RdE.keep (S1.keep0 M) _ _ hE50) (hI.keep (S1.keep0 M)).msk (hMem.keep (S1.keep0 M)) (hMem.keep (S1.keep0 M))) ?_)
  refine j0a W0a.slT rfl (by rfl) rfl (by omega) (by omega) rfl ?_
  refine qD rfl ⟨⟩ ?_
  rintro wR8 ⟨SR8, _⟩
  first | refine w0a (kk := 5) SR8 S8a rfl (by conv => lhs; whnf) rfl rfl (by (simp; omega)) ?_
  intro w8_12 S8_12 X8_12
  refine lP0 rfl ⟨by omega,⟨⟩⟩ ⟨μk - 1, by omega, rfl, (k + 1), (by omega), (S8_12.tail.setEnt 4 rfl (m9b hxa (by simp))), rfl⟩
 refine lO S.k [.o 1,.o 6,.o 0] rfl ⟨rfl,rfl,rfl,⟨⟩⟩ (A0a W0a.slT rfl (by rfl) rfl (by omega) (by omega) rfl ?_)
 first | refine w0a (kk := 3) S S8a rfl (by conv => lhs; whnf) rfl rfl (by (simp; omega)) ?_
 intro w10_7 S10_7 X10_7
 refine lB S10_7.k [.o 0] rfl ⟨rfl,⟨⟩⟩ (fun h74 => ?_) fun h74 => ?_
 ·refine lO S10_7.k [.o 1,.o 0] rfl ⟨rfl,rfl,⟨⟩⟩ ?_
  have q6 := hk6 (by omega)
  refine A0a W0a.slT rfl (by rfl) rfl (by omega) (by omega) rfl ?_
  first | refine w0a (kk := 3) S10_7 S8a rfl (by conv => lhs; whnf) rfl rfl (by (simp; omega)) ?_
  intro w12_5 S12_5 X12_5
  refine lO S12_5.k [.w 1] rfl ⟨⟨rfl,rfl⟩,⟨⟩⟩ ?_
  first | refine c0a (kk := 5) (vs := [_, _, _]) S12_5 O2a rfl rfl rfl rfl rfl rfl rfl ?_
  intro w13_1 S13_1 X13_1
  dsimp only [e0a, List.set] at S13_1
  refine lR0 rfl ⟨⟩ ?_
  have SF := (S13_1.setEnt 3 rfl (show _ = (atC c t s).map (Value.int .i64) by simp [atC, h74, List.map_set])).setEnt 4 rfl (show _ = (A0b s.set c.mem c.mem).map (Value.int .i64) by rw [List.take_of_length_le (by omega)])
  rw [W9c he hxth hxs] at hf' ⊢
  exact t1a (n := 3) rfl q1a rfl (SF.cells 5 rfl) rfl ⟨⟨_, rfl, _, _, _, rfl, SF.rdInts 4 rfl (U0a hI.lt (SF.new 4 rfl)) (by simp [hxm]) b1 (Q4a hp hf'.mem), SF.rdInts 3 rfl (U0a hI.lt (SF.new 3 rfl)) (by rw [v5a]; exact hxa) b2 (A8a hp hf'), SF.rdBufs 2 rfl (U0a hI.lt (SF.new 2 rfl)) hxb b3 he⟩, SF.fin⟩
 refine lO S10_7.k [.w 1] rfl ⟨⟨rfl,rfl⟩,⟨⟩⟩ ?_
 first | refine c0a (kk := 5) (vs := [_, _, _]) S10_7 O2a rfl rfl rfl rfl rfl rfl rfl ?_
 intro w13_1 S13_1 X13_1
 dsimp only [e0a, List.set] at S13_1
 refine lR0 rfl ⟨⟩ ?_
 have SF := (S13_1.setEnt 3 rfl (show _ = (atC c t s).map (Value.int .i64) by simp [atC, h74, List.map_set])).setEnt 4 rfl (show _ = (A0b s.set c.mem c.mem).map (Value.int .i64) by rw [List.take_of_length_le (by omega)])
 rw [W9c he hxth hxs] at hf' ⊢
 exact t1a (n := 3) rfl q1a rfl (SF.cells 5 rfl) rfl ⟨⟨_, rfl, _, _, _, rfl, SF.rdInts 4 rfl (U0a hI.lt (SF.new 4 rfl)) (by simp [hxm]) b1 (Q4a hp hf'.mem), SF.rdInts 3 rfl (U0a hI.lt (SF.new 3 rfl)) (by rw [v5a]; exact hxa) b2 (A8a hp hf'), SF.rdBufs 2 rfl (U0a hI.lt (SF.new 2 rfl)) hxb b3 he⟩, SF.fin⟩
theorem Y7c {p : d0a} {m : Int} {c : D0a} (he : B5a c) {x : n0a} (hx : x ∈ M0a p m c) : ∃ (t i : Nat) (th : J0a) (s : m1a), x = ⟨t, i, 0⟩ ∧ p.threads[t]? = some th ∧ th.steps[i]? = some s ∧ N0a p m c t s = true := by
 obtain ⟨t, ht, h | h⟩ := G1a.1 hx
 ·obtain ⟨i, s, hs, he, rfl⟩ := h
  have hth : p.threads[t]? = some p.threads[t] := List.getElem?_eq_getElem ht
  rw [C1a hth] at hs
  exact ⟨t, i, _, s, rfl, hth, hs, he⟩
 ·obtain ⟨i, h1, -⟩ := h
  rw [he.getD] at h1; simp at h1
theorem u5b (p : d0a) (c : D0a) (x : n0a) (M : List Nat) (w0 : World) (cs xs : List Value) (hI : InP p M w0 cs) (hX : O0a M w0 c xs) (hf : b6a p c) (he : B5a c) (hx : x ∈ M0a p 0 c) :
 R0a Tryz.prog 135 #[.agg cs.toArray, .agg xs.toArray, .agg #[.int .i64 x.thread, .int .i64 x.step, .int .i64 x.cell]] w0 fun v w' => (∃ ys, v = .tuple #[.agg ys.toArray, .int .i64 0] ∧ O0a M w' (doC p 0 c x) ys) ∧ Below w0.heap.size w0 w' := by
 obtain ⟨t, i, th, s, rfl, hxth, hxs, _⟩ := Y7c he hx
 have hf' := Q6b hI.ok hf hx
 obtain ⟨Ac, nc, cc, Am, nm, cm, Al, nl, cl, At, nt, ct, rfl, _, _, _, _, _, _, _, _, _, _, _, _⟩ := hI.rd.open_
 obtain ⟨Xm, xm, ym, Xa, xa, ya, Xb, xb, yb, rfl, _, _, _, _, _, _, _, _, _⟩ := hX.open_
 have S := St.refl w0
 refine a0a Tryz.func135 rfl Tryz.ntmps135 rfl ?_
 refine wO0 rfl ⟨⟩ (m0a S (by conv => lhs; whnf) rfl ?_)
 intro g3 w3 S3 X3 G3
 refine m0a S3 (by conv => lhs; whnf) rfl ?_
 intro g4 w4 S4 X4 G4
 refine m0a S4 (by conv => lhs; whnf) rfl ?_
 intro g5 w5 S5 X5 G5
 refine k0a S5 g6a rfl rfl ?_
 intro g6 w6 S6 X6 G6
 refine lO S6.k [.w 3] rfl ⟨⟨rfl,rfl⟩,⟨⟩⟩ (g0a S6 J4b rfl rfl (z5a p M _ _ (hI.keep (S6.keep0 M))) ?_)
 intro w11 S11 X11
 refine lO S11.k [.w 3,.w 2] rfl ⟨⟨rfl,rfl⟩,⟨rfl,rfl⟩,⟨⟩⟩ (g0a S11 H0c rfl rfl (C9a p c M _ _ _ (hI.keep (S11.keep0 M)) (hX.keep (S11.keep0 M)) hf he) ?_)
 intro w16 S16 X16
 refine lO S16.k [.w 3,.w 2] rfl ⟨⟨rfl,rfl⟩,⟨rfl,rfl⟩,⟨⟩⟩ (F0a S16 P8b rfl rfl (k6a p c M _ _ _ (hI.keep (S16.keep0 M)) (hX.keep (S16.keep0 M)) hf he) ?_)
 rintro v22 w22 hr S22 X22
 obtain ⟨Ar, nr, cr, rfl⟩ := hr.form
 obtain ⟨_, -, _⟩ := hr.len
 have K22 := C0a.refl [] w22
 refine lC0 rfl ⟨⟩ (wL (fun μk D ε w => D = [] ∧ ∃ k : Nat, (k + μk = ((M0a p 0 c).length)) ∧ (C0a [] w22 w) ∧ (n1a (M0a p 0 c) k (fun y => y ≠ ⟨t, i, 0⟩)) ∧ St [] w0 w [(some g6, 52, [.slice none 0 0, .slice none 0 0, .slice none 0 0]), (some g5, 68, [.int .i64 t, .int .i64 i, .int .i64 0]), (some g4, 52, [.slice Xm xm ym, .slice Xa xa ya, .slice Xb xb yb]), (some g3, 27, [.slice Ac nc cc, .slice Am nm cm, .slice Al nl cl, .slice At nt ct])] ∧ Sl ε [(3, .pointer (some ⟨g3, 0, none⟩)), (4, .pointer (some ⟨g4, 0, none⟩)), (5, .pointer (some ⟨g5, 0, none⟩)), (6, .pointer (some ⟨g6, 0, none⟩)), (22, .slice Ar nr cr), (23, .int .i64 nr), (24, .int .i64 k)]) (μ := ((M0a p 0 c).length)) ⟨rfl, 0, by omega, K22, n1a.zero, S22, rfl⟩ ?_)
 rintro μk D ε w ⟨rfl, k, _, K22, hs, S, eZ⟩
 refine wK eZ (wB0 rfl ⟨⟩ (fun h25 => ?_) fun h25 => ?_)
 ·obtain ⟨y, b26, p26, _, hxy, hA26, _, hl26, hc26, hr26⟩ := RdS.get ((hr.keep K22.of_nil)) (k) (by omega)
  obtain ⟨rfl, _, _, _⟩ := id hr26
  refine lO (S.k.b hc26) [.x b26 p26,.v 0] rfl ⟨⟨rfl,hl26⟩,⟨hA26,by omega⟩,⟨⟩⟩ (k0a S L4c rfl rfl ?_)
  intro g9 w9 S9 X9 G9
  have GK229 := Nat.le_trans K22.size G9
  replace K22 := K22.trans X9
  refine c0a (kk := 0) (vs := [_, _, _]) S9 C1c rfl rfl rfl rfl rfl rfl rfl ?_
  intro w5_3 S5_3 X5_3
  dsimp only [e0a, List.set] at S5_3
  replace K22 := K22.fresh X5_3 (by first | exact GK229)
  refine lOn 6 S5_3.k [.w 2,.w 0] rfl ⟨⟨rfl,by rfl⟩,⟨rfl,rfl⟩,⟨⟩⟩ (g3c m3b rfl rfl rfl (fun h30 => ?_) fun h30 => ?_)
  ·refine lO S5_3.k [.w 4,.w 3,.w 2] rfl ⟨⟨rfl,rfl⟩,⟨rfl,rfl⟩,⟨rfl,rfl⟩,⟨⟩⟩ (F0a S5_3 D5c rfl rfl (y0b p c t i th s (g6 :: M) _ _ _ (hI.add S5_3 (k := 1) rfl) (O0a.add hX S5_3 (k := 1) rfl) hf he hxth hxs hf') ?_)
   rintro v34 w34 ⟨ys, rfl, hy⟩ S34 X34
   obtain ⟨_, _, _, _, _, _, _, _, _, rfl, -⟩ := hy.open_
   first | refine c0a (kk := 1) (vs := [_, _, _]) S34 O2a rfl rfl rfl rfl rfl rfl rfl ?_
   intro w7_4 S7_4 X7_4
   dsimp only [e0a, List.set] at S7_4
   replace hy := hy.keep (X7_4.mono (by simp))
   exact lR0 rfl ⟨⟩ (B2a (n := 3) rfl q1a rfl (S7_4.cells 1 rfl) rfl rfl ⟨⟨_, rfl, hy.less (fun g hg => List.mem_cons_of_mem _ hg)⟩, S7_4.fin⟩)
  refine lP0 rfl ⟨by omega,⟨⟩⟩ ?_
  refine ⟨μk - 1, by omega, rfl, (k + 1), (by omega), (K22), (hs.succ hxy (fun h => h30 (by rw [h]; exact ⟨rfl, rfl, rfl⟩))), S5_3.tail, rfl⟩
 refine lO0 rfl ⟨⟩ (b1a j5a (vs := []) (cs := [_, _, _]) rfl rfl rfl rfl ?_)
 refine c0a (kk := 0) (vs := [_, _, _]) S O2a rfl rfl rfl rfl rfl rfl rfl ?_
 intro w9_1 S9_1 X9_1
 dsimp only [e0a, List.set] at S9_1
 exact lR0 rfl ⟨⟩ (absurd rfl (hs.all (by omega) _ hx))
end Go.Proofs.YtjjmdcnmeommbaaGreatDoor
namespace Go.Fw
open Go.RowKit
theorem RdS.take {α : Type} {M : List Nat} {w : World} {size : Nat} {R : List Value → α → Prop} {A : Option Addr} {n c : Nat} {l : List α} (h : RdS M w size R (.slice A n c) l) (i : Nat) (hi : i ≤ n) : RdS M w size R (.slice A i c) (l.take i) := by
 obtain ⟨_, _, _, he, _, _, h3, _, h5⟩ := h
 cases he
 refine ⟨_, _, _, rfl, by rw [List.length_take]; omega, by omega, h3, by omega, fun h0 => ?_⟩
 obtain ⟨b, o, hA, hb, hel⟩ := h5 (by omega)
 refine ⟨b, o, hA, hb, fun j x hx => hel j x ?_⟩
 rw [List.getElem?_take] at hx
 split at hx
 ·exact hx
 ·cases hx
theorem H2c {l : List Int} (h : l.Nodup) {k : Nat} {x : Int} (hx : l[k]? = some x) : x ∉ l.take k := fun hh => by
 obtain ⟨i, hi, he⟩ := List.getElem_of_mem hh
 rw [List.length_take] at hi
 obtain ⟨hk, hx⟩ := List.getElem?_eq_some_iff.1 hx
 rw [List.getElem_take] at he
 exact (List.pairwise_iff_getElem.1 h i k (by omega) hk (by omega)) (he.trans hx.symm)
theorem v6b {a b : List Int} {k : Nat} {x y : Int} (hx : a[k]? = some x) (hy : b[k]? = some y) : (x, y) ∈ a.zip b := List.mem_of_getElem? (i := k) (by rw [List.getElem?_zip_eq_some]; exact ⟨hx, hy⟩)
end Go.Fw
namespace Go.Proofs.YtjjmdcnmeommbaaGreatDoor
open Go.Fw Go.RowKit
theorem q9b (M : List Nat) (w0 : World) (v : Value) (l : List Int) (a : Int) (hR : RdI M w0 v l) :
 R0a Tryz.prog 190 #[v, .int .i64 a] w0 fun v w' => (∃ n, v = .int .i64 n ∧ (0 ≤ n ↔ a ∈ l)) ∧ Below w0.heap.size w0 w' := by
 obtain ⟨A, n, c, rfl⟩ := hR.form
 obtain ⟨_, _, _⟩ := hR.len
 have S := St.refl w0
 refine a0a Tryz.func190 rfl Tryz.ntmps190 rfl ?_
 refine wC0 rfl ⟨⟩ (wL (fun μk D ε w => D = [] ∧ ∃ k : Nat, (k + μk = (l.length)) ∧ (n1a (l) k (fun x => a ≠ x)) ∧ St [] w0 w [] ∧ Sl ε [(0, .slice A n c), (1, .int .i64 a), (7, .int .i64 n), (8, .int .i64 k)]) (μ := (l.length)) ⟨rfl, 0, by omega, n1a.zero, S, rfl⟩ ?_)
 rintro μk D ε w ⟨rfl, k, _, ha, S, eZ⟩
 refine wK eZ (wB0 rfl ⟨⟩ (fun h9 => ?_) fun h9 => ?_)
 ·obtain ⟨x, b14, p14, _, hxx, hA14, _, _, hc14, hr14⟩ := RdS.get (hR) (k) (by omega)
  obtain ⟨rfl, _⟩ := id hr14
  refine lB (S.k.a hc14) [.x b14 p14,.f 0 0] rfl ⟨rfl,⟨hA14,by omega⟩,⟨⟩⟩ (fun h16 => ?_) fun h16 => ?_
  ·exact lT rfl ⟨⟩ rfl ⟨⟨_, rfl, ⟨fun _ => h16 ▸ f0a hxx, fun _ => by omega⟩⟩, S.fin⟩
  refine lP0 rfl ⟨by omega,⟨⟩⟩ ⟨μk - 1, by omega, rfl, (k + 1), (by omega), (ha.succ hxx (h16)), S, rfl⟩
 exact lT rfl ⟨⟩ rfl ⟨⟨_, rfl, ⟨fun h => by omega, fun h => absurd rfl (ha.all (by omega) a h)⟩⟩, S.fin⟩
theorem L5a (M : List Nat) (w0 : World) (v : Value) (l : List Int) (a : Int) (hR : RdI M w0 v l) :
 R0a Tryz.prog 156 #[v, .int .i64 a] w0 fun v w' => v = .bool (decide (a ∈ l)) ∧ Below w0.heap.size w0 w' := by
 obtain ⟨_, _, _, rfl⟩ := hR.form
 have S := St.refl w0
 refine a0a Tryz.func156 rfl Tryz.ntmps156 rfl ?_
 refine wO0 rfl ⟨⟩ (F0a S B6c rfl rfl (q9b M _ _ l a (hR.keep (S.keep0 M))) ?_)
 rintro v7 w7 ⟨_, rfl, hm⟩ S7 X7
 refine lB0 rfl ⟨⟩ (fun h8 => ?_) fun h8 => ?_
 ·refine lR0 rfl ⟨⟩ (o0a rfl (by conv => lhs; whnf) ?_)
  exact ⟨by rw [decide_eq_true (hm.1 (by omega))], S7.fin⟩
 refine lR0 rfl ⟨⟩ (o0a rfl (by conv => lhs; whnf) ?_)
 exact ⟨by rw [decide_eq_false (fun hh => absurd (hm.2 hh) (by omega))], S7.fin⟩
theorem e9a (p : d0a) (M : List Nat) (w0 : World) (cs : List Value) (hI : InP p M w0 cs) :
 R0a Tryz.prog 172 #[.agg cs.toArray] w0 fun v w' => v = .bool true ∧ Below w0.heap.size w0 w' := by
 obtain ⟨_, _, _, _, _, _, _, _, _, _, _, _, rfl, _, _, _, _, _, _, _, _, _, _, _, _⟩ := hI.rd.open_
 have S := St.refl w0
 refine a0a Tryz.func172 rfl Tryz.ntmps172 rfl ?_
 refine wO0 rfl ⟨⟩ (m0a S (by conv => lhs; whnf) rfl ?_)
 intro g1 w1 S1 X1 G1
 refine lO S1.k [.w 0] rfl ⟨⟨rfl,by rfl⟩,⟨⟩⟩ (g0a S1 D6b rfl rfl (V6a p M _ _ (hI.keep (S1.keep0 M)).rd hI.ok (hI.keep (S1.keep0 M)).msk (hI.keep (S1.keep0 M)).lt) ?_)
 intro w8 S8 X8
 refine lB0 rfl ⟨⟩ (fun h13 => ?_) (fun h13 => by exfalso; omega)
 exact lT rfl ⟨⟩ rfl ⟨rfl, S8.fin⟩
theorem S3b (p : d0a) (en : I0a) (M : List Nat) (w0 : World) (cs es : List Value) (hI : InP p M w0 cs) (hE : e1a M w0 es en) (ho : w0b p en) :
 R0a Tryz.prog 205 #[.agg cs.toArray, .agg es.toArray] w0 fun v w' => v = .bool true ∧ Below w0.heap.size w0 w' := by
 obtain ⟨Ac, nc, cc, Am, nm, cm, Al, nl, cl, At, nt, ct, rfl, hC, _, _, _, _, _, _, _, _, _, _, _⟩ := hI.rd.open_
 obtain ⟨Ec, ec, fc, Ev, ev', fv, rfl, hCe, hVa, _, _, _, _⟩ := hE.open_
 have S := St.refl w0
 have l1 := ho.len
 have l2 : en.values.length = en.cells.length := ho.even
 have l3 : en.cells.length ≠ 0 := fun h => ho.some_ (List.length_eq_zero_iff.1 h)
 refine a0a Tryz.func205 rfl Tryz.ntmps205 rfl ?_
 refine wO0 rfl ⟨⟩ (m0a S (by conv => lhs; whnf) rfl ?_)
 intro g2 w2 S2 X2 G2
 refine m0a S2 (by conv => lhs; whnf) rfl ?_
 intro g3 w3 S3 X3 G3
 refine lB S3.k [.o 0] rfl ⟨rfl,⟨⟩⟩ (fun h11 => by exfalso; omega) fun h11 => ?_
 refine lB S3.k [.o 0,.o 1] rfl ⟨rfl,rfl,⟨⟩⟩ (fun h19 => by exfalso; omega) fun h19 => ?_
 refine lB S3.k [.o 0,.o 0] rfl ⟨rfl,rfl,⟨⟩⟩ (fun h28 => by exfalso; omega) fun h28 => ?_
 refine lC S3.k [.o 0] rfl ⟨rfl,⟨⟩⟩ (wL (fun μk D ε w => D = [] ∧ ∃ k : Nat, (k + μk = (en.cells.length)) ∧ St [] w0 w [(some g3, 121, [.slice Ec ec fc, .slice Ev ev' fv]), (some g2, 27, [.slice Ac nc cc, .slice Am nm cm, .slice Al nl cl, .slice At nt ct])] ∧ Sl ε [(2, .pointer (some ⟨g2, 0, none⟩)), (3, .pointer (some ⟨g3, 0, none⟩)), (31, .slice Ec ec fc), (32, .int .i64 ec), (33, .int .i64 k)]) (μ := (en.cells.length)) ⟨rfl, 0, by omega, S3, rfl⟩ ?_)
 rintro μk D ε w ⟨rfl, k, _, S, eZ⟩
 refine wK eZ (wB0 rfl ⟨⟩ (fun h34 => ?_) fun h34 => ?_)
 ·obtain ⟨x, b36, p36, _, hxx, hA36, _, _, hc36, hr36⟩ := RdS.get (hCe) (k) (by omega)
  obtain ⟨rfl, _⟩ := id hr36
  have q1 := ho.cells k x hxx
  obtain ⟨q2, q3, q4⟩ := q1
  unfold G2a at q2
  have hCe2 : RdI M w0 (.slice (some ⟨b36, p36, none⟩) ec fc) en.cells := hA36 ▸ hCe
  refine lB (S.k.a hc36) [.x b36 p36,.f 0 0] rfl ⟨rfl,⟨hA36,by omega⟩,⟨⟩⟩ (fun h39 => by exfalso; omega) fun h39 => ?_
  refine lB S.k [.o 1] rfl ⟨rfl,⟨⟩⟩ (fun h45 => by exfalso; omega) fun h45 => ?_
  refine lO S.k [.o 0] rfl ⟨rfl,⟨⟩⟩ ?_
  refine w3c (k := k) W0a.slT (show _ = Value.slice (some ⟨b36, p36, none⟩) ec fc by rw [← hA36]; rfl) rfl (by have := hCe.len; omega) hCe.len.2.1 rfl ?_
  refine lO0 rfl ⟨⟩ (g0a S S4b rfl rfl ((L5a M _ _ (en.cells.take k) x (RdS.take (hCe2.keep (S.keep0 M)) k (by omega))).mono (fun v w' h => ⟨h.1.trans (by rw [decide_eq_false (H2c ho.once hxx)]), h.2⟩)) ?_)
  intro w53 S53 X53
  obtain ⟨cl', b58, p58, _, hxcl', hA58, _, hl58, hc58, hr58⟩ := RdS.get (hC) (x.toNat) (by omega)
  obtain ⟨rfl, _, _, _, _⟩ := K2a.open_ hr58
  rw [f1a hxcl'] at q3
  rw [Z4a hxcl'] at q4
  have q5 := (hI.ok.cells cl' (f0a hxcl')).w
  refine lO (S53.k.a hc58) [.o 1,.x b58 p58,.v 0] rfl ⟨⟨rfl,hl58⟩,⟨hA58,by omega⟩,rfl,⟨⟩⟩ (k0a S53 Z5c rfl rfl ?_)
  intro g7 w7 S7 X7 G7
  refine c0a (kk := 0) (vs := [_, _, _, _, _, _]) S7 d6c rfl rfl rfl rfl rfl rfl rfl ?_
  intro w8_6 S8_6 X8_6
  dsimp only [e0a, List.set] at S8_6
  refine lC0 rfl ⟨⟩ (x0a b0a [0, 1, 2, 3, 4, 5, 6, 7, 8, 9, 10, 11, 12, 13, 14, 15, 16, 17, 18, 19, 20, 21, 22, 23, 24, 25, 26, 27, 28] [] [] (by kernel_rfl) rfl (Cl _ _ _ _) (Cl.start S8_6) ?_)
  refine qB S8_6.q [.o 0] rfl ⟨rfl,⟨⟩⟩ (fun h62 => by exfalso; omega) fun h62 => ?_
  refine qO0 rfl ⟨⟩ ?_
  rcases (Bool.eq_false_or_eq_true (cl'.ghost)).symm with hb65 | hb65
  ·refine i0a v2a rfl (fun w1 hw => by exact (hw.1.cell 0 rfl rfl).trans (congrArg (fun b => some (Value.bool b)) hb65)) rfl ?_
   refine qB0 rfl ⟨⟩ (fun h67 => ?_) fun h67 => ?_
   ·refine qD rfl ⟨⟩ ?_
    rintro wR9 ⟨SR9, XR9⟩
    refine lR0 rfl ⟨⟩ (o0a rfl (by conv => lhs; whnf) ?_)
    exfalso; rw [hb65] at q4; simp at q4; omega
   obtain ⟨y, b74, p74, c74, hxy, hA74, hM74, hl74, hc74, hr74⟩ := RdS.get (hVa) (k) (by omega)
   obtain ⟨rfl, i174⟩ := id hr74
   have q6 := ho.vals (x, y) (v6b hxx hxy)
   simp only at q6
   rw [X9a q2.1 hxcl', E6a] at q6
   refine qB (S8_6.q.a hc74) [.o 1,.x b74 p74,.f 0 0] rfl ⟨rfl,⟨hA74,by omega⟩,rfl,⟨⟩⟩ (fun h76 => by exfalso; omega) fun h76 => ?_
   refine qO S8_6.q [.o 1] rfl ⟨rfl,⟨⟩⟩ (j0a W0a.slT rfl (by assumption) rfl (by omega) (by omega) rfl ?_)
   refine qO0 rfl ⟨⟩ (i0a G0a rfl (fun w1 hw => by exact hw.1.old (hc74 0 _ rfl)) rfl ?_)
   refine qO S8_6.q [.o 0] rfl ⟨rfl,⟨⟩⟩ ?_
   rw [show cl'.w = ((cl'.w.toNat : Nat) : Int) by omega]
   refine P2c (n := cl'.w.toNat) rfl (by rfl) (by omega) rfl ?_
   refine qB0 rfl ⟨⟩ (fun h87 => by exfalso; omega) fun h87 => ?_
   refine qD rfl ⟨⟩ ?_
   rintro wR9 ⟨SR9, XR9⟩
   refine lP0 rfl ⟨by omega,⟨⟩⟩ ⟨μk - 1, by omega, rfl, (k + 1), (by omega), SR9.tail, rfl⟩
  refine i0a v2a rfl (fun w1 hw => by exact (hw.1.cell 0 rfl rfl).trans (congrArg (fun b => some (Value.bool b)) hb65)) rfl ?_
  refine qB0 rfl ⟨⟩ (fun h67 => ?_) fun h67 => ?_
  ·obtain ⟨y, b74, p74, c74, hxy, hA74, hM74, hl74, hc74, hr74⟩ := RdS.get (hVa) (k) (by omega)
   obtain ⟨rfl, i174⟩ := id hr74
   have q6 := ho.vals (x, y) (v6b hxx hxy)
   simp only at q6
   rw [X9a q2.1 hxcl', E6a] at q6
   refine qB (S8_6.q.a hc74) [.o 1,.x b74 p74,.f 0 0] rfl ⟨rfl,⟨hA74,by omega⟩,rfl,⟨⟩⟩ (fun h76 => by exfalso; omega) fun h76 => ?_
   refine qO S8_6.q [.o 1] rfl ⟨rfl,⟨⟩⟩ (j0a W0a.slT rfl (by assumption) rfl (by omega) (by omega) rfl ?_)
   refine qO0 rfl ⟨⟩ (i0a G0a rfl (fun w1 hw => by exact hw.1.old (hc74 0 _ rfl)) rfl ?_)
   refine qO S8_6.q [.o 0] rfl ⟨rfl,⟨⟩⟩ ?_
   rw [show cl'.w = ((cl'.w.toNat : Nat) : Int) by omega]
   refine P2c (n := cl'.w.toNat) rfl (by rfl) (by omega) rfl ?_
   refine qB0 rfl ⟨⟩ (fun h87 => by exfalso; omega) fun h87 => ?_
   refine qD rfl ⟨⟩ ?_
   rintro wR9 ⟨SR9, XR9⟩
   refine lP0 rfl ⟨by omega,⟨⟩⟩ ⟨μk - 1, by omega, rfl, (k + 1), (by omega), SR9.tail, rfl⟩
  refine qD rfl ⟨⟩ ?_
  rintro wR9 ⟨SR9, XR9⟩
  refine lR0 rfl ⟨⟩ (o0a rfl (by conv => lhs; whnf) ?_)
  exfalso; rw [hb65] at q4; simp at q4; omega
 exact lT rfl ⟨⟩ rfl ⟨rfl, S.fin⟩
theorem Y0b (p : d0a) (c : D0a) (M : List Nat) (w0 : World) (cs xs : List Value) (hI : InP p M w0 cs) (hX : O0a M w0 c xs) (hf : b6a p c) :
 R0a Tryz.prog 173 #[.agg cs.toArray, .agg xs.toArray] w0 fun v w' => v = .bool true ∧ Below w0.heap.size w0 w' := by
 obtain ⟨Ac, nc, cc, Am, nm, cm, Al, nl, cl, At, nt, ct, rfl, hC, _, _, hTh, _, _, _, _, _, _, _, _⟩ := hI.rd.open_
 obtain ⟨Xm, xm, ym, Xa, xa, ya, Xb, xb, yb, rfl, hMem, hAt, hBuf, _, _, hxb, _, _, _⟩ := hX.open_
 have S := St.refl w0
 have f1 := hf.mem.len
 have f2 := hf.nat
 have f3 := hf.nbuf
 refine a0a Tryz.func173 rfl Tryz.ntmps173 rfl ?_
 refine wO0 rfl ⟨⟩ (m0a S (by conv => lhs; whnf) rfl ?_)
 intro g2 w2 S2 X2 G2
 refine m0a S2 (by conv => lhs; whnf) rfl ?_
 intro g3 w3 S3 X3 G3
 refine lB S3.k [.o 0,.o 1] rfl ⟨rfl,rfl,⟨⟩⟩ (fun h18 => by exfalso; omega) fun h18 => ?_
 refine lB S3.k [.o 0,.o 1] rfl ⟨rfl,rfl,⟨⟩⟩ (fun h26 => by exfalso; omega) fun h26 => ?_
 refine lB S3.k [.o 0,.o 1] rfl ⟨rfl,rfl,⟨⟩⟩ (fun h35 => by exfalso; omega) fun h35 => ?_
 refine lC S3.k [.o 0] rfl ⟨rfl,⟨⟩⟩ (wL (fun μk D ε w => D = [] ∧ ∃ k : Nat, (k + μk = (c.mem.length)) ∧ St [] w0 w [(some g3, 52, [.slice Xm xm ym, .slice Xa xa ya, .slice Xb xb yb]), (some g2, 27, [.slice Ac nc cc, .slice Am nm cm, .slice Al nl cl, .slice At nt ct])] ∧ Sl ε [(2, .pointer (some ⟨g2, 0, none⟩)), (3, .pointer (some ⟨g3, 0, none⟩)), (38, .slice Xm xm ym), (39, .int .i64 xm), (40, .int .i64 k)]) (μ := (c.mem.length)) ⟨rfl, 0, by omega, S3, rfl⟩ ?_)
 rintro μk D ε w ⟨rfl, k, hk, S, eZ⟩
 refine wK eZ (wB0 rfl ⟨⟩ (fun h41 => ?_) fun h41 => ?_)
 ·obtain ⟨v, b43, p43, _, hxv, hA43, _, _, hc43, hr43⟩ := RdS.get (hMem) (k) (by omega)
  obtain ⟨rfl, _⟩ := id hr43
  have q1 := hf.mem.vals k v hxv
  refine lB (S.k.a hc43) [.x b43 p43,.f 0 0] rfl ⟨rfl,⟨hA43,by omega⟩,⟨⟩⟩ (fun h46 => by exfalso; omega) fun h46 => ?_
  obtain ⟨x, b52, p52, _, hxx, hA52, _, _, hc52, hr52⟩ := RdS.get (hC) (k) (by omega)
  obtain ⟨rfl, _, _, _, _⟩ := K2a.open_ hr52
  have q2 := (hI.ok.cells x (f0a hxx)).w
  rw [d0d hxx, E6a] at q1
  refine lO (S.k.a hc52) [.o 1,.x b52 p52,.f 0 1] rfl ⟨rfl,⟨hA52,by omega⟩,rfl,⟨⟩⟩ ?_
  rw [show x.w = ((x.w.toNat : Nat) : Int) by omega]
  refine a3c (n := x.w.toNat) rfl (by rfl) (by omega) rfl ?_
  refine lB0 rfl ⟨⟩ (fun h56 => by exfalso; omega) fun h56 => ?_
  refine lP0 rfl ⟨by omega,⟨⟩⟩ ⟨μk - 1, by omega, rfl, (k + 1), (by omega), S, rfl⟩
 refine lC S.k [.o 0] rfl ⟨rfl,⟨⟩⟩ (wL (fun μk D ε w => D = [] ∧ ∃ k : Nat, (k + μk = (c.at_.length)) ∧ St [] w0 w [(some g3, 52, [.slice Xm xm ym, .slice Xa xa ya, .slice Xb xb yb]), (some g2, 27, [.slice Ac nc cc, .slice Am nm cm, .slice Al nl cl, .slice At nt ct])] ∧ Sl ε [(2, .pointer (some ⟨g2, 0, none⟩)), (3, .pointer (some ⟨g3, 0, none⟩)), (60, .slice Xa xa ya), (61, .int .i64 xa), (62, .int .i64 k)]) (μ := (c.at_.length)) ⟨rfl, 0, by omega, S, rfl⟩ ?_)
 rintro μk D ε w ⟨rfl, k, hk, S, eZ⟩
 refine wK eZ (wB0 rfl ⟨⟩ (fun h63 => ?_) fun h63 => ?_)
 ·obtain ⟨v, b65, p65, _, hxv, hA65, _, _, hc65, hr65⟩ := RdS.get (hAt) (k) (by omega)
  obtain ⟨rfl, _⟩ := id hr65
  obtain ⟨th, b70, p70, _, hxth, hA70, _, hl70, hc70, hr70⟩ := RdS.get (hTh) (k) (by omega)
  obtain ⟨Aa70, na70, ca70, Am70, nm70, cm70, As70, ns70, cs70, Al70, nl70, cl70, rfl, _, _, _, _, _, _, _, _, _, _, _, _, _⟩ := v0a.open_ hr70
  have q1 := hf.atr k v hxv th hxth
  refine lO ((S.k.a hc70).a hc65) [.x b65 p65,.f 0 0,.o 1,.x b70 p70,.v 1] rfl ⟨⟨rfl,hl70⟩,⟨hA70,by omega⟩,rfl,rfl,⟨hA65,by omega⟩,⟨⟩⟩ (k0a S M2b rfl rfl ?_)
  intro g9 w9 S9 X9 G9
  refine c0a (kk := 0) (vs := [_, _, _, _, _, _, _]) S9 t1b rfl rfl rfl rfl rfl rfl rfl ?_
  intro w12_6 S12_6 X12_6
  dsimp only [e0a, List.set] at S12_6
  refine lB0 rfl ⟨⟩ (fun h73 => by exfalso; omega) fun h73 => ?_
  refine lB S12_6.k [.o 0] rfl ⟨rfl,⟨⟩⟩ (fun h78 => by exfalso; omega) fun h78 => ?_
  obtain ⟨b, b84, p84, _, hxb, hA84, _, _, hc84, hr84⟩ := RdS.get (hBuf) (k) (by omega)
  obtain ⟨_, _, _, rfl, _, _, _⟩ := b7a.open_ hr84
  have q3 := hf.bufs k b hxb
  refine lB (S12_6.k.a hc84) [.o 1,.x b84 p84,.f 0 0] rfl ⟨rfl,⟨hA84,by omega⟩,rfl,⟨⟩⟩ (fun h87 => by exfalso; omega) fun h87 => ?_
  refine lB0 rfl ⟨⟩ (fun h90 => ?_) fun h90 => ?_
  ·refine lO0 rfl ⟨⟩ ?_
   cases hb93 : th.asleep
   ·refine u0a v2a rfl (by exact (S12_6.cell 0 rfl rfl).trans (congrArg (fun b => some (Value.bool b)) hb93)) rfl ?_
    rw [q1.2.2 (by omega)] at hb93
    refine lR0 rfl ⟨⟩ (o0a rfl (by conv => lhs; whnf) ?_)
    cases hb93
   refine u0a v2a rfl (by exact (S12_6.cell 0 rfl rfl).trans (congrArg (fun b => some (Value.bool b)) hb93)) rfl ?_
   rw [q1.2.2 (by omega)] at hb93
   have q4 := q3.2.2 (by rw [hxv]; exact congrArg some (by omega))
   have q4 : b.length = 0 := by rw [q4]; rfl
   obtain ⟨_, b99, p99, _, hx99, hA99, _, _, hc99, hr99⟩ := RdS.get (hBuf) (k) (by omega)
   obtain rfl := Option.some.inj (hxb.symm.trans hx99)
   obtain ⟨_, _, _, rfl, _, _, _⟩ := b7a.open_ hr99
   refine lB (S12_6.k.a hc99) [.o 1,.x b99 p99,.f 0 0] rfl ⟨rfl,⟨hA99,by omega⟩,rfl,⟨⟩⟩ (fun h102 => by exfalso; omega) fun h102 => ?_
   obtain ⟨x108, b108, p108, c108, hx108, hA108, hM108, hl108, hc108, hr108⟩ := RdS.get (hBuf) (k) (by omega)
   obtain rfl := Option.some.inj (hxb.symm.trans hx108)
   obtain ⟨Ab108, nb108, cb108, rfl, hBu108, hnb108, bb108⟩ := b7a.open_ hr108
   refine lC (S12_6.k.a hc108) [.o 1,.x b108 p108,.f 0 0] rfl ⟨rfl,⟨hA108,by omega⟩,rfl,⟨⟩⟩ (wL (fun μj D ε w => D = [] ∧ ∃ j : Nat, (j + μj = (b.length)) ∧ St [] w0 w [(some g9, 60, [.string th.name, .int .i64 th.points, .slice Aa70 na70 ca70, .slice Am70 nm70 cm70, .slice As70 ns70 cs70, .slice Al70 nl70 cl70, .bool th.asleep]), (some g3, 52, [.slice Xm xm ym, .slice Xa xa ya, .slice Xb xb yb]), (some g2, 27, [.slice Ac nc cc, .slice Am nm cm, .slice Al nl cl, .slice At nt ct])] ∧ Sl ε [(2, .pointer (some ⟨g2, 0, none⟩)), (3, .pointer (some ⟨g3, 0, none⟩)), (60, .slice Xa xa ya), (61, .int .i64 xa), (62, .int .i64 k), (109, .slice Ab108 nb108 cb108), (110, .int .i64 nb108), (111, .int .i64 j)]) (μ := (b.length)) ⟨rfl, 0, by omega, S12_6, rfl⟩ ?_)
   rintro μj D ε w ⟨rfl, j, hj, S, eZ⟩
   refine wK eZ (wB0 rfl ⟨⟩ (fun h112 => ?_) fun h112 => ?_)
   ·obtain ⟨en, b113, p113, c113, hxen, hA113, hM113, hl113, hc113, hr113⟩ := RdS.get (hBu108) (j) (by omega)
    obtain ⟨Ac113, nc113, cc113, Av113, nv113, cv113, rfl, hCe113, hVa113, hnc113, hnv113, bc113, bv113⟩ := e1a.open_ hr113
    have q5 := q3.2.1 en (f0a hxen)
    refine lO (S.k.a hc113) [.x b113 p113,.v 0] rfl ⟨⟨rfl,hl113⟩,⟨hA113,by omega⟩,⟨⟩⟩ (k0a S v8a rfl rfl ?_)
    intro g11 w11 S11 X11 G11
    refine c0a (kk := 0) (vs := [_, _]) S11 c9a rfl rfl rfl rfl rfl rfl rfl ?_
    intro w19_3 S19_3 X19_3
    dsimp only [e0a, List.set] at S19_3
    refine lO S19_3.k [.w 3,.w 0] rfl ⟨⟨rfl,by rfl⟩,⟨rfl,rfl⟩,⟨⟩⟩ (g0a S19_3 R8b rfl rfl (S3b p en M _ _ _ (hI.keep (S19_3.keep0 M)) (e1a.keep (S19_3.keep0 M) _ _ hr113) q5) ?_)
    intro w117 S117 X117
    refine lP0 rfl ⟨by omega,⟨⟩⟩ ⟨μj - 1, by omega, rfl, (j + 1), (by omega), S117.tail, rfl⟩
   refine lP0 rfl ⟨by omega,⟨⟩⟩ ⟨μk - 1, by omega, rfl, (k + 1), (by omega), S.tail, rfl⟩
  obtain ⟨x108, b108, p108, c108, hx108, hA108, hM108, hl108, hc108, hr108⟩ := RdS.get (hBuf) (k) (by omega)
  obtain rfl := Option.some.inj (hxb.symm.trans hx108)
  obtain ⟨Ab108, nb108, cb108, rfl, hBu108, hnb108, bb108⟩ := b7a.open_ hr108
  refine lC (S12_6.k.a hc108) [.o 1,.x b108 p108,.f 0 0] rfl ⟨rfl,⟨hA108,by omega⟩,rfl,⟨⟩⟩ (wL (fun μj D ε w => D = [] ∧ ∃ j : Nat, (j + μj = (b.length)) ∧ St [] w0 w [(some g9, 60, [.string th.name, .int .i64 th.points, .slice Aa70 na70 ca70, .slice Am70 nm70 cm70, .slice As70 ns70 cs70, .slice Al70 nl70 cl70, .bool th.asleep]), (some g3, 52, [.slice Xm xm ym, .slice Xa xa ya, .slice Xb xb yb]), (some g2, 27, [.slice Ac nc cc, .slice Am nm cm, .slice Al nl cl, .slice At nt ct])] ∧ Sl ε [(2, .pointer (some ⟨g2, 0, none⟩)), (3, .pointer (some ⟨g3, 0, none⟩)), (60, .slice Xa xa ya), (61, .int .i64 xa), (62, .int .i64 k), (109, .slice Ab108 nb108 cb108), (110, .int .i64 nb108), (111, .int .i64 j)]) (μ := (b.length)) ⟨rfl, 0, by omega, S12_6, rfl⟩ ?_)
  rintro μj D ε w ⟨rfl, j, hj, S, eZ⟩
  refine wK eZ (wB0 rfl ⟨⟩ (fun h112 => ?_) fun h112 => ?_)
  ·obtain ⟨en, b113, p113, c113, hxen, hA113, hM113, hl113, hc113, hr113⟩ := RdS.get (hBu108) (j) (by omega)
   obtain ⟨Ac113, nc113, cc113, Av113, nv113, cv113, rfl, hCe113, hVa113, hnc113, hnv113, bc113, bv113⟩ := e1a.open_ hr113
   have q5 := q3.2.1 en (f0a hxen)
   refine lO (S.k.a hc113) [.x b113 p113,.v 0] rfl ⟨⟨rfl,hl113⟩,⟨hA113,by omega⟩,⟨⟩⟩ (k0a S v8a rfl rfl ?_)
   intro g11 w11 S11 X11 G11
   refine c0a (kk := 0) (vs := [_, _]) S11 c9a rfl rfl rfl rfl rfl rfl rfl ?_
   intro w19_3 S19_3 X19_3
   dsimp only [e0a, List.set] at S19_3
   refine lO S19_3.k [.w 3,.w 0] rfl ⟨⟨rfl,by rfl⟩,⟨rfl,rfl⟩,⟨⟩⟩ (g0a S19_3 R8b rfl rfl (S3b p en M _ _ _ (hI.keep (S19_3.keep0 M)) (e1a.keep (S19_3.keep0 M) _ _ hr113) q5) ?_)
   intro w117 S117 X117
   refine lP0 rfl ⟨by omega,⟨⟩⟩ ⟨μj - 1, by omega, rfl, (j + 1), (by omega), S117.tail, rfl⟩
  refine lP0 rfl ⟨by omega,⟨⟩⟩ ⟨μk - 1, by omega, rfl, (k + 1), (by omega), S.tail, rfl⟩
 exact lT rfl ⟨⟩ rfl ⟨rfl, S.fin⟩
theorem C5c (p : d0a) (c : D0a) (m : Int) (hm : m = 1 ∨ m = 2) (M : List Nat) (w0 : World) (cs xs : List Value) (hI : InP p M w0 cs) (hX : O0a M w0 c xs) (hf : b6a p c) :
 R0a Tryz.prog 136 #[.agg cs.toArray, .int .i64 m, .agg xs.toArray] w0 fun v w' => v = .tuple #[.agg (xs ++ (cs ++ [Value.int .i64 m])).toArray, .bool true] ∧ Below w0.heap.size w0 w' := by
 obtain ⟨_, _, _, _, _, _, _, _, _, _, _, _, rfl, _, _, _, _, _, _, _, _, _, _, _, _⟩ := hI.rd.open_
 obtain ⟨_, _, _, _, _, _, _, _, _, rfl, _, _, _, _, _, _, _, _, _⟩ := hX.open_
 have S := St.refl w0
 refine a0a Tryz.func136 rfl Tryz.ntmps136 rfl ?_
 refine wO0 rfl ⟨⟩ (m0a S (by conv => lhs; whnf) rfl ?_)
 intro g3 w3 S3 X3 G3
 refine m0a S3 (by conv => lhs; whnf) rfl ?_
 intro g5 w5 S5 X5 G5
 refine k0a S5 Q2c rfl rfl ?_
 intro g6 w6 S6 X6 G6
 refine lB0 rfl ⟨⟩ (fun h9 => ?_) fun h9 => ?_
 ·refine lB0 rfl ⟨⟩ (fun h12 => by exfalso; omega) fun h12 => ?_
  refine lO S6.k [.w 2] rfl ⟨⟨rfl,by rfl⟩,⟨⟩⟩ (g0a S6 u0c rfl rfl (e9a p M _ _ (hI.keep (S6.keep0 M))) ?_)
  intro w16 S16 X16
  refine lO S16.k [.w 2,.w 1] rfl ⟨⟨rfl,by rfl⟩,⟨rfl,by rfl⟩,⟨⟩⟩ (g0a S16 Z9b rfl rfl (Y0b p c M _ _ _ (hI.keep (S16.keep0 M)) (hX.keep (S16.keep0 M)) hf) ?_)
  intro w22 S22 X22
  refine lO S22.k [.w 1,.w 2] rfl ⟨⟨rfl,by rfl⟩,⟨rfl,by rfl⟩,⟨⟩⟩ (b1a C8b (vs := [(0, .agg _), (1, .agg _), (2, .int .i64 _)]) (cs := [_, _, _, _, _, _, _, _]) rfl rfl rfl rfl ?_)
  refine c0a (kk := 0) (vs := [_, _, _, _, _, _, _, _]) S22 x8b rfl rfl rfl rfl rfl rfl rfl ?_
  intro w3_4 S3_4 X3_4
  dsimp only [e0a, List.set] at S3_4
  exact lR0 rfl ⟨⟩ (B2a (n := 8) rfl M8a rfl (S3_4.cells 0 rfl) rfl rfl ⟨rfl, S3_4.fin⟩)
 refine lO S6.k [.w 2] rfl ⟨⟨rfl,by rfl⟩,⟨⟩⟩ (g0a S6 u0c rfl rfl (e9a p M _ _ (hI.keep (S6.keep0 M))) ?_)
 intro w16 S16 X16
 refine lO S16.k [.w 2,.w 1] rfl ⟨⟨rfl,by rfl⟩,⟨rfl,by rfl⟩,⟨⟩⟩ (g0a S16 Z9b rfl rfl (Y0b p c M _ _ _ (hI.keep (S16.keep0 M)) (hX.keep (S16.keep0 M)) hf) ?_)
 intro w22 S22 X22
 refine lO S22.k [.w 1,.w 2] rfl ⟨⟨rfl,by rfl⟩,⟨rfl,by rfl⟩,⟨⟩⟩ (b1a C8b (vs := [(0, .agg _), (1, .agg _), (2, .int .i64 _)]) (cs := [_, _, _, _, _, _, _, _]) rfl rfl rfl rfl ?_)
 refine c0a (kk := 0) (vs := [_, _, _, _, _, _, _, _]) S22 x8b rfl rfl rfl rfl rfl rfl rfl ?_
 intro w3_4 S3_4 X3_4
 dsimp only [e0a, List.set] at S3_4
 exact lR0 rfl ⟨⟩ (B2a (n := 8) rfl M8a rfl (S3_4.cells 0 rfl) rfl rfl ⟨rfl, S3_4.fin⟩)
end Go.Proofs.YtjjmdcnmeommbaaGreatDoor
namespace Go.Fw
open Go.RowKit
section
variable {P : Program} {r : Option Nat} {N : Nat} {D : List Deferred} {e : Env} {w w0 : World} {ops : Array Oper} {rest : List Oper} {K : List Deferred → Env → World → Prop} {L : List Ent} {M : List Nat}
variable {d : Nat} {t : TypeId} {p : String} {af : Array Edge} {x y : Operand} {yt : TypeId}
theorem j2c {ty size n c : Nat} {A : Option Addr} (hT : SlT P ty size) (hx : ev e x = .slice A n c) (hy : ev e y = .slice none 0 0) (hd : Nat.ble (d + 1) N = true)
 (h1 : A = none → WL P r N ops rest K D (upd e d (.bool true)) w) (h2 : A.isSome = true → WL P r N ops rest K D (upd e d (.bool false)) w) :
 WL P r N ops (⟨some d, .binOp .eql ty x y yt, t, p, af, none⟩ :: rest) K D e w := by
 obtain ⟨el, hu, _⟩ := T4a hT
 have hr := Lib.run_eql_slice_nil (P := P) w ty el A n c 0 0 hu
 cases A with
 | none => exact c1a rfl rfl hd (by simp) (by simp [execOp, hx, hy, eqGuard, hr]) (h1 rfl)
 | some a => exact c1a rfl rfl hd (by simp) (by simp [execOp, hx, hy, eqGuard, hr]) (h2 rfl)
end
theorem G3a.pad {G : Option Nat} {n : Nat} {cs : List Value} {v : Value} {l : List Int} (h : G3a G 1 n cs v (l.map (Value.int .i64))) (h0 : 0 < l.length) : ∃ g pad, G = some g ∧ v = .slice (some ⟨g, 0, none⟩) l.length (l.length + pad.length) ∧ cs = l.map (Value.int .i64) ++ pad ∧ l.length + pad.length ≤ maxLen := by
 obtain ⟨h1, h2⟩ := h
 simp only [List.length_map, Nat.mul_one] at h1
 rcases h2 with ⟨_, _, h2⟩ | ⟨g, cap, rfl, rfl, h3, h4, h5, h6⟩
 ·omega
 ·simp only [Nat.mul_one] at h5 h6
  refine ⟨g, cs.drop n, rfl, ?_, ?_, ?_⟩
  ·rw [List.length_drop, h5, h1]; congr 1; omega
  ·rw [← h6, List.take_append_drop]
  ·rw [List.length_drop, h5, h1]; omega
theorem G3a.ofPad {g : Nat} {l : List Int} {pad : List Value} (h : l.length + pad.length ≤ maxLen) : G3a (some g) 1 l.length (l.map (Value.int .i64) ++ pad) (.slice (some ⟨g, 0, none⟩) l.length (l.length + pad.length)) (l.map (Value.int .i64)) :=
 ⟨by simp, .inr ⟨g, _, rfl, rfl, by omega, h, by simp, by simp⟩⟩
def S4a (mem : List Int) (e : I0a) (k : Nat) : List Int := ((e.cells.zip e.values).take k).foldl (fun m x => m.set x.1.toNat x.2) mem
theorem f3b (mem : List Int) (e : I0a) : S4a mem e 0 = mem := by simp [S4a]
theorem X4b (mem : List Int) (e : I0a) {k : Nat} (h : e.cells.length ≤ k) : S4a mem e k = P3a mem e := by
 unfold S4a P3a; rw [List.take_of_length_le (by rw [List.length_zip]; omega)]
theorem a4b {mem : List Int} {e : I0a} {k : Nat} {x y : Int} (hx : e.cells[k]? = some x) (hy : e.values[k]? = some y) : S4a mem e (k + 1) = (S4a mem e k).set x.toNat y := by
 unfold S4a
 rw [h1a (x := (x, y)) (by rw [List.getElem?_zip_eq_some]; exact ⟨hx, hy⟩), List.foldl_append]; rfl
theorem H6a : ∀ (l : List (Int × Int)) (mem : List Int), (l.foldl (fun m x => m.set x.1.toNat x.2) mem).length = mem.length
 | [], _ => rfl
 | x :: l, mem => by rw [List.foldl_cons, H6a l, List.length_set]
@[simp] theorem O5c (mem : List Int) (e : I0a) (k : Nat) : (S4a mem e k).length = mem.length := H6a _ _
@[simp] theorem t7b (mem : List Int) (e : I0a) : (P3a mem e).length = mem.length := H6a _ _
theorem e8a {l : List Int} {pad : List Value} {i : Nat} {y : Int} (hi : i < l.length) : (l.map (Value.int .i64) ++ pad).set i (.int .i64 y) = (l.set i y).map (Value.int .i64) ++ pad := by
 rw [List.set_append_left _ _ (by simpa using hi), List.map_set]
def g5a (c : D0a) (b : List I0a) (k : Nat) : List Int := (b.take k).foldl P3a c.mem
theorem f5b {c : D0a} {b : List I0a} {k : Nat} {e : I0a} (h : b[k]? = some e) : g5a c b (k + 1) = P3a (g5a c b k) e := by
 unfold g5a; rw [h1a h, List.foldl_append]; rfl
theorem C0b {c : D0a} {t : Nat} {b : List I0a} (h : c.buf[t]? = some b) {k : Nat} (hk : b.length ≤ k) : g5a c b k = E1a c t := by
 unfold g5a E1a; rw [List.take_of_length_le hk, getD_some h]
theorem Y2b : ∀ (l : List I0a) (m : List Int), (l.foldl P3a m).length = m.length
 | [], _ => rfl
 | x :: l, m => by rw [List.foldl_cons, Y2b l, t7b]
@[simp] theorem S6c (c : D0a) (b : List I0a) (k : Nat) : (g5a c b k).length = c.mem.length := Y2b _ _
theorem p8b {p : d0a} {c : D0a} (hf : b6a p c) {b : List I0a} (hb : ∀ e ∈ b, w0b p e) (k : Nat) : X4a p (g5a c b k) := by
 unfold g5a
 have key : ∀ (l : List I0a) (m : List Int), X4a p m → (∀ e ∈ l, w0b p e) → X4a p (l.foldl P3a m) := by
  intro l
  induction l with
  | nil => intro m h _; exact h
  | cons e l ih => intro m h hl; rw [List.foldl_cons]; exact ih _ (h.write (hl e (by simp))) fun x hx => hl x (by simp [hx])
 exact key _ _ hf.mem fun e he => hb e (List.mem_of_mem_take he)
end Go.Fw
namespace Go.Proofs.YtjjmdcnmeommbaaGreatDoor
open Go.Fw Go.RowKit
theorem L6a (M : List Nat) (w0 : World) (v : Value) (l : List Int) (hR : RdI M w0 v l) (hl : l.length ≤ 100000000) :
 R0a Tryz.prog 179 #[v] w0 fun v w' => a3b 3 w0 w' v l ∧ Below w0.heap.size w0 w' := by
 obtain ⟨_, n, _, rfl⟩ := hR.form
 obtain ⟨_, _, _⟩ := hR.len
 have S := St.refl w0
 refine a0a Tryz.func179 rfl Tryz.ntmps179 rfl ?_
 refine wOn 9 S.k [] rfl ⟨⟩ (j2c W0a.slT rfl rfl rfl (fun h4 => ?_) fun h4 => ?_)
 ·refine lR0 rfl ⟨⟩ (o0a rfl (by conv => lhs; whnf) ?_)
  subst h4; obtain ⟨A', n', c', he, h1, h2, h3, h5, h6⟩ := hR; cases he
  have h0 : l.length = 0 := by
   rcases Nat.eq_zero_or_pos n with h | h
   ·omega
   ·obtain ⟨_, _, h7, _⟩ := h6 h; cases h7
  obtain rfl := List.length_eq_zero_iff.1 h0
  exact ⟨⟨none, [], G3a.nil 1, fun g hg => by cases hg⟩, S.fin⟩
 refine lO0 rfl ⟨⟩ (a6a S W0a rfl ?_)
 intro g5 w5 S5 X5 G5
 refine lO0 rfl ⟨⟩ (M5a (k := 0) (xs := []) S5 W0a rfl G3a.new rfl rfl (hR.keep (S5.keep0 M)) (by simpa using hl) (by decide) rfl ?_)
 intro v7 G7 cs7 w7 S7 R7 X7
 refine X0a (by conv => lhs; whnf) rfl ?_
 refine lR0 rfl ⟨⟩ (o0a rfl (by conv => lhs; whnf) ?_)
 refine ⟨⟨G7, cs7, by simpa using R7, fun g hg => ?_⟩, S7.fin⟩; subst hg; exact ⟨by simpa using S7.new 0 rfl, S7.blk 0 rfl⟩
theorem e6b (en : I0a) (mem : List Int) (g cap : Nat) (pad : List Value) (M : List Nat) (w0 : World) (es : List Value) (hE : e1a M w0 es en) (hgM : g ∈ M) (hB : t0a w0 (g, 3, mem.map (Value.int .i64) ++ pad)) (hev : en.even) (hin : ∀ x ∈ en.cells, 0 ≤ x ∧ x < mem.length) :
 R0a Tryz.prog 177 #[.slice (some ⟨g, 0, none⟩) mem.length cap, .agg es.toArray] w0 fun _ w' => t0a w' (g, 3, (P3a mem en).map (Value.int .i64) ++ pad) ∧ L0a [g] w0 w' := by
 obtain ⟨Ec, ec, fc, Ev, ev', fv, rfl, hCe, hVa, _, _, _, _⟩ := hE.open_
 have S := St.borrow1 hB
 have hsub : ∀ x ∈ [g], x ∈ M := fun x hx => by rw [List.mem_singleton] at hx; subst hx; exact hgM
 have hev : en.values.length = en.cells.length := hev
 refine a0a Tryz.func177 rfl Tryz.ntmps177 rfl ?_
 refine wO0 rfl ⟨⟩ (m0a S (by conv => lhs; whnf) rfl ?_)
 intro g3 w3 S3 X3 G3
 refine lC S3.k [.o 0] rfl ⟨rfl,⟨⟩⟩ (wL (fun μk D ε w => D = [] ∧ ∃ k : Nat, (k + μk = (en.cells.length)) ∧ St [g] w0 w [(some g3, 121, [.slice Ec ec fc, .slice Ev ev' fv]), (some g, 3, (S4a mem en k).map (Value.int .i64) ++ pad)] ∧ Sl ε [(0, .slice (some ⟨g, 0, none⟩) mem.length cap), (3, .pointer (some ⟨g3, 0, none⟩)), (7, .slice Ec ec fc), (8, .int .i64 ec), (9, .int .i64 k)]) (μ := (en.cells.length)) ⟨rfl, 0, by omega, (S3.setEnt 1 rfl (by rw [f3b])), rfl⟩ ?_)
 rintro μk D ε w ⟨rfl, k, _, S, eZ⟩
 refine wK eZ (wB0 rfl ⟨⟩ (fun h10 => ?_) fun h10 => ?_)
 ·obtain ⟨x, b12, p12, _, hxx, hA12, hM12, _, hc12, hr12⟩ := RdS.get (hCe) (k) (by omega)
  obtain ⟨rfl, _⟩ := id hr12
  have q1 := hin x (f0a hxx)
  obtain ⟨_, b19, p19, _, hxy, hA19, hM19, _, hc19, hr19⟩ := RdS.get (hVa) (k) (by omega)
  obtain ⟨rfl, _⟩ := id hr19
  refine lO ((S.k.b (hc19.keep (S.keepM.mono hsub) hM19)).b (hc12.keep (S.keepM.mono hsub) hM12)) [.x b12 p12,.f 0 0,.o 0,.x b19 p19,.f 1 0,.i] rfl ⟨by omega,rfl,⟨hA19,by omega⟩,rfl,rfl,⟨hA12,by omega⟩,⟨⟩⟩ ?_
  first | refine w0a (kk := 1) S S8a rfl (by conv => lhs; whnf) rfl rfl (by (simp; omega)) ?_
  intro w4_8 S4_8 X4_8
  refine lP0 rfl ⟨by omega,⟨⟩⟩ ?_
  refine ⟨μk - 1, by omega, rfl, (k + 1), (by omega), (S4_8.setEnt 1 rfl (by rw [a4b hxx hxy]; simp only [Nat.zero_add, Nat.mul_one]; exact e8a (by simp; omega))), rfl⟩
 refine lF0 rfl ⟨⟩ (S1a rfl ?_)
 have SF := S.setEnt 1 rfl (show _ = (P3a mem en).map (Value.int .i64) ++ pad by rw [X4b _ _ (by omega)])
 exact ⟨SF.blk 1 rfl, SF.below⟩
end Go.Proofs.YtjjmdcnmeommbaaGreatDoor
namespace Go.Fw
open Go.RowKit
theorem V1b {o e : I0a} : b4b o e = true ↔ ∃ c ∈ e.cells, c ∈ o.cells := by
 unfold b4b
 rw [List.any_eq_true]
 constructor
 ·rintro ⟨x, h1, h2⟩; exact ⟨x, by simpa using h2, h1⟩
 ·rintro ⟨x, h1, h2⟩; exact ⟨x, h2, by simpa using h1⟩
theorem H3c {o e : I0a} (h : ∀ c ∈ e.cells, c ∉ o.cells) : b4b o e = false := by
 cases hm : b4b o e with
 | false => rfl
 | true => obtain ⟨c, h1, h2⟩ := V1b.1 hm; exact absurd h2 (h c h1)
section
variable {p : d0a} {m : Int} {c : D0a} {t : Nat} {s : m1a} {a : Int} {b : List I0a} {nb : Nat}
theorem c5c (hx : c.at_[t]? = some a) (h1 : ¬ a = s.frm) : N0a p m c t s = false := by unfold N0a; rw [getD_some hx]; simp [h1]
theorem G2c (h2 : ¬ s.guard.evl (E1a c t) (E1a c t) = 1) : N0a p m c t s = false := by unfold N0a; simp [h2]
theorem Z9c (hm : ¬ m = 0) (hx : c.at_[t]? = some a) (h1 : a = s.frm) (h2 : s.guard.evl (E1a c t) (E1a c t) = 1) (hb : c.buf[t]? = some b) (hn : nb = b.length) (hk : s.kind = 3) (hr : s.release = false) : N0a p m c t s = decide ((nb : Int) < 3) := by
 unfold N0a; rw [getD_some hx, getD_some hb]; subst hn; simp [h1, h2, hk, hr, hm]; omega
theorem L8c (hm : ¬ m = 0) (hx : c.at_[t]? = some a) (h1 : a = s.frm) (h2 : s.guard.evl (E1a c t) (E1a c t) = 1) (hb : c.buf[t]? = some b) (hn : nb = b.length) (hk : s.kind = 3) (hr : s.release = true) : N0a p m c t s = decide ((nb : Int) = 0) := by
 unfold N0a; rw [getD_some hx, getD_some hb]; subst hn
 cases b <;> simp [h1, h2, hk, hr, hm]
 omega
theorem M0c (hx : c.at_[t]? = some a) (h1 : a = s.frm) (h2 : s.guard.evl (E1a c t) (E1a c t) = 1) (hb : c.buf[t]? = some b) (hn : nb = b.length) (hk : s.kind = 4 ∨ s.kind = 5) : N0a p m c t s = decide ((nb : Int) = 0) := by
 unfold N0a; rw [getD_some hx, getD_some hb]; subst hn
 rw [if_neg (by omega), if_neg (by omega), if_neg (by omega), if_neg (by omega)]
 cases b <;> simp [h1, h2]
 omega
theorem Y9c (hx : c.at_[t]? = some a) (h1 : a = s.frm) (h2 : s.guard.evl (E1a c t) (E1a c t) = 1) (hb : c.buf[t]? = some b) (hn : nb = b.length) (hk : s.kind = 6) {a2 : Int} (hx2 : c.at_[s.target.toNat]? = some a2) : N0a p m c t s = (decide ((nb : Int) = 0) && decide (a2 = -1)) := by
 unfold N0a; rw [getD_some hx, getD_some hb, getD_some hx2]; subst hn
 cases b <;> simp [h1, h2, hk]
 omega
theorem J8c (hb : c.buf[t]? = some b) (hn : nb = b.length) (hk : s.kind = 6 ∨ s.kind = 7) (h0 : ¬ (nb : Int) = 0) : N0a p m c t s = false := by
 unfold N0a; rw [getD_some hb]; subst hn
 cases b with
 | nil => simp at h0
 | cons e b => rcases hk with hk | hk <;> simp [hk]
theorem b0d (hx : c.at_[t]? = some a) (h1 : a = s.frm) (h2 : s.guard.evl (E1a c t) (E1a c t) = 1) (hb : c.buf[t]? = some b) (hn : nb = b.length) (hk : s.kind = 7) {a2 : Int} (hx2 : c.at_[s.target.toNat]? = some a2) {u : J0a} (hu : p.threads[s.target.toNat]? = some u) {b2 : List I0a} {nb2 : Nat} (hb2 : c.buf[s.target.toNat]? = some b2) (hn2 : nb2 = b2.length) : N0a p m c t s = (decide ((nb : Int) = 0) && (decide (a2 = u.points - 1) && decide ((nb2 : Int) = 0))) := by
 unfold N0a; rw [getD_some hx, getD_some hb, getD_some hx2, getD_some hu, getD_some hb2]; subst hn; subst hn2
 cases b with
 | nil => cases b2 with
   | nil => simp [h1, h2, hk]
   | cons e b2 => simp [h1, h2, hk]; omega
 | cons e b => simp [h1, h2, hk]; omega
theorem F9c (hk : s.kind = 7) {a2 : Int} (hx2 : c.at_[s.target.toNat]? = some a2) {u : J0a} (hu : p.threads[s.target.toNat]? = some u) (h0 : ¬ a2 = u.points - 1) : N0a p m c t s = false := by
 unfold N0a; rw [getD_some hx2, getD_some hu]; simp [hk, h0]
theorem I9c (hx : c.at_[t]? = some a) (h1 : a = s.frm) (h2 : s.guard.evl (E1a c t) (E1a c t) = 1) (hk : s.kind = 1 ∨ s.kind = 2) : N0a p m c t s = true := by
 unfold N0a; rw [getD_some hx]
 rw [if_neg (by omega), if_neg (by omega), if_neg (by omega), if_pos hk]
 simp [h1, h2]
end
theorem w0b.i64s {p : d0a} {e : I0a} (h : w0b p e) : ∀ x ∈ e.cells, 0 ≤ x ∧ x < p.cells.length := fun x hx => by
 obtain ⟨i, hi, rfl⟩ := List.getElem_of_mem hx
 exact (h.cells i _ (List.getElem?_eq_getElem hi)).1
end Go.Fw
namespace Go.Proofs.YtjjmdcnmeommbaaGreatDoor
open Go.Fw Go.RowKit
theorem p5c (p : d0a) (hp : T0a p) (c : D0a) (t : Nat) (b : List I0a) (M : List Nat) (w0 : World) (hM : ∀ g ∈ M, g < w0.heap.size) (xs : List Value) (hX : O0a M w0 c xs) (hf : b6a p c) (hxb : c.buf[t]? = some b) :
 R0a Tryz.prog 139 #[.agg xs.toArray, .int .i64 t] w0 fun v w' => RdI M w' v (E1a c t) ∧ Below w0.heap.size w0 w' := by
 obtain ⟨Xm, xm, ym, Xa, xa, ya, Xb, xb, yb, rfl, hMem, _, hBuf, _, _, _, _, _, _⟩ := hX.open_
 have S := St.refl w0
 have f1 := hf.mem.len
 have n1 := hp.ncells
 have n2 := hp.nthreads
 have f3 := hf.nbuf
 have ht := D1a hxb
 have hbo := (hf.bufs t b hxb).2.1
 refine a0a Tryz.func139 rfl Tryz.ntmps139 rfl ?_
 refine wO0 rfl ⟨⟩ (m0a S (by conv => lhs; whnf) rfl ?_)
 intro g2 w2 S2 X2 G2
 refine lO S2.k [.o 0] rfl ⟨rfl,⟨⟩⟩ (F0a S2 S9a rfl rfl (L6a M _ _ c.mem (hMem.keep (S2.keep0 M)) (by omega)) ?_)
 rintro v10 w10 hN S10 X10
 obtain ⟨G10, cs10, R10, S10b⟩ := hN.open_ S10 S2
 refine X0a (by conv => lhs; whnf) rfl ?_
 obtain ⟨_, b14, p14, _, hx14, hA14, _, _, hc14, hr14⟩ := RdS.get (hBuf) (t) (by omega)
 obtain rfl := Option.some.inj (hxb.symm.trans hx14)
 obtain ⟨Ab14, nb14, cb14, rfl, hBu14, _, _⟩ := b7a.open_ hr14
 refine lC (S10b.k.a hc14) [.o 1,.x b14 p14,.f 0 0] rfl ⟨rfl,⟨hA14,by omega⟩,rfl,⟨⟩⟩ (wL (fun μk D ε w => D = [] ∧ ∃ k : Nat, ∃ G : Option Nat, ∃ cs' : List Value, (k + μk = (b.length)) ∧ (G3a G 1 c.mem.length cs' v10 ((g5a c b k).map (Value.int .i64))) ∧ St [] w0 w [(G, 3, cs'), (some g2, 52, [.slice Xm xm ym, .slice Xa xa ya, .slice Xb xb yb])] ∧ Sl ε [(5, v10), (15, .slice Ab14 nb14 cb14), (16, .int .i64 nb14), (17, .int .i64 k)]) (μ := (b.length)) ⟨rfl, 0, G10, cs10, by omega, by simpa [g5a] using R10, S10b, rfl⟩ ?_)
 rintro μk D ε w ⟨rfl, k, G, cs', _, hrow, S, eZ⟩
 refine wK eZ (wB0 rfl ⟨⟩ (fun h18 => ?_) fun h18 => ?_)
 ·obtain ⟨en, b19, p19, _, hxen, hA19, _, hl19, hc19, hr19⟩ := RdS.get (hBu14) (k) (by omega)
  obtain ⟨_, _, _, _, _, _, rfl, _, _, _, _, _, _⟩ := e1a.open_ hr19
  have q1 := hbo en (f0a hxen)
  have q2 := q1.i64s
  have q3 : 0 < c.mem.length := by
   have := q1.some_
   cases hcl : en.cells with
   | nil => exact absurd hcl this
   | cons x l => have := q2 x (by rw [hcl]; simp); omega
  refine lO (S.k.a hc19) [.x b19 p19,.v 0] rfl ⟨⟨rfl,hl19⟩,⟨hA19,by omega⟩,⟨⟩⟩ (k0a S v8a rfl rfl ?_)
  intro g7 w7 S7 X7 G7
  refine c0a (kk := 0) (vs := [_, _]) S7 c9a rfl rfl rfl rfl rfl rfl rfl ?_
  intro w4_3 S4_3 X4_3
  dsimp only [e0a, List.set] at S4_3
  refine lOn 3 S4_3.k [] rfl ⟨⟩ (u1a (by conv => lhs; whnf) rfl ?_)
  refine lO S4_3.k [.w 0] rfl ⟨⟨rfl,by rfl⟩,⟨⟩⟩ ?_
  obtain ⟨g, pad, rfl, hv, rfl, hmx⟩ := hrow.pad (by simpa using q3)
  subst hv
  refine q3a q0c rfl rfl (e6b en (g5a c b k) g _ pad (g :: M) _ _ (e1a.keep (S4_3.keep0 _) _ _ (e1a.more (E2b S4_3 (k := 1) rfl) _ _ hr19)) (by simp) (S4_3.blk 1 rfl) q1.even (fun x hx => by have := q2 x hx; simp; omega)) ?_
  rintro v23 w23 ⟨hb23, B23⟩
  have S23 := S4_3.changed1 1 rfl B23 hb23
  refine lP0 rfl ⟨by omega,⟨⟩⟩ ?_
  refine ⟨μk - 1, by omega, rfl, (k + 1), (some g), (_), (by omega), (by rw [f5b hxen]; have := G3a.ofPad (g := g) (l := P3a (g5a c b k) en) (pad := pad) (by simpa using hmx); simpa using this), S23.tail, rfl⟩
 refine lOn 8 S.k [] rfl ⟨⟩ (u1a (by conv => lhs; whnf) rfl ?_)
 refine X0a (by conv => lhs; whnf) rfl ?_
 refine lR0 rfl ⟨⟩ (o0a rfl (by conv => lhs; whnf) ?_)
 obtain rfl : k = b.length := by omega
 rw [C0b hxb (Nat.le_refl _)] at hrow
 have hok := p8b hf hbo b.length
 rw [C0b hxb (Nat.le_refl _)] at hok
 exact ⟨hrow.rdI S (k := 0) rfl hM (Q4a hp hok) (by have := hok.len; omega), S.fin⟩
theorem f7b (old : List I0a) (en : I0a) (M : List Nat) (w0 : World) (v : Value) (es : List Value) (hO : U6c M w0 v old) (hE : e1a M w0 es en) :
 R0a Tryz.prog 175 #[v, .agg es.toArray] w0 fun v w' => v = .bool (old.any fun o => b4b o en) ∧ Below w0.heap.size w0 w' := by
 obtain ⟨A, n, cc, rfl⟩ := hO.form
 obtain ⟨_, _, _⟩ := hO.len
 obtain ⟨Ec, ec, fc, Ev, ev', fv, rfl, hCe, _, _, _, _, _⟩ := hE.open_
 have S := St.refl w0
 refine a0a Tryz.func175 rfl Tryz.ntmps175 rfl ?_
 refine wO0 rfl ⟨⟩ (m0a S (by conv => lhs; whnf) rfl ?_)
 intro g3 w3 S3 X3 G3
 refine lC0 rfl ⟨⟩ (wL (fun μk D ε w => D = [] ∧ ∃ k : Nat, (k + μk = (old.length)) ∧ (n1a (old) k (fun o => b4b o en = false)) ∧ St [] w0 w [(some g3, 121, [.slice Ec ec fc, .slice Ev ev' fv])] ∧ Sl ε [(3, .pointer (some ⟨g3, 0, none⟩)), (9, .slice A n cc), (10, .int .i64 n), (11, .int .i64 k)]) (μ := (old.length)) ⟨rfl, 0, by omega, n1a.zero, S3, rfl⟩ ?_)
 rintro μk D ε w ⟨rfl, k, _, ha, S, eZ⟩
 refine wK eZ (wB0 rfl ⟨⟩ (fun h12 => ?_) fun h12 => ?_)
 ·obtain ⟨o, b13, p13, _, hxo, hA13, _, hl13, hc13, hr13⟩ := RdS.get (hO) (k) (by omega)
  obtain ⟨Ac13, nc13, cc13, Av13, nv13, cv13, rfl, hCe13, _, _, _, _, _⟩ := e1a.open_ hr13
  refine lO (S.k.a hc13) [.x b13 p13,.v 0] rfl ⟨⟨rfl,hl13⟩,⟨hA13,by omega⟩,⟨⟩⟩ (k0a S v8a rfl rfl ?_)
  intro g6 w6 S6 X6 G6
  refine c0a (kk := 0) (vs := [_, _]) S6 c9a rfl rfl rfl rfl rfl rfl rfl ?_
  intro w3_3 S3_3 X3_3
  dsimp only [e0a, List.set] at S3_3
  refine lC S3_3.k [.o 1] rfl ⟨rfl,⟨⟩⟩ (wL (fun μj D ε w => D = [] ∧ ∃ j : Nat, (j + μj = (en.cells.length)) ∧ (n1a (en.cells) j (fun x => x ∉ o.cells)) ∧ St [] w0 w [(some g6, 121, [.slice Ac13 nc13 cc13, .slice Av13 nv13 cv13]), (some g3, 121, [.slice Ec ec fc, .slice Ev ev' fv])] ∧ Sl ε [(3, .pointer (some ⟨g3, 0, none⟩)), (6, .pointer (some ⟨g6, 0, none⟩)), (9, .slice A n cc), (10, .int .i64 n), (11, .int .i64 k), (16, .slice Ec ec fc), (17, .int .i64 ec), (18, .int .i64 j)]) (μ := (en.cells.length)) ⟨rfl, 0, by omega, n1a.zero, S3_3, rfl⟩ ?_)
  rintro μj D ε w ⟨rfl, j, _, hj2, S, eZ⟩
  refine wK eZ (wB0 rfl ⟨⟩ (fun h19 => ?_) fun h19 => ?_)
  ·obtain ⟨x, b20, p20, _, hxx, hA20, _, _, hc20, hr20⟩ := RdS.get (hCe) (j) (by omega)
   obtain ⟨rfl, _⟩ := id hr20
   refine lO (S.k.a hc20) [.x b20 p20,.f 0 0,.o 0] rfl ⟨rfl,rfl,⟨hA20,by omega⟩,⟨⟩⟩ (r0a S S4b rfl rfl (L5a M _ _ o.cells x (hCe13.keep (S.keep0 M))) (fun h25 w25 S25 X25 => ?_) (fun h25 w25 S25 X25 => ?_))
   ·exact lT rfl ⟨⟩ rfl ⟨congrArg Value.bool (Eq.symm (List.any_eq_true.2 ⟨o, f0a hxo, V1b.2 ⟨x, f0a hxx, of_decide_eq_true h25⟩⟩)), S25.fin⟩
   refine lP0 rfl ⟨by omega,⟨⟩⟩ ⟨μj - 1, by omega, rfl, (j + 1), (by omega), (hj2.succ hxx (of_decide_eq_false h25)), S25, rfl⟩
  refine lP0 rfl ⟨by omega,⟨⟩⟩ ⟨μk - 1, by omega, rfl, (k + 1), (by omega), (ha.succ hxo (H3c (hj2.all (by omega)))), S.tail, rfl⟩
 refine lT rfl ⟨⟩ rfl ?_
 refine ⟨congrArg Value.bool ?_, S.fin⟩; symm; rw [List.any_eq_false]; intro o ho; rw [ha.all (by omega) o ho]; simp
theorem I1b (p : d0a) (c : D0a) (m : Int) (hm : m = 1 ∨ m = 2) (t i : Nat) (th : J0a) (s : m1a) (M : List Nat) (w0 : World) (cs xs : List Value) (vs : Value) (hI : InP p M w0 cs) (hX : O0a M w0 c xs) (hV : RdI M w0 vs (E1a c t)) (hf : b6a p c) (hxth : p.threads[t]? = some th) (hxs : th.steps[i]? = some s) :
 R0a Tryz.prog 140 #[.agg (xs ++ (cs ++ [Value.int .i64 m])).toArray, .int .i64 t, .int .i64 i, vs] w0 fun v w' => v = .bool (N0a p m c t s) ∧ Below w0.heap.size w0 w' := by
 obtain ⟨_, _, _, _, _, _, _, _, _, _, _, _, rfl, _, _, _, hTh, _, _, _, _, _, _, _, _⟩ := hI.rd.open_
 obtain ⟨_, _, _, _, _, _, _, _, _, rfl, _, hAt, hBuf, _, hxa, _, _, b2, _⟩ := hX.open_
 obtain ⟨_, _, _, rfl⟩ := hV.form
 have S := St.refl w0
 have f2 := hf.nat
 have f3 := hf.nbuf
 have hp := hI.ok
 have ht := D1a hxth
 have hi := D1a hxs
 have hto := hp.thread hxth
 have hso := hto.steps s (f0a hxs)
 have hkd := hso.kind
 have hk6 : 6 ≤ s.kind → 0 ≤ s.target ∧ s.target < p.threads.length := fun h => (hso.row.k6 h).1
 have hrel := hso.rel
 have hm0 : ¬ m = 0 := by omega
 refine a0a Tryz.func140 rfl Tryz.ntmps140 rfl ?_
 refine wO0 rfl ⟨⟩ (m0a S (by conv => lhs; whnf) rfl ?_)
 intro g4 w4 S4 X4 G4
 obtain ⟨_, b16, p16, _, hx16, hA16, _, _, hc16, hr16⟩ := RdS.get (hTh) (t) (by omega)
 obtain rfl := Option.some.inj (hxth.symm.trans hx16)
 obtain ⟨_, _, _, _, _, _, _, _, _, _, _, _, rfl, _, _, _, hSt16, _, _, _, _, _, _, _, _, _⟩ := v0a.open_ hr16
 obtain ⟨_, b20, p20, _, hx20, hA20, _, hl20, hc20, hr20⟩ := RdS.get (hSt16) (i) (by omega)
 obtain rfl := Option.some.inj (hxs.symm.trans hx20)
 obtain ⟨_, _, _, _, _, _, rfl, ⟨_, _, _, _, _⟩, hG20, _, _, _⟩ := A1a.open_ hr20
 refine lO ((S4.k.a hc20).a hc16) [.o 0,.x b16 p16,.f 0 4,.x b20 p20,.v 1] rfl ⟨⟨rfl,hl20⟩,⟨hA20,by omega⟩,rfl,⟨hA16,by omega⟩,rfl,⟨⟩⟩ (k0a S4 k3b rfl rfl ?_)
 intro g9 w9 S9 X9 G9
 refine c0a (kk := 0) (vs := [_, _, _, _, _, _, _, _, _, _, _]) S9 L3b rfl rfl rfl rfl rfl rfl rfl ?_
 intro w1_11 S1_11 X1_11
 dsimp only [e0a, List.set] at S1_11
 refine lC0 rfl ⟨⟩ (x0a b0a [0, 1, 2, 3, 4, 5, 6, 7, 8, 9, 10, 11, 12, 13, 14, 15, 16] [] [] (by kernel_rfl) rfl (Cl _ _ _ _) (Cl.start S1_11) ?_)
 obtain ⟨a, b26, p26, _, hxa, hA26, _, _, hc26, hr26⟩ := RdS.get (hAt) (t) (by omega)
 obtain ⟨rfl, _⟩ := id hr26
 refine qB (S1_11.q.a hc26) [.o 1,.x b26 p26,.f 0 0,.o 0] rfl ⟨rfl,rfl,⟨hA26,by omega⟩,rfl,⟨⟩⟩ (fun h30 => ?_) fun h30 => ?_
 ·refine qD rfl ⟨⟩ ?_
  rintro wR2 ⟨SR2, XR2⟩
  refine lT rfl ⟨⟩ rfl ⟨congrArg Value.bool ?_, SR2.fin⟩
  rw [c5c hxa h30]; done
 refine qO S1_11.q [.o 0] rfl ⟨rfl,⟨⟩⟩ (K1a f0b rfl rfl (fun w1 S1 X1 => J6a s.guard M _ _ _ _ (E1a c t) (E1a c t) (RdE.keep (S1.keep0 M) _ _ hG20) (hI.keep (S1.keep0 M)).msk (hV.keep (S1.keep0 M)) (hV.keep (S1.keep0 M))) ?_)
 refine qB0 rfl ⟨⟩ (fun h37 => ?_) fun h37 => ?_
 ·refine qD rfl ⟨⟩ ?_
  rintro wR2 ⟨SR2, XR2⟩
  refine lT rfl ⟨⟩ rfl ⟨congrArg Value.bool ?_, SR2.fin⟩
  rw [G2c h37]; done
 refine qD rfl ⟨⟩ ?_
 rintro wR2 ⟨SR2, XR2⟩
 obtain ⟨b, b43, p43, _, hxb, hA43, _, _, hc43, hr43⟩ := RdS.get (hBuf) (t) (by omega)
 obtain ⟨_, _, _, rfl, _, hnb43, _⟩ := b7a.open_ hr43
 have q3 := (hf.bufs t b hxb).1
 refine lB (SR2.k.a hc43) [.o 1,.x b43 p43,.f 0 0,.o 0] rfl ⟨rfl,rfl,⟨hA43,by omega⟩,rfl,⟨⟩⟩ (fun h49 => ?_) fun h49 => ?_
 ·refine lO0 rfl ⟨⟩ ?_
  cases hb58 : s.release
  ·refine u0a v2a rfl (by exact (SR2.cell 0 rfl rfl).trans (congrArg (fun b => some (Value.bool b)) hb58)) rfl ?_
   refine lB0 rfl ⟨⟩ (fun h61 => ?_) fun h61 => ?_
   ·refine lT rfl ⟨⟩ rfl ⟨congrArg Value.bool ?_, SR2.fin⟩
    rw [Z9c hm0 hxa h30 h37 hxb hnb43 h49 hb58]; exact (decide_eq_true h61).symm
   refine lT rfl ⟨⟩ rfl ⟨congrArg Value.bool ?_, SR2.fin⟩
   rw [Z9c hm0 hxa h30 h37 hxb hnb43 h49 hb58]; exact (decide_eq_false (Int.not_lt.2 h61)).symm
  refine u0a v2a rfl (by exact (SR2.cell 0 rfl rfl).trans (congrArg (fun b => some (Value.bool b)) hb58)) rfl ?_
  refine lB0 rfl ⟨⟩ (fun h63 => ?_) fun h63 => ?_
  ·refine lT rfl ⟨⟩ rfl ⟨congrArg Value.bool ?_, SR2.fin⟩
   rw [L8c hm0 hxa h30 h37 hxb hnb43 h49 hb58]; exact (decide_eq_true h63).symm
  refine lT rfl ⟨⟩ rfl ⟨congrArg Value.bool ?_, SR2.fin⟩
  rw [L8c hm0 hxa h30 h37 hxb hnb43 h49 hb58]; exact (decide_eq_false h63).symm
 refine lB0 rfl ⟨⟩ (fun h51 => ?_) fun h51 => ?_
 ·refine lB0 rfl ⟨⟩ (fun h63 => ?_) fun h63 => ?_
  ·refine lT rfl ⟨⟩ rfl ⟨congrArg Value.bool ?_, SR2.fin⟩
   rw [M0c hxa h30 h37 hxb hnb43 (.inl h51)]; exact (decide_eq_true h63).symm
  refine lT rfl ⟨⟩ rfl ⟨congrArg Value.bool ?_, SR2.fin⟩
  rw [M0c hxa h30 h37 hxb hnb43 (.inl h51)]; exact (decide_eq_false h63).symm
 refine lB0 rfl ⟨⟩ (fun h52 => ?_) fun h52 => ?_
 ·refine lB0 rfl ⟨⟩ (fun h63 => ?_) fun h63 => ?_
  ·refine lT rfl ⟨⟩ rfl ⟨congrArg Value.bool ?_, SR2.fin⟩
   rw [M0c hxa h30 h37 hxb hnb43 (.inr h52)]; exact (decide_eq_true h63).symm
  refine lT rfl ⟨⟩ rfl ⟨congrArg Value.bool ?_, SR2.fin⟩
  rw [M0c hxa h30 h37 hxb hnb43 (.inr h52)]; exact (decide_eq_false h63).symm
 refine lB0 rfl ⟨⟩ (fun h54 => ?_) fun h54 => ?_
 ·refine lB0 rfl ⟨⟩ (fun h65 => ?_) fun h65 => ?_
  ·have q6 := hk6 (by omega)
   obtain ⟨a2, b72, p72, _, hxa2, hA72, _, _, hc72, hr72⟩ := RdS.get (hAt) (s.target.toNat) (by omega)
   obtain ⟨rfl, _⟩ := id hr72
   refine lB (SR2.k.a hc72) [.o 1,.o 0,.x b72 p72,.f 0 0] rfl ⟨rfl,⟨hA72,by omega⟩,rfl,rfl,⟨⟩⟩ (fun h74 => ?_) fun h74 => ?_
   ·refine lT rfl ⟨⟩ rfl ⟨congrArg Value.bool ?_, SR2.fin⟩
    rw [Y9c hxa h30 h37 hxb hnb43 h54 hxa2]; rw [decide_eq_true h65]; (rw [decide_eq_true h74]; rfl)
   refine lT rfl ⟨⟩ rfl ⟨congrArg Value.bool ?_, SR2.fin⟩
   rw [Y9c hxa h30 h37 hxb hnb43 h54 hxa2]; rw [decide_eq_true h65]; (rw [decide_eq_false h74]; rfl)
  refine lT rfl ⟨⟩ rfl ⟨congrArg Value.bool ?_, SR2.fin⟩
  rw [J8c hxb hnb43 (.inl h54) h65]; done
 refine lB0 rfl ⟨⟩ (fun h56 => ?_) fun h56 => ?_
 ·have q6 := hk6 (by omega)
  obtain ⟨_, b81, p81, _, hxu, hA81, _, _, hc81, hr81⟩ := RdS.get (hTh) (s.target.toNat) (by omega)
  obtain ⟨_, _, _, _, _, _, _, _, _, _, _, _, rfl, _, _, _, _, _, _, _, _, _, _, _, _, _⟩ := v0a.open_ hr81
  have q7 := (hp.thread hxu).points
  refine lB (SR2.k.a hc81) [.o 1,.o 0,.x b81 p81,.f 0 1] rfl ⟨by omega,rfl,⟨hA81,by omega⟩,rfl,rfl,⟨⟩⟩ (fun h86 => ?_) fun h86 => ?_
  ·obtain ⟨a2, b93, p93, _, hxa2, hA93, _, _, hc93, hr93⟩ := RdS.get (hAt) (s.target.toNat) (by omega)
   obtain ⟨rfl, _⟩ := id hr93
   refine lB (SR2.k.a hc93) [.o 1,.o 0,.x b93 p93,.f 0 0] rfl ⟨rfl,⟨hA93,by omega⟩,rfl,rfl,⟨⟩⟩ (fun h96 => ?_) fun h96 => ?_
   ·obtain ⟨b2, b104, p104, _, hxb2, hA104, _, _, hc104, hr104⟩ := RdS.get (hBuf) (s.target.toNat) (by omega)
    obtain ⟨_, _, _, rfl, _, hnb104, _⟩ := b7a.open_ hr104
    refine lB (SR2.k.a hc104) [.o 1,.o 0,.x b104 p104,.f 0 0] rfl ⟨rfl,⟨hA104,by omega⟩,rfl,rfl,⟨⟩⟩ (fun h107 => ?_) fun h107 => ?_
    ·refine lT rfl ⟨⟩ rfl ⟨congrArg Value.bool ?_, SR2.fin⟩
     rw [b0d hxa h30 h37 hxb hnb43 h56 hxa2 hxu hxb2 hnb104]; rw [decide_eq_true h86, decide_eq_true h96]; (rw [decide_eq_true h107]; rfl)
    refine lT rfl ⟨⟩ rfl ⟨congrArg Value.bool ?_, SR2.fin⟩
    rw [b0d hxa h30 h37 hxb hnb43 h56 hxa2 hxu hxb2 hnb104]; rw [decide_eq_true h86, decide_eq_true h96]; (rw [decide_eq_false h107]; rfl)
   refine lT rfl ⟨⟩ rfl ⟨congrArg Value.bool ?_, SR2.fin⟩
   rw [F9c h56 hxa2 hxu h96]; done
  refine lT rfl ⟨⟩ rfl ⟨congrArg Value.bool ?_, SR2.fin⟩
  rw [J8c hxb hnb43 (.inr h56) h86]; done
 refine lT rfl ⟨⟩ rfl ⟨congrArg Value.bool ?_, SR2.fin⟩
 rw [I9c hxa h30 h37 (by omega)]; done
end Go.Proofs.YtjjmdcnmeommbaaGreatDoor
namespace Go.Fw
open Go.RowKit
section
variable {M : List Nat} {w0 w w' : World} {L : List Ent}
theorem St.join {L2 : List Ent} (S : St M w0 w L) (S2 : St [] w w' L2) : St M w0 w' (L2 ++ L) := by
 have hnew : ∀ b ∈ L2, ∀ g, b.1 = some g → w.heap.size ≤ g ∧ t0a w' (g, b.2) := fun b hb g hg => by
  obtain ⟨h1, h2⟩ := S2.own b hb g hg
  rcases h1 with h1 | h1
  ·exact ⟨h1, h2⟩
  ·cases h1
 have S' := S.later S2.fin
 refine ⟨S'.below, fun b hb g hg => ?_, List.pairwise_append.2 ⟨S2.apart, S.apart, fun a ha b hb g hg hg' => ?_⟩⟩
 ·rcases List.mem_append.1 hb with h | h
  ·obtain ⟨h1, h2⟩ := hnew b h g hg
   exact ⟨.inl (Nat.le_trans S.size h1), h2⟩
  ·exact S'.own b h g hg
 ·have h1 := (hnew a ha g hg).1
  have h2 := (S.own b hb g hg').2.lt
  simp at h2; omega
theorem St.fill (S : St M w0 w L) (j : Nat) {t' : TypeId} {cs' : List Value} {g : Nat} (hb : Below w.heap.size w w') (hg : t0a w' (g, t', cs')) (hlo : w.heap.size ≤ g) : St M w0 w' (L.set j (some g, t', cs')) := by
 have S' := S.later hb
 have hold : ∀ b ∈ L, b.1 ≠ some g := fun b hm hh => by
  have := (S.own b hm g hh).2.lt
  simp at this; omega
 refine ⟨S'.below, fun b hm x hx => ?_, ?_⟩
 ·rcases List.mem_or_eq_of_mem_set hm with h | rfl
  ·exact S'.own b h x hx
  ·cases hx
   exact ⟨.inl (Nat.le_trans S.size hlo), hg⟩
 ·rw [List.pairwise_iff_getElem]
  intro i k hi hk hik x hx
  rw [List.length_set] at hi hk
  rw [List.getElem_set] at hx ⊢
  split at hx
  ·cases hx
   split
   ·omega
   ·exact hold _ (List.getElem_mem hk)
  ·split
   ·intro hh; cases hh; exact hold _ (List.getElem_mem hi) hx
   ·exact (List.pairwise_iff_getElem.1 S.apart) i k hi hk hik x hx
theorem St.nils (S : St M w0 w L) {R : List Ent} (hR : ∀ b ∈ R, b.1 = none) : St M w0 w (L ++ R) := by
 refine ⟨S.below, fun b hb g hg => ?_, List.pairwise_append.2 ⟨S.apart, ?_, fun a _ b hb g _ hg' => ?_⟩⟩
 ·rcases List.mem_append.1 hb with h | h
  ·exact S.own b h g hg
  ·rw [hR b h] at hg; cases hg
 ·exact List.Pairwise.imp_of_mem (fun ha _ _ g hg => (by rw [hR _ ha] at hg; cases hg)) (List.pairwise_of_forall (R := fun _ _ => True) (fun _ _ => trivial))
 ·rw [hR b hb] at hg'; cases hg'
theorem St.place {x : Ent} (S : St M w0 w (x :: L)) (j : Nat) : St M w0 w (L.set j x) := by
 obtain ⟨h1, h2⟩ := List.pairwise_cons.1 S.apart
 refine ⟨S.below, fun b hm g hg => ?_, ?_⟩
 ·rcases List.mem_or_eq_of_mem_set hm with h | rfl
  ·exact S.own b (List.mem_cons_of_mem _ h) g hg
  ·exact S.own _ (by simp) g hg
 ·rw [List.pairwise_iff_getElem]
  intro i k hi hk hik g hg
  rw [List.length_set] at hi hk
  rw [List.getElem_set] at hg ⊢
  split at hg
  ·split
   ·omega
   ·exact h1 _ (List.getElem_mem hk) g hg
  ·split
   ·intro hh; exact h1 _ (List.getElem_mem hi) g hh hg
   ·exact (List.pairwise_iff_getElem.1 h2) i k hi hk hik g hg
theorem St.front {A R : List Ent} (S : St M w0 w (A ++ R)) : St M w0 w A :=
 ⟨S.below, fun b hm => S.own b (List.mem_append_left _ hm), (List.pairwise_append.1 S.apart).1⟩
abbrev clF {A R : List Ent} (_ : St M w0 w (A ++ R)) (K : List Nat) : World → Prop := fun w1 => St M w0 w1 A ∧ C0a K w w1
end
theorem G3a.form {G : Option Nat} {size n : Nat} {cs xs : List Value} {v : Value} (h : G3a G size n cs v xs) : ∃ A n c, v = .slice A n c := by
 rcases h with ⟨_, ⟨_, rfl, _⟩ | ⟨g, cap, _, rfl, _⟩⟩
 ·exact ⟨_, _, _, rfl⟩
 ·exact ⟨_, _, _, rfl⟩
theorem a7c (A rows : List Ent) (k n : Nat) (hn : A.length = n) : (A ++ rows)[n + k]? = rows[k]? := by
 subst hn; rw [List.getElem?_append_right (by omega)]; congr 1; omega
theorem n9c (A rows : List Ent) (k n : Nat) (hn : A.length = n) (x : Ent) : (A ++ rows).set (n + k) x = A ++ rows.set k x := by
 subst hn; rw [List.set_append_right _ _ (by omega)]; congr 2; omega
theorem s2a.more {α : Type} {R : List Nat → World → List Value → α → Prop} {size : Nat} (hL : B7a R size) {M M' : List Nat} {w : World} {G : Option Nat} {cs : List Value} {v : Value} {l : List α} (h : s2a R size M w G cs v l) (hm : ∀ g ∈ M', (g ∈ G.toList ∨ g ∈ M) ∨ w.heap.size ≤ g) : s2a R size M' w G cs v l := by
 obtain ⟨css, h1, h2, h3, h4⟩ := h
 refine ⟨css, h1, h2, h3, fun i x hi => ?_⟩
 obtain ⟨c, h5, h6⟩ := h4 i x hi
 refine ⟨c, h5, hL.more (fun g hg => ?_) h6⟩
 rcases List.mem_append.1 hg with hg | hg
 ·exact .inl (List.mem_append_left _ hg)
 ·rcases hm g hg with h | h
  ·exact .inl (List.mem_append.2 h)
  ·exact .inr h
def k8a (rows : List Ent) : List Nat := rows.filterMap (·.1)
theorem d3a {rows : List Ent} {g : Nat} : g ∈ k8a rows ↔ ∃ b ∈ rows, b.1 = some g := by unfold k8a; rw [List.mem_filterMap]
def o3a (tE : TypeId) (M : List Nat) (w : World) (rows : List Ent) (vs : List Value) (bs : List (List I0a)) : Prop :=
 rows.length = bs.length ∧ vs.length = bs.length ∧ ∀ (i : Nat) (b : List I0a), bs[i]? = some b → ∃ G cs v, rows[i]? = some (G, tE, cs) ∧ vs[i]? = some v ∧ s2a e1a 2 (M ++ k8a rows) w G cs v b
theorem o3a.keep {tE : TypeId} {M : List Nat} {w w' : World} {rows : List Ent} {vs : List Value} {bs : List (List I0a)} (h : o3a tE M w rows vs bs) (hk : C0a (M ++ k8a rows) w w') : o3a tE M w' rows vs bs := by
 obtain ⟨h1, h2, h3⟩ := h
 refine ⟨h1, h2, fun i b hi => ?_⟩
 obtain ⟨G, cs, v, h4, h5, h6⟩ := h3 i b hi
 exact ⟨G, cs, v, h4, h5, h6.keep p2a (hk.mono fun g hg => List.mem_append_right _ hg)⟩
theorem o3a.nil {tE : TypeId} {M : List Nat} {w : World} (n : Nat) : o3a tE M w (List.replicate n (none, tE, [])) (List.replicate n (.slice none 0 0)) (List.replicate n []) := by
 refine ⟨by simp, by simp, fun i b hi => ?_⟩
 obtain ⟨hlt, rfl⟩ := List.getElem?_eq_some_iff.1 hi
 simp only [List.length_replicate] at hlt
 refine ⟨none, [], .slice none 0 0, by simp [hlt], by simp [hlt], ?_⟩
 simp only [List.getElem_replicate]
 exact s2a.nil
theorem V3c {rows : List Ent} {k : Nat} {G' : Option Nat} {tE : TypeId} {cs' : List Value} {g : Nat} (h : g ∈ k8a (rows.set k (G', tE, cs'))) : g ∈ k8a rows ∨ g ∈ G'.toList := by
 obtain ⟨b, hb, hg⟩ := d3a.1 h
 rcases List.mem_or_eq_of_mem_set hb with h | rfl
 ·exact .inl (d3a.2 ⟨b, h, hg⟩)
 ·right; cases hg; simp
theorem o3a.put {tE : TypeId} {M : List Nat} {w w1 : World} {rows : List Ent} {vs : List Value} {bs : List (List I0a)} (h : o3a tE M w rows vs bs) {k : Nat} {G G' : Option Nat} {cs cs' : List Value} {v' : Value} {b' : List I0a} (hk : k < bs.length)
 (hrow : s2a e1a 2 (M ++ k8a rows) w1 G' cs' v' b') (X : C0a G.toList w w1) (F : ∀ g ∈ G'.toList, g ∈ G.toList ∨ w.heap.size ≤ g) (hrk : rows[k]? = some (G, tE, cs)) : o3a tE M w1 (rows.set k (G', tE, cs')) (vs.set k v') (bs.set k b') := by
 obtain ⟨h1, h2, h3⟩ := h
 have hGb : ∀ g ∈ G.toList, g ∈ k8a rows := fun g hg => d3a.2 ⟨_, List.mem_of_getElem? hrk, by cases G <;> simp at hg ⊢; exact hg.symm⟩
 have hsub : ∀ g ∈ M ++ k8a (rows.set k (G', tE, cs')), (g ∈ M ++ k8a rows ∨ g ∈ G'.toList) := fun g hg => by
  rcases List.mem_append.1 hg with h | h
  ·exact .inl (List.mem_append_left _ h)
  ·rcases V3c h with h | h
   ·exact .inl (List.mem_append_right _ h)
   ·exact .inr h
 refine ⟨by simp [h1], by simp [h2], fun i b hi => ?_⟩
 rw [List.getElem?_set] at hi
 by_cases hik : k = i
 ·subst hik
  rw [if_pos rfl, if_pos hk] at hi
  cases hi
  exact ⟨G', cs', v', by rw [List.getElem?_set_self (by omega)], by rw [List.getElem?_set_self (by omega)], hrow.more p2a fun g hg => by
   rcases hsub g hg with h | h
   ·exact .inl (.inr h)
   ·exact .inl (.inl h)⟩
 ·rw [if_neg hik] at hi
  obtain ⟨Gi, csi, vi, h4, h5, h6⟩ := h3 i b hi
  refine ⟨Gi, csi, vi, by rw [List.getElem?_set_ne hik]; exact h4, by rw [List.getElem?_set_ne hik]; exact h5, ?_⟩
  have e1 : s2a e1a 2 (G.toList ++ (M ++ k8a (rows.set k (G', tE, cs')))) w Gi csi vi b := h6.more p2a fun g hg => by
   rcases List.mem_append.1 hg with h | h
   ·exact .inl (.inr (List.mem_append_right _ (hGb g h)))
   ·rcases hsub g h with h | h
    ·exact .inl (.inr h)
    ·rcases F g h with h | h
     ·exact .inl (.inr (List.mem_append_right _ (hGb g h)))
     ·exact .inr h
  exact (e1.keep p2a (X.mono fun g hg => List.mem_append_right _ (List.mem_append_left _ hg))).more p2a fun g hg => .inl (.inr (List.mem_append_right _ hg))
theorem o3a.rd {tE : TypeId} {M M' Mx : List Nat} {w0 w : World} {A rows : List Ent} {vs : List Value} {bs : List (List I0a)} (h : o3a tE M w rows vs bs) (S : St M' w0 w (A ++ rows)) (hx : ∀ g ∈ Mx, g ∈ M) (hM : ∀ g ∈ Mx, g ∉ k8a rows) (hl : ∀ b ∈ bs, b.length ≤ 1000) :
 ∀ (i : Nat) (b : List I0a), bs[i]? = some b → ∃ v, vs[i]? = some v ∧ U6c Mx w v b := fun i b hi => by
 obtain ⟨_, _, h3⟩ := h
 obtain ⟨G, cs, v, h4, h5, h6⟩ := h3 i b hi
 refine ⟨v, h5, ?_⟩
 have h7 : s2a e1a 2 Mx w G cs v b := h6.more p2a fun g hg => .inl (.inr (List.mem_append_left _ (hx g hg)))
 refine h7.rd p2a S (k := A.length + i) (el := tE) (by rw [a7c A rows i _ rfl]; exact h4) (fun g hg hm => hM g hm (d3a.2 ⟨_, List.mem_of_getElem? h4, hg⟩)) (by have := hl b (List.mem_of_getElem? hi); omega)
theorem St.rdBs {M M' : List Nat} {w0 w : World} {L : List Ent} (S : St M' w0 w L) (j : Nat) {g t : Nat} {vs : List Value} {bs : List (List I0a)} (hj : L[j]? = some (some g, t, vs)) (hg : g ∉ M) (hbig : bs.length ≤ 140737488355328) (h : ∀ (i : Nat) (b : List I0a), bs[i]? = some b → ∃ v, vs[i]? = some v ∧ U6c M w v b) : W6c M w (.slice (some ⟨g, 0, none⟩) bs.length bs.length) bs :=
 S.rd1 hj hg rfl hbig fun i x hi => by
  obtain ⟨v, h1, h2⟩ := h i x hi
  exact ⟨v, h1, v, rfl, h2⟩
theorem o3a.less {tE : TypeId} {M M' : List Nat} {w : World} {rows : List Ent} {vs : List Value} {bs : List (List I0a)} (h : o3a tE M w rows vs bs) (hm : ∀ g ∈ M', g ∈ M) : o3a tE M' w rows vs bs := by
 obtain ⟨h1, h2, h3⟩ := h
 refine ⟨h1, h2, fun i b hi => ?_⟩
 obtain ⟨G, cs, v, h4, h5, h6⟩ := h3 i b hi
 exact ⟨G, cs, v, h4, h5, h6.more p2a fun g hg => .inl (.inr (by
  rcases List.mem_append.1 hg with h | h
  ·exact List.mem_append_left _ (hm g h)
  ·exact List.mem_append_right _ h))⟩
theorem j6b {α : Type} {l : List α} {k : Nat} {x : α} (h : l[k]? = some x) : l.set k x = l := by
 obtain ⟨hlt, rfl⟩ := List.getElem?_eq_some_iff.1 h
 exact List.set_getElem_self hlt
theorem o7b {α : Type} {l : List α} {z : α} {k : Nat} (h : k < l.length) : (W2a l z k)[k]? = some z := by
 unfold W2a
 rw [List.getElem?_append_right (by simp; omega), List.getElem?_replicate, if_pos (by simp; omega)]
theorem RdI.i64s {M : List Nat} {w : World} {v : Value} {l : List Int} (h : RdI M w v l) : ∀ x ∈ l, i64 x := fun x hx => by
 obtain ⟨_, _, _, rfl⟩ := h.form
 obtain ⟨i, hi, rfl⟩ := List.getElem_of_mem hx
 obtain ⟨_, _, _, _, h5⟩ := h.at
 obtain ⟨_, _, _, _, hel⟩ := h5 (by omega)
 obtain ⟨_, _, _, h6⟩ := hel i _ (List.getElem?_eq_getElem hi)
 exact h6.2
theorem a3b.rd {el : Nat} {w w1 : World} {v : Value} {l : List Int} (h : a3b el w w1 v l) {M : List Nat} (hM : ∀ g ∈ M, g < w.heap.size) (hl : ∀ x ∈ l, i64 x) (hb : Below w.heap.size w w1) (hbig : l.length ≤ 140737488355328) : RdI M w1 v l := by
 obtain ⟨_, _, h1, S⟩ := h.open_ ((St.refl w).later hb) (St.refl w)
 exact h1.rdI S (k := 0) rfl hM hl hbig
theorem St.sublist {M : List Nat} {w0 w : World} {L L' : List Ent} (S : St M w0 w L) (h : L'.Sublist L) : St M w0 w L' := ⟨S.below, fun b hb => S.own b (h.subset hb), S.apart.sublist h⟩
theorem St.perm {M : List Nat} {w0 w : World} {L L' : List Ent} (S : St M w0 w L) (h : L.Perm L') : St M w0 w L' :=
 ⟨S.below, fun b hb => S.own b (h.symm.subset hb), (h.pairwise_iff (fun hxy g hg hg' => hxy g hg' hg)).1 S.apart⟩
theorem St.joinR {M : List Nat} {w0 w w' : World} {L A R : List Ent} (S : St M w0 w L) (S2 : St [] w w' (A ++ R)) : St M w0 w' ((A ++ L) ++ R) := by
 refine (S.join S2).perm ?_
 rw [List.append_assoc, List.append_assoc]
 exact (List.perm_append_comm).append_left A
theorem s2a.erase {α : Type} {R : List Nat → World → List Value → α → Prop} {size : Nat} (hL : B7a R size) {M : List Nat} {w w1 : World} {G : Option Nat} {cs' : List Value} {v : Value} {l : List α} {css : List (List Value)} (l1 : css.length = l.length) (l2 : ∀ x ∈ css, x.length = size) (l4 : ∀ (i : Nat) (x : α), l[i]? = some x → ∃ c, css[i]? = some c ∧ R (G.toList ++ M) w c x)
 {i : Nat} (hi : i < l.length) (rv : G3a G size (l.length - 1) cs' v (css.eraseIdx i).flatten) (hk : C0a (G.toList ++ M) w w1) : s2a R size M w1 G cs' v (l.eraseIdx i) := by
 have hle : (l.eraseIdx i).length = l.length - 1 := by rw [List.length_eraseIdx, if_pos hi]
 refine ⟨css.eraseIdx i, by rw [hle, List.length_eraseIdx, if_pos (by omega), l1], fun x hx => l2 x (List.mem_of_mem_eraseIdx hx), by rw [hle]; exact rv, fun k x hx => ?_⟩
 rw [List.getElem?_eraseIdx] at hx ⊢
 split
 ·rename_i h
  rw [if_pos h] at hx
  obtain ⟨c, h5, h6⟩ := l4 k x hx
  exact ⟨c, h5, hL.keep hk h6⟩
 ·rename_i h
  rw [if_neg h] at hx
  obtain ⟨c, h5, h6⟩ := l4 (k + 1) x hx
  exact ⟨c, h5, hL.keep hk h6⟩
theorem g5c {M : List Nat} {w : World} {G : Option Nat} {l : List I0a} {css : List (List Value)} (l1 : css.length = l.length) (l4 : ∀ (i : Nat) (x : I0a), l[i]? = some x → ∃ c, css[i]? = some c ∧ e1a (G.toList ++ M) w c x) : ∀ u ∈ css.flatten, u.oneCell' = true := fun u hu => by
 obtain ⟨x, hx, hu⟩ := List.mem_flatten.1 hu
 obtain ⟨i, hi, rfl⟩ := List.getElem_of_mem hx
 obtain ⟨c, h5, h6⟩ := l4 i l[i] (List.getElem?_eq_getElem (by omega))
 rw [List.getElem?_eq_getElem hi] at h5; cases h5
 exact p2a.one h6 u hu
theorem St.apartM {w0 w : World} {A rows : List Ent} (S : St [] w0 w (A ++ rows)) {M : List Nat} (hM : ∀ g ∈ M, g < w0.heap.size) : ∀ g ∈ M, g ∉ k8a rows := fun g hg hb => by
 obtain ⟨x, hx, hg'⟩ := d3a.1 hb
 have h2 := hM g hg
 rcases (S.own x (List.mem_append_right _ hx) g hg').1 with h | h
 ·omega
 ·cases h
theorem C0a.fresh2 {a b c : World} {Q : List Nat} {g : Nat} (h : C0a Q a b) (k : C0a [g] b c) (hg : a.heap.size ≤ g ∨ g ∈ Q) : C0a Q a c :=
 ⟨Nat.le_trans h.size k.size, fun i hi hm => (k.same i (Nat.lt_of_lt_of_le hi h.size) (fun hh => by rw [List.mem_singleton] at hh; subst hh; rcases hg with hg | hg; omega; exact hm hg)).trans (h.same i hi hm)⟩
theorem C0a.freshL {a b c : World} {Q Gs : List Nat} (h : C0a Q a b) (k : C0a Gs b c) (hg : ∀ g ∈ Gs, a.heap.size ≤ g ∨ g ∈ Q) : C0a Q a c :=
 ⟨Nat.le_trans h.size k.size, fun i hi hm => (k.same i (Nat.lt_of_lt_of_le hi h.size) (fun hh => by rcases hg i hh with hg | hg; omega; exact hm hg)).trans (h.same i hi hm)⟩
end Go.Fw
namespace Go.Proofs.YtjjmdcnmeommbaaGreatDoor
open Go.Fw Go.RowKit
def b4c (M : List Nat) (w0 w : World) (c : D0a) (v : Value) : Prop :=
 ∃ (Gm Ga : Option Nat) (csm csa : List Value) (vm va : Value) (gb : Nat) (rows : List Ent) (vs : List Value), v = .agg #[vm, va, .slice (some ⟨gb, 0, none⟩) c.buf.length c.buf.length] ∧ G3a Gm 1 c.mem.length csm vm (c.mem.map (Value.int .i64)) ∧ G3a Ga 1 c.at_.length csa va (c.at_.map (Value.int .i64)) ∧
  St [] w0 w ([(some gb, 118, vs), (Ga, 3, csa), (Gm, 3, csm)] ++ rows) ∧ o3a 121 (Gm.toList ++ (Ga.toList ++ (gb :: M))) w rows vs c.buf
theorem J6b {M : List Nat} {w0 w : World} {L : List Ent} (S : St M w0 w L) {G : Option Nat} {t : TypeId} {cs : List Value} {k : Nat} (hk : L[k]? = some (G, t, cs)) : ∀ g ∈ G.toList, g < w.heap.size := fun g hg => by
 have : G = some g := by cases G <;> simp at hg ⊢; exact hg.symm
 subst this
 exact S.lt k hk
theorem u3b (Mx M : List Nat) (w0 : World) (v : Value) (l : List Int) (hR : RdI M w0 v l) (hl : l.length ≤ 100000000) (hM : ∀ g ∈ Mx, g < w0.heap.size) :
 R0a Tryz.prog 179 #[v] w0 fun v w' => RdI Mx w' v l ∧ Below w0.heap.size w0 w' :=
 (L6a M w0 v l hR hl).mono fun _ _ h => ⟨h.1.rd hM hR.i64s h.2 (by omega), h.2⟩
theorem U6b (p : d0a) (hp : T0a p) (c : D0a) (M : List Nat) (w0 : World) (hM : ∀ g ∈ M, g < w0.heap.size) (xs : List Value) (hX : O0a M w0 c xs) (hf : b6a p c) :
 R0a Tryz.prog 176 #[.agg xs.toArray] w0 fun v w' => b4c M w0 w' c v ∧ Below w0.heap.size w0 w' := by
 obtain ⟨Xm, xm, ym, Xa, xa, ya, Xb, xb, yb, rfl, hMem, hAt, hBuf, _, _, hnb, _, _, _⟩ := hX.open_
 have S := St.refl w0
 have f1 := hf.mem.len
 have f2 := hf.nat
 have n1 := hp.ncells
 have n2 := hp.nthreads
 have f3 := hf.nbuf
 refine a0a Tryz.func176 rfl Tryz.ntmps176 rfl ?_
 refine wO0 rfl ⟨⟩ (m0a S (by conv => lhs; whnf) rfl ?_)
 intro g1 w1 S1 X1 G1
 refine k0a S1 g6a rfl rfl ?_
 intro g2 w2 S2 X2 G2
 refine lC0 rfl ⟨⟩ (I7b b0a (by kernel_rfl) (fun f ε w => ε 1 = .pointer (some ⟨g1, 0, none⟩) ∧ ε 2 = .pointer (some ⟨g2, 0, none⟩) ∧ ∃ E11 E9 E5 E2 : Ent, St [] w0 w [E11, E9, E5, E2, (some g2, 52, [.slice none 0 0, .slice none 0 0, .slice none 0 0]), (some g1, 52, [.slice Xm xm ym, .slice Xa xa ya, .slice Xb xb yb])] ∧ (f 0 = true → ε 8 = .pointer (some ⟨g1, 0, none⟩)) ∧ (f 1 = true → ε 9 = .slice Xm xm ym) ∧ (f 2 = true → ∃ G cs A n c', ε 10 = .slice A n c' ∧ E2 = (G, 3, cs) ∧ G3a G 1 c.mem.length cs (.slice A n c') (c.mem.map (Value.int .i64))) ∧ (f 3 = true → ε 11 = .pointer (some ⟨g1, 1, none⟩)) ∧ (f 4 = true → ε 12 = .slice Xa xa ya) ∧ (f 5 = true → ∃ G cs A n c', ε 13 = .slice A n c' ∧ E5 = (G, 3, cs) ∧ G3a G 1 c.at_.length cs (.slice A n c') (c.at_.map (Value.int .i64))) ∧ (f 6 = true → ε 14 = .pointer (some ⟨g1, 2, none⟩)) ∧ (f 7 = true → ε 15 = .slice Xb xb yb) ∧ (f 8 = true → ε 16 = .int .i64 xb) ∧ (f 9 = true → ∃ g, ε 17 = .slice (some ⟨g, 0, none⟩) xb xb ∧ E9 = (some g, 118, List.replicate xb (.slice none 0 0))) ∧ (f 10 = true → (f 2 = true ∧ f 5 = true ∧ f 9 = true) ∧ ε 18 = .agg #[ε 10, ε 13, ε 17]) ∧ (f 11 = true → f 12 = false → ∃ g, ε 3 = .pointer (some ⟨g, 0, none⟩) ∧ E11 = (some g, 52, [.slice none 0 0, .slice none 0 0, .slice none 0 0])) ∧ (f 12 = true → (∀ k, k < 12 → f k = true) ∧ ∃ g, ε 3 = .pointer (some ⟨g, 0, none⟩) ∧ E11 = (some g, 52, [ε 10, ε 13, ε 17]))) ?_ ?_ ?_)
 ·exact ⟨rfl, rfl, (none, 0, []), (none, 0, []), (none, 0, []), (none, 0, []), ((((S2.drew.nilEnt 0).nilEnt 0).nilEnt 0).nilEnt 0), by simp, by simp, by simp, by simp, by simp, by simp, by simp, by simp, by simp, by simp, by simp, by simp, by simp⟩
 ·rintro f ε w i o ⟨e1, e2, E11, E9, E5, E2, S, h0, h1, h2, h3, h4, h5, h6, h7, h8, h9, h10, h11, h12⟩ ho hfi hpr
  have hi : i < 13 := (List.getElem?_eq_some_iff.1 ho).1
  refine V0a 1 e1 (V0a 2 e2 ?_)
  rcases (show i = 0 ∨ i = 1 ∨ i = 2 ∨ i = 3 ∨ i = 4 ∨ i = 5 ∨ i = 6 ∨ i = 7 ∨ i = 8 ∨ i = 9 ∨ i = 10 ∨ i = 11 ∨ i = 12 by omega) with rfl | rfl | rfl | rfl | rfl | rfl | rfl | rfl | rfl | rfl | rfl | rfl | rfl
  ·cases ho
   refine y6a G5b rfl rfl ?_
   refine Z0a ⟨rfl, rfl, rfl, E11, E9, E5, E2, S, fun _ => rfl, fun hh => h1 (by simpa using hh), fun hh => h2 (by simpa using hh), fun hh => h3 (by simpa using hh), fun hh => h4 (by simpa using hh), fun hh => h5 (by simpa using hh), fun hh => h6 (by simpa using hh), fun hh => h7 (by simpa using hh), fun hh => h8 (by simpa using hh), fun hh => h9 (by simpa using hh), fun hh => ⟨⟨by simp [(h10 (by simpa using hh)).1.1], by simp [(h10 (by simpa using hh)).1.2.1], by simp [(h10 (by simpa using hh)).1.2.2]⟩, (h10 (by simpa using hh)).2⟩, fun hh hh' => h11 (by simpa using hh) (by simpa using hh'), fun hh => absurd ((h12 (by simpa using hh)).1 0 (by omega)) (by simp [hfi])⟩
  ·cases ho
   refine V0a 8 (h0 (hpr 0 (by decide))) ?_
   refine u0a N3a rfl (S.cell 5 rfl rfl) rfl ?_
   refine Z0a ⟨rfl, rfl, rfl, E11, E9, E5, E2, S, fun _ => rfl, fun _ => rfl, fun hh => h2 (by simpa using hh), fun hh => h3 (by simpa using hh), fun hh => h4 (by simpa using hh), fun hh => h5 (by simpa using hh), fun hh => h6 (by simpa using hh), fun hh => h7 (by simpa using hh), fun hh => h8 (by simpa using hh), fun hh => h9 (by simpa using hh), fun hh => ⟨⟨by simp [(h10 (by simpa using hh)).1.1], by simp [(h10 (by simpa using hh)).1.2.1], by simp [(h10 (by simpa using hh)).1.2.2]⟩, (h10 (by simpa using hh)).2⟩, fun hh hh' => h11 (by simpa using hh) (by simpa using hh'), fun hh => absurd ((h12 (by simpa using hh)).1 1 (by omega)) (by simp [hfi])⟩
  ·cases ho
   refine V0a 9 (h1 (hpr 1 (by decide))) ?_
   refine q3a S9a rfl rfl (L6a M _ _ c.mem (hMem.keep (S.keep0 M)) (by omega)) ?_
   rintro v w1 ⟨hN, hB⟩
   obtain ⟨G, cs', R1, S1⟩ := hN.open_ (S.later hB) S
   obtain ⟨A, n, c', rfl⟩ := R1.form
   refine Z0a ⟨rfl, rfl, rfl, E11, E9, E5, (G, 3, cs'), S1.place 3, fun hh => h0 (by simpa using hh), fun _ => rfl, fun _ => ⟨G, cs', A, n, c', rfl, rfl, R1⟩, fun hh => h3 (by simpa using hh), fun hh => h4 (by simpa using hh), fun hh => h5 (by simpa using hh), fun hh => h6 (by simpa using hh), fun hh => h7 (by simpa using hh), fun hh => h8 (by simpa using hh), fun hh => h9 (by simpa using hh), fun hh => absurd (h10 (by simpa using hh)).1.1 (by simp [hfi]), fun hh hh' => h11 (by simpa using hh) (by simpa using hh'), fun hh => absurd ((h12 (by simpa using hh)).1 2 (by omega)) (by simp [hfi])⟩
  ·cases ho
   refine y6a u4b rfl rfl ?_
   refine Z0a ⟨rfl, rfl, rfl, E11, E9, E5, E2, S, fun hh => h0 (by simpa using hh), fun hh => h1 (by simpa using hh), fun hh => h2 (by simpa using hh), fun _ => rfl, fun hh => h4 (by simpa using hh), fun hh => h5 (by simpa using hh), fun hh => h6 (by simpa using hh), fun hh => h7 (by simpa using hh), fun hh => h8 (by simpa using hh), fun hh => h9 (by simpa using hh), fun hh => ⟨⟨by simp [(h10 (by simpa using hh)).1.1], by simp [(h10 (by simpa using hh)).1.2.1], by simp [(h10 (by simpa using hh)).1.2.2]⟩, (h10 (by simpa using hh)).2⟩, fun hh hh' => h11 (by simpa using hh) (by simpa using hh'), fun hh => absurd ((h12 (by simpa using hh)).1 3 (by omega)) (by simp [hfi])⟩
  ·cases ho
   refine V0a 11 (h3 (hpr 3 (by decide))) ?_
   refine u0a N3a rfl (S.cell 5 rfl rfl) rfl ?_
   refine Z0a ⟨rfl, rfl, rfl, E11, E9, E5, E2, S, fun hh => h0 (by simpa using hh), fun hh => h1 (by simpa using hh), fun hh => h2 (by simpa using hh), fun _ => rfl, fun _ => rfl, fun hh => h5 (by simpa using hh), fun hh => h6 (by simpa using hh), fun hh => h7 (by simpa using hh), fun hh => h8 (by simpa using hh), fun hh => h9 (by simpa using hh), fun hh => ⟨⟨by simp [(h10 (by simpa using hh)).1.1], by simp [(h10 (by simpa using hh)).1.2.1], by simp [(h10 (by simpa using hh)).1.2.2]⟩, (h10 (by simpa using hh)).2⟩, fun hh hh' => h11 (by simpa using hh) (by simpa using hh'), fun hh => absurd ((h12 (by simpa using hh)).1 4 (by omega)) (by simp [hfi])⟩
  ·cases ho
   refine V0a 12 (h4 (hpr 4 (by decide))) ?_
   refine q3a S9a rfl rfl (L6a M _ _ c.at_ (hAt.keep (S.keep0 M)) (by omega)) ?_
   rintro v w1 ⟨hN, hB⟩
   obtain ⟨G, cs', R1, S1⟩ := hN.open_ (S.later hB) S
   obtain ⟨A, n, c', rfl⟩ := R1.form
   refine Z0a ⟨rfl, rfl, rfl, E11, E9, (G, 3, cs'), E2, S1.place 2, fun hh => h0 (by simpa using hh), fun hh => h1 (by simpa using hh), fun hh => h2 (by simpa using hh), fun hh => h3 (by simpa using hh), fun _ => rfl, fun _ => ⟨G, cs', A, n, c', rfl, rfl, R1⟩, fun hh => h6 (by simpa using hh), fun hh => h7 (by simpa using hh), fun hh => h8 (by simpa using hh), fun hh => h9 (by simpa using hh), fun hh => absurd (h10 (by simpa using hh)).1.2.1 (by simp [hfi]), fun hh hh' => h11 (by simpa using hh) (by simpa using hh'), fun hh => absurd ((h12 (by simpa using hh)).1 5 (by omega)) (by simp [hfi])⟩
  ·cases ho
   refine y6a R4a rfl rfl ?_
   refine Z0a ⟨rfl, rfl, rfl, E11, E9, E5, E2, S, fun hh => h0 (by simpa using hh), fun hh => h1 (by simpa using hh), fun hh => h2 (by simpa using hh), fun hh => h3 (by simpa using hh), fun hh => h4 (by simpa using hh), fun hh => h5 (by simpa using hh), fun _ => rfl, fun hh => h7 (by simpa using hh), fun hh => h8 (by simpa using hh), fun hh => h9 (by simpa using hh), fun hh => ⟨⟨by simp [(h10 (by simpa using hh)).1.1], by simp [(h10 (by simpa using hh)).1.2.1], by simp [(h10 (by simpa using hh)).1.2.2]⟩, (h10 (by simpa using hh)).2⟩, fun hh hh' => h11 (by simpa using hh) (by simpa using hh'), fun hh => absurd ((h12 (by simpa using hh)).1 6 (by omega)) (by simp [hfi])⟩
  ·cases ho
   refine V0a 14 (h6 (hpr 6 (by decide))) ?_
   refine u0a p6a rfl (S.cell 5 rfl rfl) rfl ?_
   refine Z0a ⟨rfl, rfl, rfl, E11, E9, E5, E2, S, fun hh => h0 (by simpa using hh), fun hh => h1 (by simpa using hh), fun hh => h2 (by simpa using hh), fun hh => h3 (by simpa using hh), fun hh => h4 (by simpa using hh), fun hh => h5 (by simpa using hh), fun _ => rfl, fun _ => rfl, fun hh => h8 (by simpa using hh), fun hh => h9 (by simpa using hh), fun hh => ⟨⟨by simp [(h10 (by simpa using hh)).1.1], by simp [(h10 (by simpa using hh)).1.2.1], by simp [(h10 (by simpa using hh)).1.2.2]⟩, (h10 (by simpa using hh)).2⟩, fun hh hh' => h11 (by simpa using hh) (by simpa using hh'), fun hh => absurd ((h12 (by simpa using hh)).1 7 (by omega)) (by simp [hfi])⟩
  ·cases ho
   refine V0a 15 (h7 (hpr 7 (by decide))) ?_
   refine h8c H4a.slT rfl rfl ?_
   refine Z0a ⟨rfl, rfl, rfl, E11, E9, E5, E2, S, fun hh => h0 (by simpa using hh), fun hh => h1 (by simpa using hh), fun hh => h2 (by simpa using hh), fun hh => h3 (by simpa using hh), fun hh => h4 (by simpa using hh), fun hh => h5 (by simpa using hh), fun hh => h6 (by simpa using hh), fun _ => rfl, fun _ => rfl, fun hh => h9 (by simpa using hh), fun hh => ⟨⟨by simp [(h10 (by simpa using hh)).1.1], by simp [(h10 (by simpa using hh)).1.2.1], by simp [(h10 (by simpa using hh)).1.2.2]⟩, (h10 (by simpa using hh)).2⟩, fun hh hh' => h11 (by simpa using hh) (by simpa using hh'), fun hh => absurd ((h12 (by simpa using hh)).1 8 (by omega)) (by simp [hfi])⟩
  ·cases ho
   refine V0a 16 (h8 (hpr 8 (by decide))) ?_
   refine o0c (n := xb) (c := xb) S H4a rfl rfl (by omega) (by omega) (by omega) rfl rfl ?_
   intro g w1 S1 X1 G1
   refine Z0a ⟨rfl, rfl, rfl, E11, (some g, 118, List.replicate xb (.slice none 0 0)), E5, E2, S1.place 1, fun hh => h0 (by simpa using hh), fun hh => h1 (by simpa using hh), fun hh => h2 (by simpa using hh), fun hh => h3 (by simpa using hh), fun hh => h4 (by simpa using hh), fun hh => h5 (by simpa using hh), fun hh => h6 (by simpa using hh), fun hh => h7 (by simpa using hh), fun _ => rfl, fun _ => ⟨g, rfl, rfl⟩, fun hh => absurd (h10 (by simpa using hh)).1.2.2 (by simp [hfi]), fun hh hh' => h11 (by simpa using hh) (by simpa using hh'), fun hh => absurd ((h12 (by simpa using hh)).1 9 (by omega)) (by simp [hfi])⟩
  ·cases ho
   obtain ⟨G2, cs2, A2, n2, c2, q2, r2⟩ := h2 (hpr 2 (by decide))
   obtain ⟨G5, cs5, A5, n5, c5, q5, r5⟩ := h5 (hpr 5 (by decide))
   obtain ⟨g9, q9, r9⟩ := h9 (hpr 9 (by decide))
   refine V0a 10 q2 (V0a 13 q5 (V0a 17 q9 ?_))
   refine b1a j5a (vs := [(0, .slice _ _ _), (1, .slice _ _ _), (2, .slice _ _ _)]) (cs := [_, _, _]) rfl rfl rfl rfl ?_
   refine Z0a ⟨rfl, rfl, rfl, E11, E9, E5, E2, S, fun hh => h0 (by simpa using hh), fun hh => h1 (by simpa using hh), fun _ => ⟨G2, cs2, A2, n2, c2, rfl, r2⟩, fun hh => h3 (by simpa using hh), fun hh => h4 (by simpa using hh), fun _ => ⟨G5, cs5, A5, n5, c5, rfl, r5⟩, fun hh => h6 (by simpa using hh), fun hh => h7 (by simpa using hh), fun hh => h8 (by simpa using hh), fun _ => ⟨g9, rfl, r9⟩, fun _ => ⟨⟨by simp [hpr 2 (by decide)], by simp [hpr 5 (by decide)], by simp [hpr 9 (by decide)]⟩, rfl⟩, fun hh hh' => h11 (by simpa using hh) (by simpa using hh'), fun hh => absurd ((h12 (by simpa using hh)).1 10 (by omega)) (by simp [hfi])⟩
  ·cases ho
   refine k0a S g6a rfl rfl ?_
   intro g w1 S1 X1 G1
   refine Z0a ⟨rfl, rfl, rfl, (some g, 52, [.slice none 0 0, .slice none 0 0, .slice none 0 0]), E9, E5, E2, S1.place 0, fun hh => h0 (by simpa using hh), fun hh => h1 (by simpa using hh), fun hh => h2 (by simpa using hh), fun hh => h3 (by simpa using hh), fun hh => h4 (by simpa using hh), fun hh => h5 (by simpa using hh), fun hh => h6 (by simpa using hh), fun hh => h7 (by simpa using hh), fun hh => h8 (by simpa using hh), fun hh => h9 (by simpa using hh), fun hh => ⟨⟨by simp [(h10 (by simpa using hh)).1.1], by simp [(h10 (by simpa using hh)).1.2.1], by simp [(h10 (by simpa using hh)).1.2.2]⟩, (h10 (by simpa using hh)).2⟩, fun _ _ => ⟨g, rfl, rfl⟩, fun hh => absurd ((h12 (by simpa using hh)).1 11 (by omega)) (by simp [hfi])⟩
  ·cases ho
   have hall : ∀ k, k < 12 → f k = true := fun k hk => hpr k (by revert k; decide)
   obtain ⟨g, q3, rfl⟩ := h11 (hall 11 (by omega)) hfi
   have q10 := (h10 (hall 10 (by omega))).2
   obtain ⟨G2, cs2, A2, n2, c2, q2, r2⟩ := h2 (hall 2 (by omega))
   obtain ⟨G5, cs5, A5, n5, c5, q5, r5⟩ := h5 (hall 5 (by omega))
   obtain ⟨g9, q9, r9⟩ := h9 (hall 9 (by omega))
   rw [q2, q5, q9] at q10
   refine V0a 10 q2 (V0a 13 q5 (V0a 17 q9 (V0a 3 q3 (V0a 18 q10 ?_))))
   refine c0a (kk := 0) (vs := [_, _, _]) S O2a rfl rfl rfl rfl rfl rfl rfl ?_
   intro w1 S1 X1
   dsimp only [e0a, List.set] at S1
   refine Z0a ⟨rfl, rfl, rfl, (some g, 52, [.slice A2 n2 c2, .slice A5 n5 c5, .slice (some ⟨g9, 0, none⟩) xb xb]), E9, E5, E2, S1, fun hh => h0 (by simpa using hh), fun hh => h1 (by simpa using hh), fun _ => ⟨G2, cs2, A2, n2, c2, rfl, r2⟩, fun hh => h3 (by simpa using hh), fun hh => h4 (by simpa using hh), fun _ => ⟨G5, cs5, A5, n5, c5, rfl, r5⟩, fun hh => h6 (by simpa using hh), fun hh => h7 (by simpa using hh), fun hh => h8 (by simpa using hh), fun _ => ⟨g9, rfl, r9⟩, fun _ => ⟨⟨by simp [hall 2 (by omega)], by simp [hall 5 (by omega)], by simp [hall 9 (by omega)]⟩, rfl⟩, fun _ hh => by simp at hh, fun _ => ⟨fun k hk => by simp [hall k hk], g, rfl, rfl⟩⟩
 rintro f ε w ⟨e1, e2, E11, E9, E5, E2, S, h0, h1, h2, h3, h4, h5, h6, h7, h8, h9, h10, h11, h12⟩ hall
 obtain ⟨-, g3, q3, rfl⟩ := h12 (hall 12 (by decide))
 obtain ⟨Gm, csm, Am, nm, cm, q10, rfl, Rm⟩ := h2 (hall 2 (by decide))
 obtain ⟨Ga, csa, Aa, na, ca, q13, rfl, Ra⟩ := h5 (hall 5 (by decide))
 obtain ⟨gb, q17, rfl⟩ := h9 (hall 9 (by decide))
 rw [q10, q13, q17] at S
 clear hall h0 h1 h2 h3 h4 h5 h6 h7 h8 h9 h10 h11 h12 q10 q13 q17
 refine fN 1 e1 (fN 2 e2 (fN 3 q3 ?_))
 replace S := S.nils (R := List.replicate xb (none, 121, [])) (fun b hb => by rw [List.eq_of_mem_replicate hb])
 refine fC S.k [.o 5] rfl ⟨rfl,⟨⟩⟩ ?_
 refine wL (fun μk D ε w => D = [] ∧ ∃ k : Nat, ∃ rows : List Ent, ∃ vs : List Value, (k + μk = (c.buf.length)) ∧ (o3a 121 (Gm.toList ++ (Ga.toList ++ ([gb, g3, g2] ++ M))) w rows vs (W2a c.buf [] k)) ∧ St [] w0 w ([(some g3, 52, [.slice Am nm cm, .slice Aa na ca, .slice (some ⟨gb, 0, none⟩) xb xb]), (some gb, 118, vs), (Ga, 3, csa), (Gm, 3, csm), (some g2, 52, [.slice none 0 0, .slice none 0 0, .slice none 0 0]), (some g1, 52, [.slice Xm xm ym, .slice Xa xa ya, .slice Xb xb yb])] ++ rows) ∧ Sl ε [(2, .pointer (some ⟨g2, 0, none⟩)), (3, .pointer (some ⟨g3, 0, none⟩)), (20, .slice Xb xb yb), (21, .int .i64 xb), (22, .int .i64 k)]) (μ := (c.buf.length)) ⟨rfl, 0, List.replicate xb (none, 121, []), List.replicate xb (.slice none 0 0), by omega, by rw [r6a, ← hnb]; exact o3a.nil xb, S, rfl⟩ ?_
 rintro μk D ε w ⟨rfl, k, rows, vs, hk, hR, S, eZ⟩
 refine wK eZ (wB0 rfl ⟨⟩ (fun h23 => ?_) fun h23 => ?_)
 ·obtain ⟨b, b25, p25, _, hxb, hA25, _, _, hc25, hr25⟩ := RdS.get (hBuf) (k) (by omega)
  obtain ⟨Ab25, nb25, cb25, rfl, hBu25, _, _⟩ := b7a.open_ hr25
  have q3 := (hf.bufs k b hxb)
  have hR0 : o3a 121 (Gm.toList ++ (Ga.toList ++ ([gb, g3, g2] ++ M))) w rows vs ((W2a c.buf [] k).set k (b.take 0)) := by rw [List.take_zero, j6b (o7b (D1a hxb))]; exact hR
  refine lC (S.k.a hc25) [.x b25 p25,.f 0 0] rfl ⟨rfl,⟨hA25,by omega⟩,⟨⟩⟩ (wL (fun μj D ε w => D = [] ∧ ∃ j : Nat, ∃ rows2 : List Ent, ∃ vs2 : List Value, (j + μj = (b.length)) ∧ (o3a 121 (Gm.toList ++ (Ga.toList ++ ([gb, g3, g2] ++ M))) w rows2 vs2 ((W2a c.buf [] k).set k (b.take j))) ∧ St [] w0 w ([(some g3, 52, [.slice Am nm cm, .slice Aa na ca, .slice (some ⟨gb, 0, none⟩) xb xb]), (some gb, 118, vs2), (Ga, 3, csa), (Gm, 3, csm), (some g2, 52, [.slice none 0 0, .slice none 0 0, .slice none 0 0]), (some g1, 52, [.slice Xm xm ym, .slice Xa xa ya, .slice Xb xb yb])] ++ rows2) ∧ Sl ε [(2, .pointer (some ⟨g2, 0, none⟩)), (3, .pointer (some ⟨g3, 0, none⟩)), (4, .int .i64 k), (20, .slice Xb xb yb), (21, .int .i64 xb), (22, .int .i64 k), (27, .slice Ab25 nb25 cb25), (28, .int .i64 nb25), (29, .int .i64 j)]) (μ := (b.length)) ⟨rfl, 0, rows, vs, by omega, hR0, S, rfl⟩ ?_)
  rintro μj D ε w ⟨rfl, j, rows2, vs2, _, hR2, S, eZ⟩
  refine wK eZ ?_
  have K := C0a.refl [] w
  have hGl : ∀ g ∈ (Gm.toList ++ (Ga.toList ++ ([gb, g3, g2] ++ M))) ++ k8a rows2, g < w.heap.size := by
   intro g hg
   simp only [List.mem_append, List.mem_cons, List.not_mem_nil, or_false] at hg
   rcases hg with (hg | hg | (rfl | rfl | rfl) | hg) | hg
   ·exact J6b S (k := 3) rfl g hg
   ·exact J6b S (k := 2) rfl g hg
   ·exact S.lt 1 rfl
   ·exact S.lt 0 rfl
   ·exact S.lt 4 rfl
   ·have := hM g hg; have := S.size; omega
   ·obtain ⟨x, hx, hg⟩ := d3a.1 hg; exact (S.own x (List.mem_append_right _ hx) g hg).2.lt
  refine wB0 rfl ⟨⟩ (fun h30 => ?_) fun h30 => ?_
  ·obtain ⟨en, b31, p31, _, hxen, hA31, _, hl31, hc31, hr31⟩ := RdS.get (hBu25) (j) (by omega)
   obtain ⟨_, _, _, _, _, _, rfl, hCe31, hVa31, _, _, _, _⟩ := e1a.open_ hr31
   have q4 := (q3.2.1 en (f0a hxen)).len
   have q5 := (q3.2.1 en (f0a hxen)).even
   unfold I0a.even at q5
   refine lO (S.k.a hc31) [.x b31 p31,.v 0] rfl ⟨⟨rfl,hl31⟩,⟨hA31,by omega⟩,⟨⟩⟩ (k0a S v8a rfl rfl ?_)
   intro g7 w7 S7 X7 G7
   have GK7 := Nat.le_trans K.size G7
   replace K := K.trans X7
   refine c0a (kk := 0) (vs := [_, _]) S7 c9a rfl rfl rfl rfl rfl rfl rfl ?_
   intro w7_3 S7_3 X7_3
   dsimp only [e0a, List.set] at S7_3
   replace K := K.fresh X7_3 (by first | exact GK7)
   obtain ⟨G, cs', v, hrk, hvk, hrow⟩ := hR2.2.2 k (b.take j) (by rw [List.getElem?_set_self (by simp; omega)])
   obtain ⟨_, _, rfl⟩ := hrow.form
   have hvl : vs2.length = c.buf.length := by have := hR2.2.1; simpa using this
   have hlen0 : (b.take j).length = j := by rw [List.length_take]; omega
   have hGb : ∀ g ∈ G.toList, g ∈ (Gm.toList ++ (Ga.toList ++ ([gb, g3, g2] ++ M))) ++ k8a rows2 := fun g hg => List.mem_append_right _ (d3a.2 ⟨_, List.mem_of_getElem? hrk, by cases G <;> simp at hg ⊢; exact hg.symm⟩)
   refine lC0 rfl ⟨⟩ (E0b b0a (fun i => [0, 1, 2, 3, 4, 5, 6, 7, 8, 9, 11, 12, 14, 17].contains i) [0, 1, 2, 3, 4, 5, 6, 7, 8, 9, 10, 11, 12, 13, 14, 15, 16, 17] 18 (by kernel_rfl) (by kernel_rfl) (clF (A := [_, _, _, _, _, _, _]) (R := rows2) S7_3 G.toList) _ rfl ?_)
   have SR8 := S7_3.drew
   have YR8 : C0a [] w7_3 w7_3.drew := z2a _ _
   generalize w7_3.drew = wR8 at SR8 YR8 ⊢
   have XR8 : C0a (G.toList) _ _ := YR8.of_nil
   replace K := K.trans YR8
   refine w2a ⟨(St.front (A := [_, _, _, _, _, _, _]) SR8), XR8⟩ rfl rfl rfl ?_
   refine E0a R4a rfl rfl ?_
   refine p0a ?_
   refine w2a ⟨(St.front (A := [_, _, _, _, _, _, _]) SR8), XR8⟩ rfl rfl rfl ?_
   refine i0a p6a rfl (fun w1 hw => by exact hw.1.cell 1 rfl rfl) rfl ?_
   refine p0a ?_
   refine w2a ⟨(St.front (A := [_, _, _, _, _, _, _]) SR8), XR8⟩ rfl rfl rfl ?_
   refine I1a (v := .int .i64 _) rfl rfl ?_
   refine p0a ?_
   refine w2a ⟨(St.front (A := [_, _, _, _, _, _, _]) SR8), XR8⟩ rfl rfl rfl ?_
   refine E0a R4a rfl rfl ?_
   refine p0a ?_
   refine w2a ⟨(St.front (A := [_, _, _, _, _, _, _]) SR8), XR8⟩ rfl rfl rfl ?_
   refine i0a p6a rfl (fun w1 hw => by exact hw.1.cell 1 rfl rfl) rfl ?_
   refine p0a ?_
   refine w2a ⟨(St.front (A := [_, _, _, _, _, _, _]) SR8), XR8⟩ rfl rfl rfl ?_
   refine I1a (v := .int .i64 _) rfl rfl ?_
   refine p0a ?_
   refine w2a ⟨(St.front (A := [_, _, _, _, _, _, _]) SR8), XR8⟩ rfl rfl rfl ?_
   refine j0a H4a.slT rfl (by rfl) rfl (by omega) (by omega) rfl ?_
   refine p0a ?_
   refine w2a ⟨(St.front (A := [_, _, _, _, _, _, _]) SR8), XR8⟩ rfl rfl rfl ?_
   refine i0a P9a rfl (fun w1 hw => by exact hw.1.cell 2 rfl ((congrArg (vs2[·]?) (show 0 + (k : Int).toNat * 1 = k by simp)).trans hvk)) rfl ?_
   refine p0a ?_
   refine w2a ⟨(St.front (A := [_, _, _, _, _, _, _]) SR8), XR8⟩ rfl rfl rfl ?_
   refine E0a L6b rfl rfl ?_
   refine p0a ?_
   refine w2a ⟨(St.front (A := [_, _, _, _, _, _, _]) SR8), XR8⟩ rfl rfl rfl ?_
   refine i0a N3a rfl (fun w1 hw => by exact hw.1.cell 0 rfl rfl) rfl ?_
   refine p0a ?_
   refine i7b ⟨(St.front (A := [_, _, _, _, _, _, _]) SR8), XR8⟩ rfl rfl rfl rfl ?_
   have hG43 : ∀ g ∈ (Gm.toList ++ (Ga.toList ++ ([gb, g3, g2] ++ M))) ++ k8a rows2, g < wR8.heap.size := fun g hg => Nat.lt_of_lt_of_le (hGl g hg) K.size
   refine F0a SR8 S9a rfl rfl (u3b _ M _ _ en.cells (hCe31.keep (SR8.keep0 M)) (by omega) hG43) ?_
   rintro v43 w43 hC43 S43 X43
   have XCw43 := XR8.trans (X43.mono (by simp))
   replace K := K.trans X43
   obtain ⟨_, _, _, rfl⟩ := hC43.form
   refine Z0a ⟨rfl, ?_⟩
   refine w2a ⟨(St.front (A := [_, _, _, _, _, _, _]) S43), XCw43⟩ rfl rfl rfl ?_
   refine E0a a6b rfl rfl ?_
   refine p0a ?_
   refine w2a ⟨(St.front (A := [_, _, _, _, _, _, _]) S43), XCw43⟩ rfl rfl rfl ?_
   refine i0a N3a rfl (fun w1 hw => by exact hw.1.cell 0 rfl rfl) rfl ?_
   refine p0a ?_
   refine i7b ⟨(St.front (A := [_, _, _, _, _, _, _]) S43), XCw43⟩ rfl rfl rfl rfl ?_
   have hG46 : ∀ g ∈ (Gm.toList ++ (Ga.toList ++ ([gb, g3, g2] ++ M))) ++ k8a rows2, g < w43.heap.size := fun g hg => Nat.lt_of_lt_of_le (hGl g hg) K.size
   refine F0a S43 S9a rfl rfl (u3b _ M _ _ en.values (hVa31.keep (S43.keep0 M)) (by omega) hG46) ?_
   rintro v46 w46 hC46 S46 X46
   have XCw46 := XCw43.trans (X46.mono (by simp))
   replace K := K.trans X46
   replace hC43 := hC43.keep (X46.of_nil)
   obtain ⟨_, _, _, rfl⟩ := hC46.form
   refine Z0a ⟨rfl, ?_⟩
   refine w2a ⟨(St.front (A := [_, _, _, _, _, _, _]) S46), XCw46⟩ rfl rfl rfl ?_
   refine f3a r4c (vs := [(0, .slice _ _ _), (1, .slice _ _ _)]) (cs := [_, _]) rfl rfl rfl rfl ?_
   refine p0a ?_
   refine i7b ⟨(St.front (A := [_, _, _, _, _, _, _]) S46), XCw46⟩ rfl rfl rfl rfl ?_
   refine y0a S46 t3a (vs := [.agg _]) (cs := [_, _]) (by rfl) rfl rfl rfl rfl rfl rfl ?_
   intro g48 w48 S48 X48 G48
   have XCw48 := XCw46.trans (X48.mono (by simp))
   replace K := K.trans X48
   replace hC43 := hC43.keep (X48.of_nil)
   replace hC46 := hC46.keep (X48.of_nil)
   refine Z0a ⟨rfl, ?_⟩
   refine i7b ⟨(St.front (A := [_, _, _, _, _, _, _, _]) S48).tail, XCw48⟩ rfl rfl rfl rfl ?_
   have hR3 := hR2.keep (K.of_nil)
   obtain ⟨G', cs'', _, hrk', hvk', hrow2⟩ := hR3.2.2 k (b.take j) (by rw [List.getElem?_set_self (by simp; omega)])
   obtain ⟨rfl, rfl⟩ : G = G' ∧ cs' = cs'' := by rw [hrk] at hrk'; cases hrk'; exact ⟨rfl, rfl⟩
   obtain rfl := Option.some.inj (hvk.symm.trans hvk')
   refine p1a p2a (k := 8 + k) (e1 := en) S48 t3a (by decide) ((a7c [_, _, _, _, _, _, _, _] rows2 k 8 rfl).trans hrk) hrow2 rfl rfl (S48.cells 0 rfl) ⟨_, _, rfl, hC43.more (by omega) (fun g hg => .inl (by rcases List.mem_append.1 hg with h | h; exact hGb g h; exact h)), hC46.more (by omega) (fun g hg => .inl (by rcases List.mem_append.1 hg with h | h; exact hGb g h; exact h))⟩ (by omega) rfl ?_
   intro v49 G49 cs49 w49 S49' hrow49 X49 F49
   have S49 : St [] w0 w49 ([_, _, _, _, _, _, _, _] ++ rows2.set k (G49, 121, cs49)) := (n9c [_, _, _, _, _, _, _, _] rows2 k 8 rfl _) ▸ S49'
   have S49b := S49.tail
   have XC49 := XCw48.trans X49
   have hR49 : o3a 121 (Gm.toList ++ (Ga.toList ++ ([gb, g3, g2] ++ M))) w49 (rows2.set k (G49, 121, cs49)) (vs2.set k v49) ((W2a c.buf [] k).set k (b.take (j + 1))) := by
    have := hR3.put (k := k) (by simp; omega) hrow49 X49 F49 hrk
    rw [List.set_set] at this
    rw [h1a hxen]; exact this
   obtain ⟨_, _, hv49⟩ := hrow49.form
   subst hv49
   refine Z0a ⟨rfl, ?_⟩
   refine w2a ⟨(St.front (A := [_, _, _, _, _, _, _]) S49b), XC49⟩ rfl rfl rfl ?_
   refine j0a H4a.slT rfl (by rfl) rfl (by omega) (by omega) rfl ?_
   refine p0a ?_
   refine J0b ⟨(St.front (A := [_, _, _, _, _, _, _]) S49b), XC49⟩ ?_
   first | refine w0a (kk := 2) S49b i8b rfl (by conv => lhs; whnf) rfl rfl (by (simp; omega)) ?_
   intro w8_18 S8_18 X8_18
   replace hR49 := hR49.keep (X8_18.mono (by simp))
   refine Z0a ⟨rfl, ?_⟩
   refine fP0 rfl ⟨by omega,⟨⟩⟩ ⟨μj - 1, by omega, rfl, (j + 1), (rows2.set k (G49, 121, cs49)), (vs2.set k _), (by omega), (hR49), (S8_18.tail.setEnt 1 rfl (by simp)), rfl⟩
  refine lP0 rfl ⟨by omega,⟨⟩⟩ ?_
  refine ⟨μk - 1, by omega, rfl, (k + 1), (rows2), (vs2), (by omega), (by rw [← j8a hxb rfl]; rw [List.take_of_length_le (by omega)] at hR2; exact hR2), S, rfl⟩
 refine lO0 rfl ⟨⟩ (m2a q1a rfl (S.cells 0 rfl) rfl rfl ?_)
 first | refine c0a (kk := 4) (vs := [_, _, _]) S O2a rfl rfl rfl rfl rfl rfl rfl ?_
 intro w11_1 S11_1 X11_1
 dsimp only [e0a, List.set] at S11_1
 replace hR := hR.keep (X11_1.mono (by simp))
 refine lR0 rfl ⟨⟩ ?_
 rw [S7a _ _ (by omega)] at hR
 refine t1a (n := 3) rfl q1a rfl (S11_1.cells 4 rfl) rfl ⟨⟨Gm, Ga, csm, csa, _, _, gb, rows, vs, by rw [← hnb], Rm, Ra, S11_1.sublist ?_, hR.less ?_⟩, S11_1.fin⟩
 ·exact .cons _ (.cons_cons _ (.cons_cons _ (.cons_cons _ (.cons _ (.cons _ (List.Sublist.refl _))))))
 ·intro g hg
  simp only [List.mem_append, List.mem_cons] at hg ⊢
  rcases hg with h | h | h | h <;> simp [h]
end Go.Proofs.YtjjmdcnmeommbaaGreatDoor
namespace Go.Fw
open Go.RowKit
section
variable {P : Program} {r : Option Nat} {N : Nat} {D : List Deferred} {e : Env} {w w0 : World} {ops : Array Oper} {rest : List Oper} {K : List Deferred → Env → World → Prop} {L : List Ent} {M : List Nat}
variable {d : Nat} {t : TypeId} {p : String} {af : Array Edge} {x y : Operand} {kd : IntKind}
theorem v4c {o : Oper} {v : Value} {w' : World} (hg : o.guard = none) (hdst : o.dst = none) (hdef : ∀ c, o.op ≠ .defer c)
 (hrun : (execOp (ev e) o).run P w = .ok (.value v) w') (h : WL P r N ops rest K D e w') : WL P r N ops (o :: rest) K D e w := by
 unfold WL at *; intro a Q hs hdd he hK
 have hrec := h a Q hs hdd he hK
 simp only [wpListIn, Region.wanted, hg, if_true]
 refine ⟨z0a o w _, ?_⟩
 have : Oper.semAt (fc r).round a.eval o = execOp (ev e) o := by rw [Oper.semAt_eq _ _ _ hdef, j2a, he]
 rw [this, hrun, Oper.uponIn_value, hdst]
 exact hrec
theorem q3b {ty el size bytes k n m c b o g cap : Nat} {z : Value} {cs xs news : List Value} (S : St M w0 w L) (hS : SlZ P ty el size z bytes) (hk : L[k]? = some (some g, el, cs)) (hR : G3a (some g) size n cs (.slice (some ⟨g, 0, none⟩) n cap) xs)
 (hx : ev e x = .slice (some ⟨g, 0, none⟩) n cap) (hy : ev e y = .slice (some ⟨b, o, none⟩) m c) (hnews : r1a w b o news) (hl : news.length = m * size) (h1 : ∀ u ∈ news, u.oneCell' = true) (hroom : n + m ≤ cap) (hd : Nat.ble (d + 1) N = true)
 (h : ∀ cs' w1, St M w0 w1 (L.set k (some g, el, cs')) → G3a (some g) size (n + m) cs' (.slice (some ⟨g, 0, none⟩) (n + m) cap) (xs ++ news) → C0a [g] w w1 → WL P r N ops rest K D (upd e d (.slice (some ⟨g, 0, none⟩) (n + m) cap)) w1) :
 WL P r N ops (⟨some d, .call { callee := .builtin .append, args := #[x, y], argTypes := #[ty, ty] }, t, p, af, none⟩ :: rest) K D e w := by
 obtain ⟨i, hi, _, hsz, _⟩ := hS.parts
 obtain ⟨hown, _⟩ := hR.own S hk
 obtain ⟨w1, hrun, hown', hgrow⟩ := run_append_fits (P := P) w 0 ty t el i size hS.und hi hsz g n cap xs hown ⟨b, o, none⟩ m c news hl (fun j u hj => by rw [Addr.add_lit]; exact hnews j u hj) h1 hroom
 obtain ⟨G', cs', hR', hG', hnew⟩ := w7a hown'
 obtain rfl : G' = some g := hG'.symm
 obtain ⟨_, hblk⟩ := hnew g rfl
 have hsame : ∀ q, q < w.heap.size → some g ≠ some q → w1.heap[q]? = w.heap[q]? := fun q hq hne => hgrow.block q hq hne.symm
 have hB : L0a [g] w w1 := ⟨hgrow.os, hgrow.tape, hgrow.output, hgrow.size, fun q hq hm => hsame q hq (fun hh => hm (by cases hh; simp))⟩
 refine c1a (v := .slice (some ⟨g, 0, none⟩) (n + m) cap) (w' := w1) rfl rfl hd (by simp) ?_ (h cs' w1 (S.changed1 k hk hB hblk) hR' ⟨hgrow.size, fun q hq hm => hsame q hq (fun hh => hm (by cases hh; simp))⟩)
 simp [execOp, resolve, invoke, builtin, hx, hy, hrun]
theorem O2c {ty el size bytes g o c tb kk : Nat} {z : Value} {cs : List Value} (S : St M w0 w L) (hS : SlZ P ty el size z bytes) (hx : ev e x = .slice (some ⟨g, o, none⟩) 1 c) (hk : L[kk]? = some (some g, tb, cs)) (ho : o + z.cells.toList.length ≤ cs.length) (h1 : ∀ v ∈ z.cells.toList, P6c v = true)
 (h : ∀ w1, St M w0 w1 (L.set kk (some g, tb, e0a cs o z.cells.toList)) → C0a [g] w w1 → WL P r N ops rest K D e w1) :
 WL P r N ops (⟨none, .call { callee := .builtin .clear, args := #[x], argTypes := #[ty] }, t, p, af, none⟩ :: rest) K D e w := by
 obtain ⟨_, hi, hz, _, _⟩ := hS.parts
 obtain ⟨w1, h2, h3, h4⟩ := St.setN (P := P) (o := o) z.cells.toList 0 cs w L hk S (by simpa using ho) h1
 have hzc : (Builtin.zeroCells z.cells 1).toList = z.cells.toList := by
  apply List.ext_getElem
  ·simp [Builtin.zeroCells]
  ·intro j q1 q2
   simp [Builtin.zeroCells] at q1 q2 ⊢
   simp [Nat.mod_eq_of_lt q2, q2]
 have hzv : ∀ w, (zeroValue el).run P w = .ok z w := fun w => by simp [zeroValue, typeInfo, hi, hz]
 refine v4c (v := .tuple #[]) rfl rfl (by simp) ?_ (h w1 h3 h4)
 simp [execOp, resolve, invoke, builtin, Builtin.clear_, hx, run_underlying hS.und, hzv, hzc, h2]
theorem Q1c {ty size lo hi mx c n o b : Nat} {xl xh xm : Operand} (hT : SlT P ty size) (hx : ev e x = .slice (some ⟨b, o, none⟩) n c) (hl : ev e xl = .int kd (lo : Int)) (hh : ev e xh = .int kd (hi : Int)) (hm : ev e xm = .int kd (mx : Int)) (h1 : lo ≤ hi) (h2 : hi ≤ mx) (h3 : mx ≤ c) (hd : Nat.ble (d + 1) N = true)
 (h : ∀ v, WL P r N ops rest K D (upd e d v) w) :
 WL P r N ops (⟨some d, .slice ty x (some xl) (some xh) (some xm), t, p, af, none⟩ :: rest) K D e w := by
 obtain ⟨_, hu, hsz⟩ := T4a hT
 have e0 : (0 : Int) ≤ (mx : Int) ∧ (mx : Int) ≤ (c : Int) := by omega
 have e1 : (0 : Int) ≤ (lo : Int) ∧ (lo : Int) ≤ (hi : Int) := by omega
 have e2 : (0 : Int) ≤ (hi : Int) ∧ (hi : Int) ≤ (mx : Int) := by omega
 refine c1a (v := .slice (if mx = lo then some ⟨b, o, none⟩ else some ⟨b, o + lo * size, none⟩) (hi - lo) (mx - lo)) rfl rfl hd (by simp) ?_ (h _)
 have hrun : (Instr.slice ty (.slice (some ⟨b, o, none⟩) n c) (some (.int kd (lo : Int))) (some (.int kd (hi : Int))) (some (.int kd (mx : Int)))).run P w = .ok (.slice (if mx = lo then some ⟨b, o, none⟩ else some ⟨b, o + lo * size, none⟩) (hi - lo) (mx - lo)) w := by
  simp [Instr.slice, Instr.sliceBounds, Instr.sliceBound, asIntOf, run_underlying hu, hsz, e0, e1, e2, h1, h2, h3, Addr.add_lit]
 simp only [execOp, Instr.sliceAt, Sem.run_bind, run_underlying hu, Result.andThen_ok, hx, Option.map_some, hl, hh, hm, hrun, Sem.run_pure]
end
theorem o3b {size : Nat} : ∀ (css : List (List Value)) (i : Nat), (∀ x ∈ css, x.length = size) → css.flatten.take (i * size) = (css.take i).flatten
 | [], i, _ => by simp
 | x :: css, 0, _ => by simp
 | x :: css, i + 1, h => by
   have hx := h x (by simp)
   rw [List.flatten_cons, List.take_succ_cons, List.flatten_cons, ← o3b css i (fun y hy => h y (by simp [hy])), Nat.add_mul, Nat.one_mul, List.take_append, hx, Nat.add_sub_cancel, List.take_of_length_le (by omega)]
theorem I3b {size : Nat} : ∀ (css : List (List Value)) (i : Nat), (∀ x ∈ css, x.length = size) → css.flatten.drop (i * size) = (css.drop i).flatten
 | [], i, _ => by simp
 | x :: css, 0, _ => by simp
 | x :: css, i + 1, h => by
   have hx := h x (by simp)
   rw [List.flatten_cons, List.drop_succ_cons, ← I3b css i (fun y hy => h y (by simp [hy])), Nat.add_mul, Nat.one_mul, List.drop_append, hx, Nat.add_sub_cancel, List.drop_eq_nil_of_le (by omega), List.nil_append]
theorem d6a : ∀ (vs cs : List Value) (o : Nat), (e0a cs o vs).length = cs.length
 | [], _, _ => rfl
 | v :: vs, cs, o => by rw [e0a, d6a vs, List.length_set]
theorem d0b : ∀ (vs cs : List Value) (o n : Nat), n ≤ o → (e0a cs o vs).take n = cs.take n
 | [], _, _, _, _ => rfl
 | v :: vs, cs, o, n, h => by rw [e0a, d0b vs _ _ _ (by omega), List.take_set_of_le h]
end Go.Fw
namespace Go.Proofs.YtjjmdcnmeommbaaGreatDoor
open Go.Fw Go.RowKit
theorem b8b (g cap n i : Nat) (css : List (List Value)) (cs : List Value) (w0 : World) (hB : t0a w0 (g, 121, cs)) (hR : G3a (some g) 2 n cs (.slice (some ⟨g, 0, none⟩) n cap) css.flatten) (hn : css.length = n) (h2 : ∀ x ∈ css, x.length = 2) (h1 : ∀ u ∈ css.flatten, u.oneCell' = true) (hi : i < n) (hbig : n ≤ 1000000) :
 R0a Tryz.prog 178 #[.slice (some ⟨g, 0, none⟩) n cap, .int .i64 i, .int .i64 ((i : Int) + 1)] w0 fun v w' => v = .slice (some ⟨g, 0, none⟩) (n - 1) cap ∧ L0a [g] w0 w' ∧ ∃ cs', t0a w' (g, 121, cs') ∧ G3a (some g) 2 (n - 1) cs' (.slice (some ⟨g, 0, none⟩) (n - 1) cap) (css.eraseIdx i).flatten := by
 have S := St.borrow1 hB
 obtain ⟨_, r2⟩ := hR
 obtain ⟨hcap, hmax, hcl, htk⟩ : n ≤ cap ∧ cap ≤ maxLen ∧ cs.length = cap * 2 ∧ cs.take (n * 2) = css.flatten := by
  rcases r2 with ⟨h, _⟩ | ⟨g', cap', h, h', a, b, c, d⟩
  ·cases h
  ·cases h; cases h'; exact ⟨a, b, c, d⟩
 have hpre : G3a (some g) 2 i cs (.slice (some ⟨g, 0, none⟩) i cap) (css.take i).flatten := by
  refine ⟨?_, .inr ⟨g, cap, rfl, rfl, by omega, hmax, hcl, ?_⟩⟩
  ·rw [d4a _ (fun x hx => h2 x (List.mem_of_mem_take hx)), List.length_take]; congr 1; omega
  ·rw [← o3b css i h2, ← htk, List.take_take]; congr 1; omega
 have hsrc : ∃ o, (if cap = i + 1 then (⟨g, 0, none⟩ : Addr) else ⟨g, 0 + (i + 1) * 2, none⟩) = ⟨g, o, none⟩ ∧ r1a w0 g o (css.drop (i + 1)).flatten := by
  by_cases hc : cap = i + 1
  ·refine ⟨0, by rw [if_pos hc], ?_⟩
   rw [List.drop_eq_nil_of_le (by omega)]
   intro j v hj; simp at hj
  ·refine ⟨0 + (i + 1) * 2, by rw [if_neg hc], fun j v hj => ?_⟩
   rw [← I3b css (i + 1) h2, ← htk, List.getElem?_drop, List.getElem?_take] at hj
   split at hj
   ·exact hB.cell (by rw [Nat.zero_add]; exact hj)
   ·cases hj
 obtain ⟨_, hos, hcells⟩ := hsrc
 have hnl : (css.drop (i + 1)).flatten.length = (n - (i + 1)) * 2 := by rw [d4a _ (fun x hx => h2 x (List.mem_of_mem_drop hx)), List.length_drop, hn]
 have hone : ∀ u ∈ (css.drop (i + 1)).flatten, u.oneCell' = true := fun u hu => h1 u (by
  obtain ⟨x, hx, hu⟩ := List.mem_flatten.1 hu
  exact List.mem_flatten.2 ⟨x, List.mem_of_mem_drop hx, hu⟩)
 have hcast : ((i : Int) + 1) = ((i + 1 : Nat) : Int) := by omega
 refine a0a Tryz.func178 rfl Tryz.ntmps178 rfl ?_
 refine wO0 rfl ⟨⟩ ?_
 refine Q1c (lo := i) (hi := i + 1) (mx := n) t3a.slT rfl rfl (by rw [← hcast]; rfl) rfl (by omega) (by omega) hcap rfl ?_
 intro v13
 refine lB0 rfl ⟨⟩ (fun h16 => by exfalso; omega) fun h16 => ?_
 refine lC0 rfl ⟨⟩ (x0a b0a [0, 1, 2, 3, 4, 5] [] [6, 7] (by kernel_rfl) rfl (Cl _ _ _ _) (Cl.start S) ?_)
 refine qO0 rfl ⟨⟩ (H5b (lo := 0) (hi := i) (kd := .i64) t3a.slT rfl (.inl ⟨rfl, rfl⟩) (.inr rfl) (by omega) (by omega) hcap rfl ?_)
 simp only [Nat.zero_mul, Nat.add_zero, Nat.sub_zero, ite_self]
 refine qO0 rfl ⟨⟩ ?_
 refine H5b (lo := i + 1) (hi := n) (kd := .i64) t3a.slT rfl (.inr (by rw [← hcast]; rfl)) (.inl ⟨rfl, rfl⟩) (by omega) (by omega) hcap rfl ?_
 rw [hos]
 refine qD rfl ⟨⟩ ?_
 rintro wR5 ⟨SR5, XR5⟩
 refine q3b (k := 0) SR5 t3a rfl hpre rfl rfl (hcells.keep (M := []) XR5 (by simp)) hnl hone (by omega) rfl ?_
 intro cs26 w26 S26 R26 X26
 have e26 : i + (n - (i + 1)) = n - 1 := by omega
 rw [e26] at R26 ⊢
 refine lO0 rfl ⟨⟩ (x1b (lo := n - 1) (hi := n) (kd := .i64) t3a.slT rfl (.inr rfl) (.inr rfl) (by omega) (by omega) (by omega) rfl ?_)
 rw [if_neg (show ¬ cap = n - 1 by omega), show n - (n - 1) = 1 by omega]
 obtain ⟨rc, rt⟩ : cs26.length = cap * 2 ∧ cs26.take ((n - 1) * 2) = (css.take i).flatten ++ (css.drop (i + 1)).flatten := by
  rcases R26.2 with ⟨h, _⟩ | ⟨g', cap', h, h', a, b, c, d⟩
  ·cases h
  ·cases h; cases h'; exact ⟨c, d⟩
 refine O2c (kk := 0) S26 t3a rfl rfl (by rw [rc]; simp [Value.cells]; omega) (by simp [Value.cells, P6c]) ?_
 intro w65 S65 X65
 refine lT rfl ⟨⟩ rfl ⟨rfl, S65.below, _, S65.blk 0 rfl, ?_, .inr ⟨g, cap, rfl, rfl, by omega, hmax, ?_, ?_⟩⟩
 ·rw [d4a _ (fun x hx => h2 x (List.mem_of_mem_eraseIdx hx)), List.length_eraseIdx, if_pos (by omega), hn]
 ·rw [d6a]; exact rc
 ·rw [d0b _ _ _ _ (by omega), rt, List.eraseIdx_eq_take_drop_succ, List.flatten_append]
theorem n9b (p : d0a) (hp : T0a p) (c : D0a) (t i : Nat) (b : List I0a) (M : List Nat) (w0 : World) (hM : ∀ g ∈ M, g < w0.heap.size) (cs xs : List Value) (m : Int) (hI : InP p M w0 cs) (hX : O0a M w0 c xs) (hf : b6a p c) (hxb : c.buf[t]? = some b) (hi : i < b.length) :
 R0a Tryz.prog 138 #[.agg (xs ++ (cs ++ [Value.int .i64 m])).toArray, .int .i64 t, .int .i64 i] w0 fun v w' => (∃ ys, v = .agg ys.toArray ∧ O0a M w' (G5a c t i) ys) ∧ Below w0.heap.size w0 w' := by
 obtain ⟨_, _, _, _, _, _, _, _, _, _, _, _, rfl, -⟩ := hI.rd.open_
 obtain ⟨_, _, _, _, _, _, _, _, _, rfl, _, _, _, _, _, _, _, _, _⟩ := hX.open_
 have S := St.refl w0
 have f1 := hf.mem.len
 have n1 := hp.ncells
 have n2 := hp.nthreads
 have f3 := hf.nbuf
 have ht := D1a hxb
 have hbo := hf.bufs t b hxb
 have hf' := b1b hf t i
 obtain ⟨en, hxen⟩ : ∃ en, b[i]? = some en := ⟨b[i], List.getElem?_eq_getElem hi⟩
 have q1 := hbo.2.1 en (f0a hxen)
 have q2 := q1.i64s
 have q3 : 0 < c.mem.length := by
  cases hcl : en.cells with
  | nil => exact absurd hcl q1.some_
  | cons x l => have := q2 x (by rw [hcl]; simp); omega
 have hce : G5a c t i = ⟨P3a c.mem en, c.at_, c.buf.set t (b.eraseIdx i)⟩ := by unfold G5a; rw [getD_some hxb, getD_some hxen]
 rw [hce] at hf' ⊢
 refine a0a Tryz.func138 rfl Tryz.ntmps138 rfl ?_
 refine wO0 rfl ⟨⟩ (m0a S (by conv => lhs; whnf) rfl ?_)
 intro g3 w3 S3 X3 G3
 refine k0a S3 g6a rfl rfl ?_
 intro g6 w6 S6 X6 G6
 refine lO S6.k [.o 1] rfl ⟨rfl,⟨⟩⟩ ?_
 have hX2 : O0a (g6 :: g3 :: M) w6 c _ := (hX.more (fun g hg => by rcases List.mem_cons.1 hg with rfl | hg; exact .inr (by simpa using S6.new 0 rfl); rcases List.mem_cons.1 hg with rfl | hg; exact .inr (by simpa using S6.new 1 rfl); exact .inl hg)).keep (S6.keep0 _)
 have hM2 : ∀ g ∈ g6 :: g3 :: M, g < w6.heap.size := fun g hg => by
  rcases List.mem_cons.1 hg with rfl | hg
  ·exact S6.lt 0 rfl
  ·rcases List.mem_cons.1 hg with rfl | hg
   ·exact S6.lt 1 rfl
   ·have := hM g hg; have := S6.size; omega
 refine q3a h8b rfl rfl (U6b p hp c (g6 :: g3 :: M) _ hM2 _ hX2 hf) ?_
 rintro v10 w10 ⟨⟨_, _, _, _, _, _, _, rows, vs, rfl, Rm, Ra, S10', hR⟩, -⟩
 have S10 := S6.joinR S10'
 obtain ⟨gm, pad, rfl, rfl, rfl, hmx⟩ := Rm.pad q3
 obtain ⟨_, _, _, rfl⟩ := Ra.form
 have K := C0a.refl [] w10
 refine k0a S10 g6a rfl rfl ?_
 intro g7 w7 S7 X7 G7
 have GK7 := Nat.le_trans K.size G7
 replace K := K.trans X7
 refine c0a (kk := 0) (vs := [_, _, _]) S7 O2a rfl rfl rfl rfl rfl rfl rfl ?_
 intro w1_4 S1_4 X1_4
 dsimp only [e0a, List.set] at S1_4
 replace K := K.fresh X1_4 (by first | exact GK7)
 have hR2 := hR.keep (K.of_nil)
 obtain ⟨G, cs', v, hrk, hvk, hrow⟩ := hR2.2.2 t b hxb
 obtain ⟨g, cap, _, rfl, rfl, _, hcE, hrE⟩ := hrow.get S1_4 (k := 6 + t) ((a7c [_, _, _, _, _, _] rows t 6 rfl).trans hrk) hxen
 obtain ⟨_, _, _, _, _, _, rfl, -⟩ := hrE.open_
 have hvl : vs.length = c.buf.length := hR2.2.1
 refine lC0 rfl ⟨⟩ (x0a b0a [0, 1, 2, 3, 4, 5, 6, 7, 8, 9] [] [10] (by kernel_rfl) rfl (Cl _ _ _ _) (Cl.start S1_4) ?_)
 refine qO S1_4.q [.o 0,.o 0] rfl ⟨rfl,rfl,⟨⟩⟩ (j0a H4a.slT rfl (by rfl) rfl (by omega) (by omega) rfl ?_)
 refine i0a P9a rfl (fun w1 hw => by exact hw.1.cell 1 rfl ((congrArg (vs[·]?) (show 0 + (t : Int).toNat * 1 = t by simp)).trans hvk)) rfl ?_
 refine qO0 rfl ⟨⟩ (j0a t3a.slT rfl (by rfl) rfl (by omega) (by omega) rfl ?_)
 refine J3a i2b rfl (fun w1 hw => hcE.keep (M := []) hw.2 (by simp)) (by rfl) rfl ?_
 refine qD rfl ⟨⟩ ?_
 rintro wR2 ⟨SR2, XR2⟩
 refine q3a q0c rfl rfl (e6b en c.mem gm _ pad (gm :: []) _ _ (e1a.keep XR2.of_nil _ _ (e1a.more (fun x hx => by simp at hx; subst hx; simp) _ _ hrE)) (by simp) (SR2.blk 3 rfl) q1.even (fun x hx => by have := q2 x hx; omega)) ?_
 rintro v21 w21 ⟨hb21, B21⟩
 have S21 := SR2.changed1 3 rfl B21 hb21
 have X21 : C0a [gm] _ w21 := C0a.of_belowB B21
 have hR3 := (hR2.keep XR2.of_nil).keep (X21.mono (by simp))
 refine lC0 rfl ⟨⟩ (E0b b0a (fun i => [0, 1, 2, 3, 4, 5, 6, 7, 8, 9, 10, 12].contains i) [0, 1, 2, 3, 4, 5, 6, 7, 8, 9, 10, 11, 12] 13 (by kernel_rfl) (by kernel_rfl) (clF (A := [_, _, _, _, _, _]) (R := rows) S21 [g]) _ rfl ?_)
 have SR3 := S21.drew
 have YR3 : C0a [] w21 w21.drew := z2a _ _
 generalize w21.drew = wR3 at SR3 YR3 ⊢
 have XR3 : C0a ([g]) _ _ := YR3.of_nil
 refine w2a ⟨(St.front (A := [_, _, _, _, _, _]) SR3), XR3⟩ rfl rfl rfl ?_
 refine E0a R4a rfl rfl ?_
 refine p0a ?_
 refine w2a ⟨(St.front (A := [_, _, _, _, _, _]) SR3), XR3⟩ rfl rfl rfl ?_
 refine i0a p6a rfl (fun w1 hw => by exact hw.1.cell 0 rfl rfl) rfl ?_
 refine p0a ?_
 refine w2a ⟨(St.front (A := [_, _, _, _, _, _]) SR3), XR3⟩ rfl rfl rfl ?_
 refine I1a (v := .int .i64 _) rfl rfl ?_
 refine p0a ?_
 refine w2a ⟨(St.front (A := [_, _, _, _, _, _]) SR3), XR3⟩ rfl rfl rfl ?_
 refine E0a R4a rfl rfl ?_
 refine p0a ?_
 refine w2a ⟨(St.front (A := [_, _, _, _, _, _]) SR3), XR3⟩ rfl rfl rfl ?_
 refine i0a p6a rfl (fun w1 hw => by exact hw.1.cell 0 rfl rfl) rfl ?_
 refine p0a ?_
 refine w2a ⟨(St.front (A := [_, _, _, _, _, _]) SR3), XR3⟩ rfl rfl rfl ?_
 refine I1a (v := .int .i64 _) rfl rfl ?_
 refine p0a ?_
 refine w2a ⟨(St.front (A := [_, _, _, _, _, _]) SR3), XR3⟩ rfl rfl rfl ?_
 refine j0a H4a.slT rfl (by rfl) rfl (by omega) (by omega) rfl ?_
 refine p0a ?_
 refine w2a ⟨(St.front (A := [_, _, _, _, _, _]) SR3), XR3⟩ rfl rfl rfl ?_
 refine i0a P9a rfl (fun w1 hw => by exact hw.1.cell 1 rfl ((congrArg (vs[·]?) (show 0 + (t : Int).toNat * 1 = t by simp)).trans hvk)) rfl ?_
 refine p0a ?_
 refine w2a ⟨(St.front (A := [_, _, _, _, _, _]) SR3), XR3⟩ rfl rfl rfl ?_
 refine I1a (v := .int .i64 _) rfl rfl ?_
 refine p0a ?_
 refine w2a ⟨(St.front (A := [_, _, _, _, _, _]) SR3), XR3⟩ rfl rfl rfl ?_
 refine I1a (v := .int .i64 _) rfl rfl ?_
 refine p0a ?_
 refine w2a ⟨(St.front (A := [_, _, _, _, _, _]) SR3), XR3⟩ rfl rfl rfl ?_
 refine Q9c rfl rfl (by unfold i64; omega) rfl ?_
 refine p0a ?_
 refine i7b ⟨(St.front (A := [_, _, _, _, _, _]) SR3), XR3⟩ rfl rfl rfl rfl ?_
 have hR5 := hR3.keep YR3.of_nil
 obtain ⟨G', cs'', _, hrk', hvk', hrow3⟩ := hR5.2.2 t b hxb
 obtain ⟨rfl, rfl⟩ : some g = G' ∧ cs' = cs'' := by rw [hrk] at hrk'; cases hrk'; exact ⟨rfl, rfl⟩
 obtain rfl := Option.some.inj (hvk.symm.trans hvk')
 obtain ⟨css, l1, l2, rv, l4⟩ := hrow3
 refine q3a Y4c rfl rfl (b8b g cap b.length i css cs' _ (SR3.blk (6 + t) ((a7c [_, _, _, _, _, _] rows t 6 rfl).trans hrk)) rv l1 l2 (g5c l1 l4) hi (by omega)) ?_
 rintro v33 w33 ⟨rfl, B33, cs33, hb33, R33⟩
 have X33 : C0a [g] _ w33 := C0a.of_belowB B33
 have S33 : St [] w0 w33 ([_, _, _, _, _, _] ++ rows.set t (some g, 121, cs33)) := (n9c [_, _, _, _, _, _] rows t 6 rfl _) ▸ SR3.changed1 (6 + t) ((a7c [_, _, _, _, _, _] rows t 6 rfl).trans hrk) B33 hb33
 have XC33 := XR3.trans X33
 have hR4 := hR5.put (k := t) ht (s2a.erase p2a l1 l2 l4 hi R33 (X33.mono (by simp))) (G := some g) (by simpa using X33) (fun g hg => .inl hg) hrk
 refine Z0a ⟨rfl, ?_⟩
 refine w2a ⟨(St.front (A := [_, _, _, _, _, _]) S33), XC33⟩ rfl rfl rfl ?_
 refine j0a H4a.slT rfl (by rfl) rfl (by omega) (by omega) rfl ?_
 refine p0a ?_
 refine J0b ⟨(St.front (A := [_, _, _, _, _, _]) S33), XC33⟩ ?_
 first | refine w0a (kk := 1) S33 i8b rfl (by conv => lhs; whnf) rfl rfl (by (simp; omega)) ?_
 intro w3_13 S3_13 X3_13
 replace hR4 := hR4.keep (X3_13.mono (by simp))
 refine Z0a ⟨rfl, ?_⟩
 refine fO S3_13.k [.w 0] rfl ⟨⟨rfl,by rfl⟩,⟨⟩⟩ ?_
 first | refine c0a (kk := 4) (vs := [_, _, _]) S3_13 O2a rfl rfl rfl rfl rfl rfl rfl ?_
 intro w4_1 S4_1 X4_1
 dsimp only [e0a, List.set] at S4_1
 replace hR4 := hR4.keep (X4_1.mono (by simp))
 refine lR0 rfl ⟨⟩ ?_
 have SF := S4_1.setEnt 1 rfl (show _ = vs.set t (.slice (some ⟨g, 0, none⟩) (b.length - 1) cap) by simp)
 refine t1a (n := 3) rfl q1a rfl (SF.cells 4 rfl) rfl ⟨⟨_, rfl, _, _, _, rfl, ?_, Ra.rdI SF (k := 2) rfl hM (A8a hp hf) (by omega), ?_⟩, SF.fin⟩
 ·have := (G3a.ofPad (g := gm) (l := P3a c.mem en) (pad := pad) (by simpa using hmx)).rdI SF (k := 3) rfl hM (Q4a hp hf'.mem) (by simp; omega)
  simpa using this
 ·have hA := SF.apartM (A := [_, _, _, _, _, _]) hM
  have := SF.rdBs (M := M) 1 rfl (U0a hM (SF.new 1 rfl)) (bs := c.buf.set t (b.eraseIdx i)) (by simp; omega) (hR4.rd (A := [_, _, _, _, _, _]) SF (Mx := M) (fun g hg => by simp [hg]) hA (fun x hx => by
   obtain ⟨k, hk, rfl⟩ := List.getElem_of_mem hx
   have := (hf'.bufs k _ (List.getElem?_eq_getElem hk)).1
   omega))
  rw [List.length_set] at this
  exact this
end Go.Proofs.YtjjmdcnmeommbaaGreatDoor
namespace Go.Fw
open Go.RowKit
def Raw (size : Nat) (cs x : List Value) : Prop := cs = x ∧ x.length = size ∧ ∀ u ∈ x, u.oneCell' = true
theorem h8a (size : Nat) : B7a (fun (_ : List Nat) (_ : World) => Raw size) size where
 len h := by rw [h.1]; exact h.2.1
 one h u hu := by rw [h.1] at hu; exact h.2.2 u hu
 keep _ h := h
 more _ h := h
abbrev t6a (size : Nat) (w0 : World) (G : Option Nat) (cs : List Value) (v : Value) (css : List (List Value)) : Prop := s2a (fun _ _ => Raw size) size [] w0 G cs v css
section
variable {size : Nat}
theorem h6b {u : Value} : ∀ (css : List (List Value)) (i j : Nat) (c : List Value), (∀ x ∈ css, x.length = size) → css[i]? = some c → j < size → css.flatten.set (i * size + j) u = (css.set i (c.set j u)).flatten
 | [], i, j, c, _, hi, _ => by simp at hi
 | x :: css, 0, j, c, hl, hi, hj => by
   simp at hi; subst hi
   have hx := hl x (by simp)
   rw [List.flatten_cons, Nat.zero_mul, Nat.zero_add, List.set_append_left _ _ (by omega)]
   simp
 | x :: css, i + 1, j, c, hl, hi, hj => by
   have hx := hl x (by simp)
   have := h6b (u := u) css i j c (fun y hy => hl y (by simp [hy])) (by simpa using hi) hj
   rw [List.flatten_cons, List.set_append_right _ _ (by rw [Nat.add_mul]; omega), List.set_cons_succ, List.flatten_cons, ← this]
   congr 2
   rw [Nat.add_mul]; omega
theorem p9a : ∀ (us : List Value) (css : List (List Value)) (i j : Nat) (c : List Value), (∀ x ∈ css, x.length = size) → css[i]? = some c → j + us.length ≤ size → e0a css.flatten (i * size + j) us = (css.set i (e0a c j us)).flatten
 | [], css, i, j, c, _, hi, _ => by rw [e0a, e0a, j6b hi]
 | u :: us, css, i, j, c, hl, hi, hj => by
   have hil := (List.getElem?_eq_some_iff.1 hi).1
   have hcl := hl c (List.mem_of_getElem? hi)
   simp only [List.length_cons] at hj
   rw [e0a, h6b css i j c hl hi (by omega), show i * size + j + 1 = i * size + (j + 1) by omega]
   rw [p9a us (css.set i (c.set j u)) i (j + 1) (c.set j u) (fun x hx => by
    rcases List.mem_or_eq_of_mem_set hx with h | h
    ·exact hl x h
    ·rw [h, List.length_set]; exact hcl) (by rw [List.getElem?_set_self hil]) (by omega)]
   rw [List.set_set, e0a]
theorem t8a : ∀ (us cs : List Value) (o n : Nat), (e0a cs o us).take n = e0a (cs.take n) o us
 | [], _, _, _ => rfl
 | u :: us, cs, o, n => by rw [e0a, t8a us, e0a, List.take_set]
theorem L0b : ∀ (us cs : List Value) (o : Nat), (∀ u ∈ cs, u.oneCell' = true) → (∀ u ∈ us, u.oneCell' = true) → ∀ u ∈ e0a cs o us, u.oneCell' = true
 | [], _, _, h, _ => h
 | v :: us, cs, o, h, h2 => by
   rw [e0a]
   refine L0b us _ _ (fun u hu => ?_) (fun u hu => h2 u (by simp [hu]))
   rcases List.mem_or_eq_of_mem_set hu with hu | rfl
   ·exact h u hu
   ·exact h2 u (by simp)
theorem t6a.put {w0 : World} {G : Option Nat} {cs us c : List Value} {v : Value} {css : List (List Value)} {i j o : Nat} (h : t6a size w0 G cs v css) (hi : css[i]? = some c) (ho : o = i * size + j) (hj : j + us.length ≤ size) (h1 : ∀ u ∈ us, u.oneCell' = true) : t6a size w0 G (e0a cs o us) v (css.set i (e0a c j us)) := by
 subst ho
 obtain ⟨xs, _, q2, ⟨_, hr⟩, q4⟩ := h
 have hx : xs = css := by
  refine List.ext_getElem? fun k => ?_
  cases hk : css[k]? with
  | none => rw [List.getElem?_eq_none_iff] at hk ⊢; omega
  | some x => obtain ⟨y, h5, h6⟩ := q4 k x hk; rw [h5, h6.1]
 subst hx
 have hil := (List.getElem?_eq_some_iff.1 hi).1
 have hco : ∀ u ∈ c, u.oneCell' = true := by
  obtain ⟨y, h5, h6⟩ := q4 i c hi
  exact h6.2.2
 have hcl := q2 c (List.mem_of_getElem? hi)
 have hln : (e0a c j us).length = size := by rw [d6a]; exact hcl
 have hlen : ∀ x ∈ xs.set i (e0a c j us), x.length = size := fun x hx => by
  rcases List.mem_or_eq_of_mem_set hx with h | rfl
  ·exact q2 x h
  ·exact hln
 refine ⟨xs.set i (e0a c j us), rfl, hlen, ⟨?_, ?_⟩, fun k x hk => ?_⟩
 ·rw [d4a _ hlen]
 ·rcases hr with ⟨rfl, rfl, h0⟩ | ⟨g, cap, rfl, rfl, r1, r2, r3, r4⟩
  ·omega
  ·refine .inr ⟨g, cap, rfl, by rw [List.length_set], by rw [List.length_set]; exact r1, r2, by rw [d6a]; exact r3, ?_⟩
   rw [t8a, List.length_set, r4, p9a us xs i j c q2 hi hj]
 ·refine ⟨x, hk, rfl, ?_, ?_⟩
  ·exact hlen x (List.mem_of_getElem? hk)
  ·rcases List.mem_or_eq_of_mem_set (List.mem_of_getElem? hk) with h | rfl
   ·obtain ⟨n, hn⟩ := List.getElem?_of_mem h
    obtain ⟨y, h5, h6⟩ := q4 n x hn
    exact h6.2.2
   ·exact L0b us c j hco h1
theorem t6a.len {w0 : World} {G : Option Nat} {cs : List Value} {A : Option Addr} {n c : Nat} {css : List (List Value)} (h : t6a size w0 G cs (.slice A n c) css) : n = css.length := by
 obtain ⟨_, _, he⟩ := h.form
 simp only [Value.slice.injEq] at he
 exact he.2.1
theorem t6a.at {w0 : World} {G : Option Nat} {cs : List Value} {A : Option Addr} {n c : Nat} {css : List (List Value)} (h : t6a size w0 G cs (.slice A n c) css) (h0 : 0 < n) : ∃ g, G = some g ∧ A = some ⟨g, 0, none⟩ := by
 have hn := h.len
 obtain ⟨_, _, _, ⟨_, hr⟩, _⟩ := h
 rcases hr with ⟨rfl, he, h5⟩ | ⟨g, cap, rfl, he, -⟩
 ·omega
 ·simp only [Value.slice.injEq] at he
  exact ⟨g, rfl, he.1⟩
theorem t6a.cap {w0 : World} {G : Option Nat} {cs : List Value} {v : Value} {css : List (List Value)} (h : t6a size w0 G cs v css) : css.length * size ≤ cs.length ∨ css = [] := by
 obtain ⟨_, _, _, ⟨_, hr⟩, _⟩ := h
 rcases hr with ⟨rfl, he, h5⟩ | ⟨g, cap, rfl, he, r1, r2, r3, r4⟩
 ·exact .inr (List.length_eq_zero_iff.1 h5)
 ·left; rw [r3]; exact Nat.mul_le_mul_right _ r1
theorem t6a.rd {α : Type} {R : List Value → α → Prop} {M M' : List Nat} {w0 w : World} {L : List Ent} {k el : Nat} {G : Option Nat} {cs : List Value} {v : Value} {css : List (List Value)} {l : List α} (h : t6a size w0 G cs v css) (S : St M' w0 w L) (hk : L[k]? = some (G, el, cs)) (hM : ∀ g, G = some g → g ∉ M) (hl : l.length ≤ 1000000) (hln : css.length = l.length)
 (he : ∀ (i : Nat) (x : α), l[i]? = some x → ∃ c, css[i]? = some c ∧ R c x) : RdS M w size R v l := by
 obtain ⟨A, n, c, rfl, _, h2, h3, h4, h5⟩ := s2a.rd (M := M) (h8a size) (w := w) (show s2a (fun _ _ => Raw size) size M w G cs v css from h) S hk hM (by omega)
 refine ⟨A, n, c, rfl, by omega, h2, h3, h4, fun hp => ?_⟩
 obtain ⟨b, o, hA, hb, hel⟩ := h5 hp
 refine ⟨b, o, hA, hb, fun i x hi => ?_⟩
 obtain ⟨y, h6, h7⟩ := he i x hi
 obtain ⟨z, z1, z2, z3⟩ := hel i y h6
 exact ⟨z, z1, z2, by rw [z3.1]; exact h7⟩
theorem RdS.raw {α : Type} {R : List Value → α → Prop} {M : List Nat} {w : World} {v : Value} {l : List α} (h : RdS M w size R v l) (hR : ∀ cs x, R cs x → cs.length = size ∧ ∀ u ∈ cs, u.oneCell' = true) :
 ∃ css : List (List Value), css.length = l.length ∧ RdS M w size (Raw size) v css ∧ ∀ (i : Nat) (x : α), l[i]? = some x → ∃ c, css[i]? = some c ∧ R c x := by
 obtain ⟨A, n, c, rfl, h1, h2, h3, h4, h5⟩ := h
 by_cases h0 : l = []
 ·subst h0
  refine ⟨[], rfl, ⟨A, n, c, rfl, h1, h2, h3, h4, fun hp => ?_⟩, fun i x hi => by simp at hi⟩
  simp at h1; omega
 have hpos : 0 < l.length := List.length_pos_iff.2 h0
 obtain ⟨b, o, hA, hb, hel⟩ := h5 (by omega)
 have key : ∀ (l2 : List α) (q : Nat), (∀ i x, l2[i]? = some x → ∃ cs, cs.length = size ∧ r1a w b (o + (q + i) * size) cs ∧ R cs x) → ∃ css : List (List Value), css.length = l2.length ∧ ∀ (i : Nat) (x : α), l2[i]? = some x → ∃ c, css[i]? = some c ∧ r1a w b (o + (q + i) * size) c ∧ R c x := by
  intro l2
  induction l2 with
  | nil => intro q _; exact ⟨[], rfl, fun i x hi => by simp at hi⟩
  | cons a l2 ih =>
    intro q hq
    obtain ⟨cs, _, k2, k3⟩ := hq 0 a rfl
    obtain ⟨css, m1, m2⟩ := ih (q + 1) (fun i x hi => by
     obtain ⟨cs, n1, n2, n3⟩ := hq (i + 1) x (by simpa using hi)
     exact ⟨cs, n1, by rw [show q + 1 + i = q + (i + 1) by omega]; exact n2, n3⟩)
    refine ⟨cs :: css, by simp [m1], fun i x hi => ?_⟩
    cases i with
    | zero => simp at hi; subst hi; exact ⟨cs, rfl, k2, k3⟩
    | succ i =>
      obtain ⟨c, c1, c2, c3⟩ := m2 i x (by simpa using hi)
      exact ⟨c, by simpa using c1, by rw [show q + (i + 1) = q + 1 + i by omega]; exact c2, c3⟩
 obtain ⟨css, m1, m2⟩ := key l 0 (fun i x hi => by simpa using hel i x hi)
 refine ⟨css, m1, ⟨A, n, c, rfl, by omega, h2, h3, h4, fun _ => ⟨b, o, hA, hb, fun i x hi => ?_⟩⟩, fun i x hi => ?_⟩
 ·have hil := (List.getElem?_eq_some_iff.1 hi).1
  obtain ⟨c', c1, c2, c3⟩ := m2 i (l[i]'(by omega)) (List.getElem?_eq_getElem _)
  rw [hi] at c1; cases c1
  obtain ⟨r1, r2⟩ := hR x _ c3
  exact ⟨x, r1, by simpa using c2, rfl, r1, r2⟩
 ·obtain ⟨c', c1, c2, c3⟩ := m2 i x hi
  exact ⟨c', c1, c3⟩
end
end Go.Fw
namespace Go.Fw
open Go.RowKit
def d3b (p : d0a) (s : m1a) (k : Nat) : List N1a := if s.kind = 3 then (s.set.take k).filter (fun a => k1a p.cells a.cell = -1) else []
def u0b (p : d0a) (s : m1a) (k : Nat) : List N1a := if s.kind = 3 then (s.set.take k).filter (fun a => k1a p.cells a.cell ≠ -1) else s.set.take k
section
variable {p : d0a} {s : m1a} {k : Nat} {a : N1a}
theorem z3b : d3b p s 0 = [] := by unfold d3b; simp
theorem c8b : u0b p s 0 = [] := by unfold u0b; simp
theorem L2b (h3 : s.kind = 3) (hx : s.set[k]? = some a) (ht : k1a p.cells a.cell = -1) : d3b p s (k + 1) = d3b p s k ++ [a] ∧ u0b p s (k + 1) = u0b p s k := by
 unfold d3b u0b
 rw [if_pos h3, if_pos h3, if_pos h3, if_pos h3, h1a hx, List.filter_append, List.filter_append]
 simp [ht]
theorem X7a (hx : s.set[k]? = some a) (ht : s.kind = 3 → ¬ k1a p.cells a.cell = -1) : d3b p s (k + 1) = d3b p s k ∧ u0b p s (k + 1) = u0b p s k ++ [a] := by
 unfold d3b u0b
 by_cases h3 : s.kind = 3
 ·rw [if_pos h3, if_pos h3, if_pos h3, if_pos h3, h1a hx, List.filter_append, List.filter_append]
  simp [ht h3]
 ·rw [if_neg h3, if_neg h3, if_neg h3, if_neg h3, h1a hx]; simp
theorem L8a : (d3b p s k).length ≤ s.set.length := by
 unfold d3b
 split
 ·exact Nat.le_trans (List.length_filter_le _ _) (by rw [List.length_take]; omega)
 ·simp
end
theorem K5c {p : d0a} {t n : Int} {s : m1a} (h : F4a p t n s) : s.set.length ≤ p.cells.length := by
 have := M6a p.cells.length (s.set.map N1a.cell) (by unfold List.Nodup; rw [List.pairwise_map]; exact h.once) (fun x hx => by
  obtain ⟨a, ha, rfl⟩ := List.mem_map.1 hx
  exact (h.set a ha).1)
 simpa using this
theorem F0b {p : d0a} {m : Int} (hm : ¬ m = 0) {c : D0a} {t : Nat} {s : m1a} {b : List I0a} (h3 : s.kind = 3) (hb : c.buf[t]? = some b) {k : Nat} (hk : s.set.length ≤ k) : A6a p m c t s = ⟨A0b (u0b p s k) (E1a c t) c.mem, atC c t s, c.buf.set t (b ++ [⟨(d3b p s k).map N1a.cell, (d3b p s k).map fun a => a.to.evl (E1a c t) (E1a c t)⟩])⟩ := by
 unfold A6a d3b u0b s3b
 rw [if_pos ⟨h3, hm⟩, if_pos h3, if_pos h3, List.take_of_length_le hk, getD_some hb]
theorem j1b {p : d0a} {m : Int} {c : D0a} {t : Nat} {s : m1a} (h3 : ¬ s.kind = 3) {k : Nat} (hk : s.set.length ≤ k) : A6a p m c t s = ⟨A0b (u0b p s k) (E1a c t) c.mem, atC c t s, c.buf⟩ := by
 unfold A6a u0b
 rw [if_neg (fun h => h3 h.1), if_neg h3, List.take_of_length_le hk]
theorem n3c {c : D0a} {t : Nat} {s : m1a} {pad : List Value} (h : ¬ s.kind = 6) (ht : t < c.at_.length) {i : Nat} (hi : i = t) : (c.at_.map (Value.int .i64) ++ pad).set i (.int .i64 s.to) = (atC c t s).map (Value.int .i64) ++ pad := by
 subst hi; rw [e8a ht]; unfold atC; rw [if_neg h]
theorem a8b {c : D0a} {t : Nat} {s : m1a} {pad : List Value} (h : s.kind = 6) (ht : t < c.at_.length) (hg : s.target.toNat < c.at_.length) {i j : Nat} (hi : i = t) (hj : j = s.target.toNat) : ((c.at_.map (Value.int .i64) ++ pad).set i (.int .i64 s.to)).set j (.int .i64 0) = (atC c t s).map (Value.int .i64) ++ pad := by
 subst hi; subst hj; rw [e8a ht, e8a (by simpa using hg)]; unfold atC; rw [if_pos h]
abbrev T3c : List Nat → World → List Value → Int → Prop := fun _ _ => G9c
end Go.Fw
namespace Go.Proofs.YtjjmdcnmeommbaaGreatDoor
open Go.Fw Go.RowKit
set_option maxHeartbeats 1000000 in
theorem F7b (p : d0a) (c : D0a) (m : Int) (hm : m = 1 ∨ m = 2) (t i : Nat) (th : J0a) (s : m1a) (M : List Nat) (w0 : World) (cs xs : List Value) (vsn : Value) (hI : InP p M w0 cs) (hX : O0a M w0 c xs) (hV : RdI M w0 vsn (E1a c t)) (hf : b6a p c) (hxth : p.threads[t]? = some th) (hxs : th.steps[i]? = some s) (hf' : b6a p (A6a p m c t s)) :
 R0a Tryz.prog 141 #[.agg (xs ++ (cs ++ [Value.int .i64 m])).toArray, .agg #[.int .i64 t, .int .i64 i, .int .i64 0], vsn] w0 fun v w' => (∃ ys, v = .agg ys.toArray ∧ O0a M w' (A6a p m c t s) ys) ∧ Below w0.heap.size w0 w' := by
 obtain ⟨Ac, nc, cc, Am, nm, cm, Al, nl, cl, At, nt, ct, rfl, hC, _, _, hTh, _, _, _, _, _, _, _, _⟩ := hI.rd.open_
 obtain ⟨Xm, xm, ym, Xa, xa, ya, Xb, xb, yb, rfl, _, _, _, _, _, _, _, _, _⟩ := hX.open_
 obtain ⟨Av, nv, cv, rfl⟩ := hV.form
 have S := St.refl w0
 have hM := hI.lt
 have f1 := hf.mem.len
 have f2 := hf.nat
 have f3 := hf.nbuf
 have hp := hI.ok
 have n1 := hp.ncells
 have n2 := hp.nthreads
 have ht := D1a hxth
 have hi := D1a hxs
 have hso := (hp.thread hxth).steps s (f0a hxs)
 have hsl := K5c hso
 have hk6 : 6 ≤ s.kind → 0 ≤ s.target ∧ s.target < p.threads.length := fun h => (hso.row.k6 h).1
 have hm0 : ¬ m = 0 := by omega
 obtain ⟨b, hxb⟩ : ∃ b, c.buf[t]? = some b := ⟨c.buf[t]'(by omega), List.getElem?_eq_getElem _⟩
 have hbo := hf.bufs t b hxb
 refine a0a Tryz.func141 rfl Tryz.ntmps141 rfl ?_
 refine wO0 rfl ⟨⟩ (m0a S (by conv => lhs; whnf) rfl ?_)
 intro g3 w3 S3 X3 G3
 refine m0a S3 (by conv => lhs; whnf) rfl ?_
 intro g4 w4 S4 X4 G4
 refine k0a S4 g6a rfl rfl ?_
 intro g6 w6 S6 X6 G6
 refine lO S6.k [.o 2] rfl ⟨rfl,⟨⟩⟩ ?_
 have hX2 : O0a (g6 :: g4 :: g3 :: M) w6 c _ := (hX.more (fun g hg => by rcases List.mem_cons.1 hg with rfl | hg; exact .inr (by simpa using S6.new 0 rfl); rcases List.mem_cons.1 hg with rfl | hg; exact .inr (by simpa using S6.new 1 rfl); rcases List.mem_cons.1 hg with rfl | hg; exact .inr (by simpa using S6.new 2 rfl); exact .inl hg)).keep (S6.keep0 _)
 have hM2 : ∀ g ∈ g6 :: g4 :: g3 :: M, g < w6.heap.size := fun g hg => by
  rcases List.mem_cons.1 hg with rfl | hg
  ·exact S6.lt 0 rfl
  ·rcases List.mem_cons.1 hg with rfl | hg
   ·exact S6.lt 1 rfl
   ·rcases List.mem_cons.1 hg with rfl | hg
    ·exact S6.lt 2 rfl
    ·have := hM g hg; have := S6.size; omega
 refine q3a h8b rfl rfl (U6b p hp c (g6 :: g4 :: g3 :: M) _ hM2 _ hX2 hf) ?_
 rintro v15 w15 ⟨⟨Gm, _, csm, _, _, _, gb, rows, vs, rfl, Rm, Ra, S15', hR⟩, -⟩
 have S15 := S6.joinR S15'
 obtain ⟨ga, pada, rfl, rfl, rfl, hmxa⟩ := Ra.pad (by omega)
 obtain ⟨Bm, bm', dm, rfl⟩ := Rm.form
 have KM := C0a.refl Gm.toList w15
 have hQ15 : ∀ g ∈ (Gm.toList ++ ((some ga).toList ++ (gb :: g6 :: g4 :: g3 :: M))) ++ k8a rows, g < w15.heap.size := by
  intro g hg
  simp only [List.mem_append, List.mem_cons] at hg
  rcases hg with (hg | hg | rfl | rfl | rfl | rfl | hg) | hg
  ·exact J6b S15 (k := 2) rfl g hg
  ·exact J6b S15 (k := 1) rfl g hg
  ·exact S15.lt 0 rfl
  ·exact S15.lt 3 rfl
  ·exact S15.lt 4 rfl
  ·exact S15.lt 5 rfl
  ·have := hM g hg; have := S15.size; omega
  ·obtain ⟨x, hx, hg⟩ := d3a.1 hg; exact (S15.own x (List.mem_append_right _ hx) g hg).2.lt
 refine k0a S15 g6a rfl rfl ?_
 intro g7 w7 S7 X7 G7
 have GKM7 := Nat.le_trans KM.size G7
 replace KM := KM.trans (X7.of_nil)
 refine c0a (kk := 0) (vs := [_, _, _]) S7 O2a rfl rfl rfl rfl rfl rfl rfl ?_
 intro w1_4 S1_4 X1_4
 dsimp only [e0a, List.set] at S1_4
 replace KM := KM.fresh2 X1_4 (by exact .inl GKM7)
 refine lC0 rfl ⟨⟩ (x0a b0a [0, 1, 2, 3, 4, 5, 6, 7, 8, 9, 10, 11] [12] [13] (by kernel_rfl) rfl (Cl _ _ _ _) (Cl.start S1_4) ?_)
 obtain ⟨_, b21, p21, _, hx21, hA21, _, _, hc21, hr21⟩ := RdS.get (hTh) (t) (by omega)
 obtain rfl := Option.some.inj (hxth.symm.trans hx21)
 obtain ⟨_, _, _, _, _, _, _, _, _, _, _, _, rfl, _, _, _, hSt21, _, _, _, _, _, _, _, _, _⟩ := v0a.open_ hr21
 obtain ⟨_, b26, p26, _, hx26, hA26, _, hl26, hc26, hr26⟩ := RdS.get (hSt21) (i) (by omega)
 obtain rfl := Option.some.inj (hxs.symm.trans hx26)
 obtain ⟨Ag26, ng26, cg26, As26, ns26, cs26, rfl, ⟨_, _, _, _, _⟩, _, hSet26, _, _⟩ := A1a.open_ hr26
 refine qN ((S1_4.q.a hc26).a hc21) [.o 6,.o 5,.x b21 p21,.f 0 4,.o 5,.x b26 p26,.v 1] rfl ⟨⟨rfl,hl26⟩,⟨hA26,by omega⟩,rfl,rfl,⟨hA21,by omega⟩,rfl,rfl,⟨⟩⟩ (j4a ?_)
 refine m7a rfl rfl k3b rfl ?_
 refine O1a ?_
 rintro wR2 ⟨SR2, XR2⟩
 intro g8 hg8 G8 ng8
 dsimp only [I3a]
 have GKM8 := Nat.le_trans KM.size G8
 replace KM := KM.trans (XR2.of_nil)
 clear ng8
 replace SR2 := SR2.push_new S1_4 hg8 G8
 refine c0a (kk := 0) (vs := [_, _, _, _, _, _, _, _, _, _, _]) SR2 L3b rfl rfl rfl rfl rfl rfl rfl ?_
 intro w2_13 S2_13 X2_13
 dsimp only [e0a, List.set] at S2_13
 replace KM := KM.fresh2 X2_13 (by exact .inl GKM8)
 refine lO0 rfl ⟨⟩ (k0a S2_13 v8a rfl rfl ?_)
 intro g9 w9 S9 X9 G9
 have GKM9 := Nat.le_trans KM.size G9
 replace KM := KM.trans (X9.of_nil)
 refine lC S9.k [.o 1] rfl ⟨rfl,⟨⟩⟩ ?_
 refine wL (fun μk D ε w => D = [] ∧ ∃ k : Nat, ∃ Gc : Option Nat, ∃ csc : List Value, ∃ vc : Value, ∃ Gv : Option Nat, ∃ csv : List Value, ∃ vv : Value, ∃ csm' : List Value, (k + μk = (s.set.length)) ∧ (s2a T3c 1 [] w0 Gc csc vc ((d3b p s k).map N1a.cell)) ∧ (s2a T3c 1 [] w0 Gv csv vv ((d3b p s k).map fun a => a.to.evl (E1a c t) (E1a c t))) ∧ (∀ g ∈ Gc.toList ++ Gv.toList, w15.heap.size ≤ g) ∧ (G3a Gm 1 c.mem.length csm' (.slice Bm bm' dm) ((A0b (u0b p s k) (E1a c t) c.mem).map (Value.int .i64))) ∧ (C0a Gm.toList w15 w) ∧ St [] w0 w ([(Gc, 3, csc), (Gv, 3, csv), (some g9, 121, [vc, vv]), (some g8, 88, [.int .i64 s.kind, .int .i64 s.frm, .int .i64 s.to, .int .i64 s.guard.op, .int .i64 s.guard.w, .int .i64 s.guard.n, .slice Ag26 ng26 cg26, .slice As26 ns26 cs26, .bool s.release, .int .i64 s.target, .int .i64 s.module_]), (some g7, 52, [.slice Bm bm' dm, .slice (some ⟨ga, 0, none⟩) c.at_.length (c.at_.length + pada.length), .slice (some ⟨gb, 0, none⟩) c.buf.length c.buf.length]), (some gb, 118, vs), (some ga, 3, c.at_.map (Value.int .i64) ++ pada), (Gm, 3, csm'), (some g6, 52, [.slice none 0 0, .slice none 0 0, .slice none 0 0]), (some g4, 68, [.int .i64 t, .int .i64 i, .int .i64 0]), (some g3, 189, [.slice Xm xm ym, .slice Xa xa ya, .slice Xb xb yb, .slice Ac nc cc, .slice Am nm cm, .slice Al nl cl, .slice At nt ct, .int .i64 m])] ++ rows) ∧ Sl ε [(2, .slice Av nv cv), (3, .pointer (some ⟨g3, 0, none⟩)), (4, .pointer (some ⟨g4, 0, none⟩)), (6, .pointer (some ⟨g6, 0, none⟩)), (7, .pointer (some ⟨g7, 0, none⟩)), (8, .pointer (some ⟨g8, 0, none⟩)), (9, .pointer (some ⟨g9, 0, none⟩)), (29, .slice As26 ns26 cs26), (30, .int .i64 ns26), (31, .int .i64 k)]) (μ := (s.set.length)) ⟨rfl, 0, none, [], .slice none 0 0, none, [], .slice none 0 0, csm, by omega, by rw [z3b]; exact s2a.nil, by rw [z3b]; exact s2a.nil, by simp, by rw [c8b]; exact Rm, KM, ((S9.nilEnt 3).nilEnt 3), rfl⟩ ?_
 rintro μk D ε w ⟨rfl, k, Gc, csc, vc, Gv, csv, vv, csm', _, hrc, hrv, hgc, hrm, KM, S, eZ⟩
 refine wK eZ (wB0 rfl ⟨⟩ (fun h32 => ?_) fun h32 => ?_)
 ·obtain ⟨a, b33, p33, _, hxa, hA33, _, hl33, hc33, hr33⟩ := RdS.get (hSet26) (k) (by omega)
  obtain ⟨_, _, _, rfl, ia33, hE33⟩ := Q0a.open_ hr33
  have hxa' := hxa
  have q1 := (hso.set a (f0a hxa')).1
  unfold G2a at q1
  have q2 := e0b (hso.set a (f0a hxa')).2.1 (E1a c t) (E1a c t)
  rw [(hso.set a (f0a hxa')).2.2] at q2
  have q2' := Z5b hp a.cell
  have q3 : i64 (a.to.evl (E1a c t) (E1a c t)) := by unfold i64; omega
  refine lO (S.k.a hc33) [.x b33 p33,.v 0] rfl ⟨⟨rfl,hl33⟩,⟨hA33,by omega⟩,⟨⟩⟩ (k0a S R3b rfl rfl ?_)
  intro g11 w11 S11 X11 G11
  have GKM11 := Nat.le_trans KM.size G11
  replace KM := KM.trans (X11.of_nil)
  refine c0a (kk := 0) (vs := [_, _, _, _, _]) S11 V3b rfl rfl rfl rfl rfl rfl rfl ?_
  intro w6_3 S6_3 X6_3
  dsimp only [e0a, List.set] at S6_3
  replace KM := KM.fresh2 X6_3 (by exact .inl GKM11)
  refine lO S6_3.k [.o 0] rfl ⟨rfl,⟨⟩⟩ (g0a S6_3 f0b rfl rfl (J6a a.to M _ _ _ _ (E1a c t) (E1a c t) (RdE.keep (S6_3.keep0 M) _ _ hE33) (hI.keep (S6_3.keep0 M)).msk (hV.keep (S6_3.keep0 M)) (hV.keep (S6_3.keep0 M))) ?_)
  intro w39 S39 X39
  replace KM := KM.trans (X39.of_nil)
  refine lO0 rfl ⟨⟩ (u0a G0a rfl (by exact S39.cell 4 rfl rfl) rfl ?_)
  refine lB0 rfl ⟨⟩ (fun h42 => ?_) fun h42 => ?_
  ·refine lO0 rfl ⟨⟩ (u0a r7a rfl (by exact S39.cell 11 rfl rfl) rfl ?_)
   obtain ⟨_, b49, p49, _, hxcl', hA49, _, _, hc49, hr49⟩ := RdS.get (hC) (a.cell.toNat) (by omega)
   obtain ⟨rfl, _, _, _, _⟩ := K2a.open_ hr49
   have hthr := f1a hxcl'
   refine lB (S39.k.a hc49) [.o 0,.x b49 p49,.f 0 3] rfl ⟨rfl,⟨hA49,by omega⟩,rfl,⟨⟩⟩ (fun h52 => ?_) fun h52 => ?_
   ·refine lO0 rfl ⟨⟩ (u0a N3a rfl (by exact S39.cell 3 rfl rfl) rfl ?_)
    refine lO S39.k [.o 0] rfl ⟨rfl,⟨⟩⟩ (y0a S39 W0a (vs := [.int .i64 _]) (cs := [_]) (by rfl) rfl rfl rfl rfl rfl rfl ?_)
    intro g58 w58 S58 X58 G58
    replace KM := KM.trans (X58.of_nil)
    refine p1a A7a (k := 2) (M2 := []) (e1 := a.cell) S58 W0a (by decide) rfl hrc rfl rfl (S58.cells 0 rfl) ⟨rfl, ia33⟩ (by have := L8a (p := p) (s := s) (k := k); simp; omega) rfl ?_
    intro v59 Gc' csc' w59 S59 hrc' X59 F59
    have Z59 := KM.size
    obtain ⟨_, _, rfl⟩ := hrc'.form
    replace KM := KM.freshL X59 (fun g hg => .inl (hgc g (List.mem_append_left _ hg)))
    refine lO0 rfl ⟨⟩ ?_
    first | refine w0a (kk := 4) S59 j1c rfl (by conv => lhs; whnf) rfl rfl (by exact Nat.le_of_ble_eq_true rfl) ?_
    intro w9_7 S9_7 X9_7
    replace KM := KM.fresh2 X9_7 (by exact .inl GKM9)
    refine lO0 rfl ⟨⟩ (u0a N3a rfl (by exact S9_7.cell 4 rfl rfl) rfl ?_)
    refine lO0 rfl ⟨⟩ (y0a S9_7 W0a (vs := [.int .i64 _]) (cs := [_]) (by rfl) rfl rfl rfl rfl rfl rfl ?_)
    intro g64 w64 S64 X64 G64
    replace KM := KM.trans (X64.of_nil)
    refine p1a A7a (k := 4) (M2 := []) (e1 := a.to.evl (E1a c t) (E1a c t)) S64 W0a (by decide) rfl hrv rfl rfl (S64.cells 0 rfl) ⟨rfl, q3⟩ (by have := L8a (p := p) (s := s) (k := k); simp; omega) rfl ?_
    intro v65 Gv' csv' w65 S65 hrv' X65 F65
    have Z65 := KM.size
    obtain ⟨_, _, rfl⟩ := hrv'.form
    replace KM := KM.freshL X65 (fun g hg => .inl (hgc g (List.mem_append_right _ hg)))
    refine lO0 rfl ⟨⟩ ?_
    first | refine w0a (kk := 5) S65 j1c rfl (by conv => lhs; whnf) rfl rfl (by exact Nat.le_of_ble_eq_true rfl) ?_
    intro w10_6 S10_6 X10_6
    replace KM := KM.fresh2 X10_6 (by exact .inl GKM9)
    refine lP0 rfl ⟨by omega,⟨⟩⟩ ⟨μk - 1, by omega, rfl, (k + 1), (_), (_), (_), (_), (_), (_), (_), (by omega), ?_, ?_, ?_, ?_, (KM), S10_6.tail.tail.tail, rfl⟩
    ·rw [(L2b h42 hxa' (hthr.trans h52)).1, List.map_append]; exact hrc'
    ·rw [(L2b h42 hxa' (hthr.trans h52)).1, List.map_append]; exact hrv'
    ·intro g hg
     rcases List.mem_append.1 hg with hg | hg
     ·rcases F59 g hg with h | h
      ·exact hgc g (List.mem_append_left _ h)
      ·omega
     ·rcases F65 g hg with h | h
      ·exact hgc g (List.mem_append_right _ h)
      ·omega
    ·rw [(L2b h42 hxa' (hthr.trans h52)).2]; exact hrm
   obtain ⟨gm, pad, rfl, hvm, rfl, hmx⟩ := hrm.pad (by simp; omega)
   have hml : (A0b (u0b p s k) (E1a c t) c.mem).length = c.mem.length := by simp
   cases hvm
   refine lO0 rfl ⟨⟩ (u0a N3a rfl (by exact S39.cell 5 rfl rfl) rfl ?_)
   refine lO S39.k [.o 0] rfl ⟨rfl,⟨⟩⟩ (A0a W0a.slT rfl (by rfl) rfl (by omega) (by omega) rfl ?_)
   first | refine w0a (kk := 8) S39 S8a rfl (by conv => lhs; whnf) rfl rfl (by (simp; omega)) ?_
   intro w11_6 S11_6 X11_6
   replace KM := KM.fresh2 X11_6 (by exact .inr (by simp))
   refine lP0 rfl ⟨by omega,⟨⟩⟩ ⟨μk - 1, by omega, rfl, (k + 1), (_), (_), (_), (_), (_), (_), (_), (by omega), ?_, ?_, ?_, ?_, (KM), S11_6.tail, rfl⟩
   ·rw [(X7a hxa' (fun _ => by rw [hthr]; exact h52)).1]; exact hrc
   ·rw [(X7a hxa' (fun _ => by rw [hthr]; exact h52)).1]; exact hrv
   ·exact hgc
   ·have e2 : u0b p s (k + 1) = u0b p s k ++ [a] := by exact (X7a hxa' (fun _ => by rw [hthr]; exact h52)).2
    rw [e2, i9a]
    have := G3a.ofPad (g := gm) (l := (A0b (u0b p s k) (E1a c t) c.mem).set a.cell.toNat (a.to.evl (E1a c t) (E1a c t))) (pad := pad) (by simpa using hmx)
    rw [← e8a (by omega)] at this
    simpa using this
  obtain ⟨gm, pad, rfl, hvm, rfl, hmx⟩ := hrm.pad (by simp; omega)
  have hml : (A0b (u0b p s k) (E1a c t) c.mem).length = c.mem.length := by simp
  cases hvm
  refine lO0 rfl ⟨⟩ (u0a N3a rfl (by exact S39.cell 5 rfl rfl) rfl ?_)
  refine lO S39.k [.o 0] rfl ⟨rfl,⟨⟩⟩ (A0a W0a.slT rfl (by rfl) rfl (by omega) (by omega) rfl ?_)
  first | refine w0a (kk := 8) S39 S8a rfl (by conv => lhs; whnf) rfl rfl (by (simp; omega)) ?_
  intro w11_6 S11_6 X11_6
  replace KM := KM.fresh2 X11_6 (by exact .inr (by simp))
  refine lP0 rfl ⟨by omega,⟨⟩⟩ ⟨μk - 1, by omega, rfl, (k + 1), (_), (_), (_), (_), (_), (_), (_), (by omega), ?_, ?_, ?_, ?_, (KM), S11_6.tail, rfl⟩
  ·rw [(X7a hxa' (fun h => absurd h h42)).1]; exact hrc
  ·rw [(X7a hxa' (fun h => absurd h h42)).1]; exact hrv
  ·exact hgc
  ·have e2 : u0b p s (k + 1) = u0b p s k ++ [a] := by exact (X7a hxa' (fun h => absurd h h42)).2
   rw [e2, i9a]
   have := G3a.ofPad (g := gm) (l := (A0b (u0b p s k) (E1a c t) c.mem).set a.cell.toNat (a.to.evl (E1a c t) (E1a c t))) (pad := pad) (by simpa using hmx)
   rw [← e8a (by omega)] at this
   simpa using this
 refine lO0 rfl ⟨⟩ (u0a G0a rfl (by exact S.cell 3 rfl rfl) rfl ?_)
 refine lB0 rfl ⟨⟩ (fun h76 => ?_) fun h76 => ?_
 ·have hR2 := hR.keep (KM.mono (fun g hg => List.mem_append_left _ (List.mem_append_left _ hg)))
  obtain ⟨G, cs', v, hrk, hvk, hrow⟩ := hR2.2.2 t b hxb
  obtain ⟨_, _, rfl⟩ := hrow.form
  obtain ⟨_, _, rfl⟩ := hrc.form
  obtain ⟨_, _, rfl⟩ := hrv.form
  have hvl : vs.length = c.buf.length := hR2.2.1
  have hGb : ∀ g ∈ G.toList, g ∈ (Gm.toList ++ ((some ga).toList ++ (gb :: g6 :: g4 :: g3 :: M))) ++ k8a rows := fun g hg => List.mem_append_right _ (d3a.2 ⟨_, List.mem_of_getElem? hrk, by cases G <;> simp at hg ⊢; exact hg.symm⟩)
  have hC1 : RdI ((Gm.toList ++ ((some ga).toList ++ (gb :: g6 :: g4 :: g3 :: M))) ++ k8a rows) w _ _ := s2a.rd (M := (Gm.toList ++ ((some ga).toList ++ (gb :: g6 :: g4 :: g3 :: M))) ++ k8a rows) (w := w) A7a hrc S (k := 0) rfl (fun g hg hm => by have := hgc g (by rw [hg]; simp); have := hQ15 g hm; omega) (by have := L8a (p := p) (s := s) (k := k); simp; omega)
  have hC2 : RdI ((Gm.toList ++ ((some ga).toList ++ (gb :: g6 :: g4 :: g3 :: M))) ++ k8a rows) w _ _ := s2a.rd (M := (Gm.toList ++ ((some ga).toList ++ (gb :: g6 :: g4 :: g3 :: M))) ++ k8a rows) (w := w) A7a hrv S (k := 1) rfl (fun g hg hm => by have := hgc g (by rw [hg]; simp); have := hQ15 g hm; omega) (by have := L8a (p := p) (s := s) (k := k); simp; omega)
  refine lC0 rfl ⟨⟩ (E0b b0a (fun i => [0, 1, 2, 3, 4, 5, 6, 7, 8, 9, 10, 13].contains i) [0, 1, 2, 3, 4, 5, 6, 7, 8, 9, 10, 11, 12, 13] 14 (by kernel_rfl) (by kernel_rfl) (clF (A := [_, _, _, _, _, _, _, _, _, _, _]) (R := rows) S G.toList) _ rfl ?_)
  have SR14 := S.drew
  have YR14 : C0a [] w w.drew := z2a _ _
  generalize w.drew = wR14 at SR14 YR14 ⊢
  have XR14 : C0a (G.toList) _ _ := YR14.of_nil
  replace hR2 := hR2.keep YR14.of_nil
  replace hC1 := hC1.keep YR14.of_nil
  replace hC2 := hC2.keep YR14.of_nil
  refine w2a ⟨(St.front (A := [_, _, _, _, _, _, _, _, _, _, _]) SR14), XR14⟩ rfl rfl rfl ?_
  refine E0a R4a rfl rfl ?_
  refine p0a ?_
  refine w2a ⟨(St.front (A := [_, _, _, _, _, _, _, _, _, _, _]) SR14), XR14⟩ rfl rfl rfl ?_
  refine i0a p6a rfl (fun w1 hw => by exact hw.1.cell 4 rfl rfl) rfl ?_
  refine p0a ?_
  refine w2a ⟨(St.front (A := [_, _, _, _, _, _, _, _, _, _, _]) SR14), XR14⟩ rfl rfl rfl ?_
  refine E0a B4b rfl rfl ?_
  refine p0a ?_
  refine w2a ⟨(St.front (A := [_, _, _, _, _, _, _, _, _, _, _]) SR14), XR14⟩ rfl rfl rfl ?_
  refine i0a G0a rfl (fun w1 hw => by exact hw.1.cell 9 rfl rfl) rfl ?_
  refine p0a ?_
  refine w2a ⟨(St.front (A := [_, _, _, _, _, _, _, _, _, _, _]) SR14), XR14⟩ rfl rfl rfl ?_
  refine E0a R4a rfl rfl ?_
  refine p0a ?_
  refine w2a ⟨(St.front (A := [_, _, _, _, _, _, _, _, _, _, _]) SR14), XR14⟩ rfl rfl rfl ?_
  refine i0a p6a rfl (fun w1 hw => by exact hw.1.cell 4 rfl rfl) rfl ?_
  refine p0a ?_
  refine w2a ⟨(St.front (A := [_, _, _, _, _, _, _, _, _, _, _]) SR14), XR14⟩ rfl rfl rfl ?_
  refine E0a B4b rfl rfl ?_
  refine p0a ?_
  refine w2a ⟨(St.front (A := [_, _, _, _, _, _, _, _, _, _, _]) SR14), XR14⟩ rfl rfl rfl ?_
  refine i0a G0a rfl (fun w1 hw => by exact hw.1.cell 9 rfl rfl) rfl ?_
  refine p0a ?_
  refine w2a ⟨(St.front (A := [_, _, _, _, _, _, _, _, _, _, _]) SR14), XR14⟩ rfl rfl rfl ?_
  refine j0a H4a.slT rfl (by rfl) rfl (by omega) (by omega) rfl ?_
  refine p0a ?_
  refine w2a ⟨(St.front (A := [_, _, _, _, _, _, _, _, _, _, _]) SR14), XR14⟩ rfl rfl rfl ?_
  refine i0a P9a rfl (fun w1 hw => by exact hw.1.cell 5 rfl ((congrArg (vs[·]?) (show 0 + (t : Int).toNat * 1 = t by simp)).trans hvk)) rfl ?_
  refine p0a ?_
  refine w2a ⟨(St.front (A := [_, _, _, _, _, _, _, _, _, _, _]) SR14), XR14⟩ rfl rfl rfl ?_
  refine J3a i2b rfl (fun w1 hw => hw.1.cells 2 rfl) rfl rfl ?_
  refine p0a ?_
  refine i7b ⟨(St.front (A := [_, _, _, _, _, _, _, _, _, _, _]) SR14), XR14⟩ rfl rfl rfl rfl ?_
  refine y0a SR14 t3a (vs := [.agg _]) (cs := [_, _]) (by rfl) rfl rfl rfl rfl rfl rfl ?_
  intro g88 w88 S88 X88 G88
  have XCw88 := XR14.trans (X88.mono (by simp))
  replace hR2 := hR2.keep (X88.of_nil)
  replace hC1 := hC1.keep (X88.of_nil)
  replace hC2 := hC2.keep (X88.of_nil)
  refine Z0a ⟨rfl, ?_⟩
  refine i7b ⟨(St.front (A := [_, _, _, _, _, _, _, _, _, _, _, _]) S88).tail, XCw88⟩ rfl rfl rfl rfl ?_
  obtain ⟨G', cs'', _, hrk', hvk', hrow2⟩ := hR2.2.2 t b hxb
  obtain ⟨rfl, rfl⟩ : G = G' ∧ cs' = cs'' := by rw [hrk] at hrk'; cases hrk'; exact ⟨rfl, rfl⟩
  obtain rfl := Option.some.inj (hvk.symm.trans hvk')
  refine p1a p2a (k := 12 + t) (e1 := ⟨(d3b p s k).map N1a.cell, (d3b p s k).map fun a => a.to.evl (E1a c t) (E1a c t)⟩) S88 t3a (by decide) ((a7c [_, _, _, _, _, _, _, _, _, _, _, _] rows t 12 rfl).trans hrk) hrow2 rfl rfl (S88.cells 0 rfl) ⟨_, _, rfl, hC1.more (by omega) (fun g hg => .inl (by rcases List.mem_append.1 hg with h | h; exact hGb g h; exact h)), hC2.more (by omega) (fun g hg => .inl (by rcases List.mem_append.1 hg with h | h; exact hGb g h; exact h))⟩ (by omega) rfl ?_
  intro v89 G89 cs89 w89 S89' hrow89 X89 F89
  have S89 : St [] w0 w89 ([_, _, _, _, _, _, _, _, _, _, _, _] ++ rows.set t (G89, 121, cs89)) := (n9c [_, _, _, _, _, _, _, _, _, _, _, _] rows t 12 rfl _) ▸ S89'
  have S89b := S89.tail
  have XC89 := XCw88.trans X89
  have hR4 := hR2.put (k := t) (by omega) hrow89 X89 F89 hrk
  obtain ⟨_, _, hv89⟩ := hrow89.form
  subst hv89
  clear hR
  refine Z0a ⟨rfl, ?_⟩
  refine w2a ⟨(St.front (A := [_, _, _, _, _, _, _, _, _, _, _]) S89b), XC89⟩ rfl rfl rfl ?_
  refine j0a H4a.slT rfl (by rfl) rfl (by omega) (by omega) rfl ?_
  refine p0a ?_
  refine J0b ⟨(St.front (A := [_, _, _, _, _, _, _, _, _, _, _]) S89b), XC89⟩ ?_
  first | refine w0a (kk := 5) S89b i8b rfl (by conv => lhs; whnf) rfl rfl (by (simp; omega)) ?_
  intro w14_14 S14_14 X14_14
  replace hR4 := hR4.keep (X14_14.mono (by simp))
  refine Z0a ⟨rfl, ?_⟩
  try have hR4 := hR.keep (KM.mono (fun g hg => List.mem_append_left _ (List.mem_append_left _ hg)))
  refine fO0 rfl ⟨⟩ (u0a N3a rfl (by exact S14_14.cell 4 rfl rfl) rfl ?_)
  refine lO0 rfl ⟨⟩ (u0a G0a rfl (by exact S14_14.cell 9 rfl rfl) rfl ?_)
  refine lO0 rfl ⟨⟩ (u0a G0a rfl (by exact S14_14.cell 3 rfl rfl) rfl ?_)
  refine A0a W0a.slT rfl (by rfl) rfl (by omega) (by omega) rfl ?_
  first | refine w0a (kk := 6) S14_14 S8a rfl (by conv => lhs; whnf) rfl rfl (by (simp; omega)) ?_
  intro w15_7 S15_7 X15_7
  replace hR4 := hR4.keep (X15_7.mono (by simp))
  refine lO0 rfl ⟨⟩ (u0a G0a rfl (by exact S15_7.cell 3 rfl rfl) rfl ?_)
  refine lB0 rfl ⟨⟩ (fun h100 => ?_) fun h100 => ?_
  ·refine lO0 rfl ⟨⟩ (u0a N3a rfl (by exact S15_7.cell 4 rfl rfl) rfl ?_)
   refine lO0 rfl ⟨⟩ (u0a G0a rfl (by exact S15_7.cell 3 rfl rfl) rfl ?_)
   have q6 := hk6 (by omega)
   refine A0a W0a.slT rfl (by rfl) rfl (by omega) (by omega) rfl ?_
   first | refine w0a (kk := 6) S15_7 S8a rfl (by conv => lhs; whnf) rfl rfl (by (simp; omega)) ?_
   intro w17_5 S17_5 X17_5
   replace hR4 := hR4.keep (X17_5.mono (by simp))
   refine lO0 rfl ⟨⟩ (m2a q1a rfl (S17_5.cells 4 rfl) rfl rfl ?_)
   first | refine c0a (kk := 8) (vs := [_, _, _]) S17_5 O2a rfl rfl rfl rfl rfl rfl rfl ?_
   intro w18_1 S18_1 X18_1
   dsimp only [e0a, List.set] at S18_1
   replace hR4 := hR4.keep (X18_1.mono (by simp))
   refine lR0 rfl ⟨⟩ ?_
   have SF := S18_1.setEnt 6 rfl (show _ = (atC c t s).map (Value.int .i64) ++ pada by exact a8b h100 (by omega) (by omega) (by simp) (by simp))
   have hal := v5a c t s
   rw [F0b hm0 h76 hxb (k := k) (by omega)] at hf' ⊢
   have SG := SF.setEnt 5 rfl (congrArg (fun i => vs.set i _) (show 0 + (t : Int).toNat * 1 = t by simp))
   refine t1a (n := 3) rfl q1a rfl (SG.cells 8 rfl) rfl ⟨⟨_, rfl, _, _, _, rfl, hrm.rdI SG (k := 7) rfl hM (Q4a hp hf'.mem) (by simp; omega), ?_, ?_⟩, SG.fin⟩
   ·have := (G3a.ofPad (g := ga) (l := atC c t s) (pad := pada) (by rw [hal]; exact hmxa)).rdI SG (k := 6) rfl hM (A8a hp hf') (by rw [hal]; omega)
    rw [hal] at this
    exact this
   ·have hA := SG.apartM (A := [_, _, _, _, _, _, _, _, _, _, _]) hM
    have := SG.rdBs (M := M) 5 rfl (U0a hM (SG.new 5 rfl)) (bs := c.buf.set t _) (by simp; omega) (hR4.rd (A := [_, _, _, _, _, _, _, _, _, _, _]) SG (Mx := M) (fun g hg => by simp [hg]) hA (fun x hx => by
     obtain ⟨q, hq, rfl⟩ := List.getElem_of_mem hx
     have := (hf'.bufs q _ (List.getElem?_eq_getElem hq)).1
     omega))
    rw [List.length_set] at this
    exact this
  refine lO0 rfl ⟨⟩ (m2a q1a rfl (S15_7.cells 4 rfl) rfl rfl ?_)
  first | refine c0a (kk := 8) (vs := [_, _, _]) S15_7 O2a rfl rfl rfl rfl rfl rfl rfl ?_
  intro w18_1 S18_1 X18_1
  dsimp only [e0a, List.set] at S18_1
  replace hR4 := hR4.keep (X18_1.mono (by simp))
  refine lR0 rfl ⟨⟩ ?_
  have SF := S18_1.setEnt 6 rfl (show _ = (atC c t s).map (Value.int .i64) ++ pada by exact n3c h100 (by omega) (by simp))
  have hal := v5a c t s
  rw [F0b hm0 h76 hxb (k := k) (by omega)] at hf' ⊢
  have SG := SF.setEnt 5 rfl (congrArg (fun i => vs.set i _) (show 0 + (t : Int).toNat * 1 = t by simp))
  refine t1a (n := 3) rfl q1a rfl (SG.cells 8 rfl) rfl ⟨⟨_, rfl, _, _, _, rfl, hrm.rdI SG (k := 7) rfl hM (Q4a hp hf'.mem) (by simp; omega), ?_, ?_⟩, SG.fin⟩
  ·have := (G3a.ofPad (g := ga) (l := atC c t s) (pad := pada) (by rw [hal]; exact hmxa)).rdI SG (k := 6) rfl hM (A8a hp hf') (by rw [hal]; omega)
   rw [hal] at this
   exact this
  ·have hA := SG.apartM (A := [_, _, _, _, _, _, _, _, _, _, _]) hM
   have := SG.rdBs (M := M) 5 rfl (U0a hM (SG.new 5 rfl)) (bs := c.buf.set t _) (by simp; omega) (hR4.rd (A := [_, _, _, _, _, _, _, _, _, _, _]) SG (Mx := M) (fun g hg => by simp [hg]) hA (fun x hx => by
    obtain ⟨q, hq, rfl⟩ := List.getElem_of_mem hx
    have := (hf'.bufs q _ (List.getElem?_eq_getElem hq)).1
    omega))
   rw [List.length_set] at this
   exact this
 try have hR4 := hR.keep (KM.mono (fun g hg => List.mem_append_left _ (List.mem_append_left _ hg)))
 refine lO0 rfl ⟨⟩ (u0a N3a rfl (by exact S.cell 4 rfl rfl) rfl ?_)
 refine lO0 rfl ⟨⟩ (u0a G0a rfl (by exact S.cell 9 rfl rfl) rfl ?_)
 refine lO0 rfl ⟨⟩ (u0a G0a rfl (by exact S.cell 3 rfl rfl) rfl ?_)
 refine A0a W0a.slT rfl (by rfl) rfl (by omega) (by omega) rfl ?_
 first | refine w0a (kk := 6) S S8a rfl (by conv => lhs; whnf) rfl rfl (by (simp; omega)) ?_
 intro w15_7 S15_7 X15_7
 replace hR4 := hR4.keep (X15_7.mono (by simp))
 refine lO0 rfl ⟨⟩ (u0a G0a rfl (by exact S15_7.cell 3 rfl rfl) rfl ?_)
 refine lB0 rfl ⟨⟩ (fun h100 => ?_) fun h100 => ?_
 ·refine lO0 rfl ⟨⟩ (u0a N3a rfl (by exact S15_7.cell 4 rfl rfl) rfl ?_)
  refine lO0 rfl ⟨⟩ (u0a G0a rfl (by exact S15_7.cell 3 rfl rfl) rfl ?_)
  have q6 := hk6 (by omega)
  refine A0a W0a.slT rfl (by rfl) rfl (by omega) (by omega) rfl ?_
  first | refine w0a (kk := 6) S15_7 S8a rfl (by conv => lhs; whnf) rfl rfl (by (simp; omega)) ?_
  intro w17_5 S17_5 X17_5
  replace hR4 := hR4.keep (X17_5.mono (by simp))
  refine lO0 rfl ⟨⟩ (m2a q1a rfl (S17_5.cells 4 rfl) rfl rfl ?_)
  first | refine c0a (kk := 8) (vs := [_, _, _]) S17_5 O2a rfl rfl rfl rfl rfl rfl rfl ?_
  intro w18_1 S18_1 X18_1
  dsimp only [e0a, List.set] at S18_1
  replace hR4 := hR4.keep (X18_1.mono (by simp))
  refine lR0 rfl ⟨⟩ ?_
  have SF := S18_1.setEnt 6 rfl (show _ = (atC c t s).map (Value.int .i64) ++ pada by exact a8b h100 (by omega) (by omega) (by simp) (by simp))
  have hal := v5a c t s
  rw [j1b h76 (k := k) (by omega)] at hf' ⊢
  have SG := SF
  refine t1a (n := 3) rfl q1a rfl (SG.cells 8 rfl) rfl ⟨⟨_, rfl, _, _, _, rfl, hrm.rdI SG (k := 7) rfl hM (Q4a hp hf'.mem) (by simp; omega), ?_, ?_⟩, SG.fin⟩
  ·have := (G3a.ofPad (g := ga) (l := atC c t s) (pad := pada) (by rw [hal]; exact hmxa)).rdI SG (k := 6) rfl hM (A8a hp hf') (by rw [hal]; omega)
   rw [hal] at this
   exact this
  ·have hA := SG.apartM (A := [_, _, _, _, _, _, _, _, _, _, _]) hM
   have := SG.rdBs (M := M) 5 rfl (U0a hM (SG.new 5 rfl)) (bs := c.buf) (by omega) (hR4.rd (A := [_, _, _, _, _, _, _, _, _, _, _]) SG (Mx := M) (fun g hg => by simp [hg]) hA (fun x hx => by
    obtain ⟨q, hq, rfl⟩ := List.getElem_of_mem hx
    have := (hf'.bufs q _ (List.getElem?_eq_getElem hq)).1
    omega))
   exact this
 refine lO0 rfl ⟨⟩ (m2a q1a rfl (S15_7.cells 4 rfl) rfl rfl ?_)
 first | refine c0a (kk := 8) (vs := [_, _, _]) S15_7 O2a rfl rfl rfl rfl rfl rfl rfl ?_
 intro w18_1 S18_1 X18_1
 dsimp only [e0a, List.set] at S18_1
 replace hR4 := hR4.keep (X18_1.mono (by simp))
 refine lR0 rfl ⟨⟩ ?_
 have SF := S18_1.setEnt 6 rfl (show _ = (atC c t s).map (Value.int .i64) ++ pada by exact n3c h100 (by omega) (by simp))
 have hal := v5a c t s
 rw [j1b h76 (k := k) (by omega)] at hf' ⊢
 have SG := SF
 refine t1a (n := 3) rfl q1a rfl (SG.cells 8 rfl) rfl ⟨⟨_, rfl, _, _, _, rfl, hrm.rdI SG (k := 7) rfl hM (Q4a hp hf'.mem) (by simp; omega), ?_, ?_⟩, SG.fin⟩
 ·have := (G3a.ofPad (g := ga) (l := atC c t s) (pad := pada) (by rw [hal]; exact hmxa)).rdI SG (k := 6) rfl hM (A8a hp hf') (by rw [hal]; omega)
  rw [hal] at this
  exact this
 ·have hA := SG.apartM (A := [_, _, _, _, _, _, _, _, _, _, _]) hM
  have := SG.rdBs (M := M) 5 rfl (U0a hM (SG.new 5 rfl)) (bs := c.buf) (by omega) (hR4.rd (A := [_, _, _, _, _, _, _, _, _, _, _]) SG (Mx := M) (fun g hg => by simp [hg]) hA (fun x hx => by
   obtain ⟨q, hq, rfl⟩ := List.getElem_of_mem hx
   have := (hf'.bufs q _ (List.getElem?_eq_getElem hq)).1
   omega))
  exact this
end Go.Proofs.YtjjmdcnmeommbaaGreatDoor
namespace Go.Fw
open Go.RowKit
def NC (w : World) (rs : List (Nat × Obj)) : Prop := ∀ x ∈ rs, w.heap[x.1]? = some x.2 ∧ ∀ a t f, x.2 ≠ .cells a t f
theorem NC.nil {w : World} : NC w [] := fun x hx => by cases hx
theorem NC.lt {w : World} {rs : List (Nat × Obj)} (h : NC w rs) : ∀ x ∈ rs, x.1 < w.heap.size := fun x hx => by
 have := (h x hx).1
 rcases Nat.lt_or_ge x.1 w.heap.size with h' | h'
 ·exact h'
 ·rw [Array.getElem?_eq_none h'] at this; cases this
theorem NC.keep {w w' : World} {rs : List (Nat × Obj)} (h : NC w rs) (k : C0a [] w w') : NC w' rs := fun x hx => ⟨(k.same x.1 (h.lt x hx) (by simp)).trans (h x hx).1, (h x hx).2⟩
theorem NC.ne {w : World} {rs : List (Nat × Obj)} (h : NC w rs) {g t : Nat} {cs : List Value} (hg : t0a w (g, t, cs)) : ∀ x ∈ rs, x.1 ≠ g := fun x hx he => by
 have h1 := (h x hx).1
 rw [he] at h1
 unfold t0a at hg
 rw [hg] at h1
 exact (h x hx).2 _ _ _ (Option.some.inj h1).symm
theorem NC.keepS {w w' : World} {rs : List (Nat × Obj)} (h : NC w rs) {g t : Nat} {cs : List Value} (k : C0a [g] w w') (hg : t0a w (g, t, cs)) : NC w' rs := fun x hx =>
 ⟨(k.same x.1 (h.lt x hx) (by rw [List.mem_singleton]; exact h.ne hg x hx)).trans (h x hx).1, (h x hx).2⟩
theorem NC.keepL {w w' : World} {rs : List (Nat × Obj)} (h : NC w rs) {Gs : List Nat} (k : C0a Gs w w') (hg : ∀ g ∈ Gs, ∃ t cs, t0a w (g, t, cs)) : NC w' rs := fun x hx =>
 ⟨(k.same x.1 (h.lt x hx) (fun hh => by obtain ⟨t, cs, hb⟩ := hg _ hh; exact h.ne hb x hx rfl)).trans (h x hx).1, (h x hx).2⟩
theorem NC.tail {w : World} {x : Nat × Obj} {rs : List (Nat × Obj)} (h : NC w (x :: rs)) : NC w rs := fun y hy => h y (List.mem_cons_of_mem _ hy)
theorem NC.cons {w : World} {x : Nat × Obj} {rs : List (Nat × Obj)} (h : NC w rs) (h1 : w.heap[x.1]? = some x.2) (h2 : ∀ a t f, x.2 ≠ .cells a t f) : NC w (x :: rs) := fun y hy => by
 rcases List.mem_cons.1 hy with rfl | hy
 ·exact ⟨h1, h2⟩
 ·exact h y hy
theorem NC.put {w : World} {l : Nat} {o o' : Obj} {rs : List (Nat × Obj)} (h : NC w ((l, o) :: rs)) (hl : ∀ x ∈ rs, x.1 ≠ l) (ho : ∀ a t f, o' ≠ .cells a t f) : NC (w.putObj l o') ((l, o') :: rs) := by
 have hlt := h.lt (l, o) (by simp)
 refine NC.cons (fun x hx => ⟨?_, (h.tail x hx).2⟩) (World.putObj_heap_same hlt) ho
 rw [World.putObj_heap_other (hl x hx)]; exact (h.tail x hx).1
theorem St.putObj {M : List Nat} {w0 w : World} {L : List Ent} (S : St M w0 w L) {l : Nat} (o : Obj) {rs : List (Nat × Obj)} {o1 : Obj} (h : NC w rs) (hx : (l, o1) ∈ rs) (hl : w0.heap.size ≤ l ∨ l ∈ M) : St M w0 (w.putObj l o) L := by
 refine ⟨S.below.putObj o hl, fun b hb g hg => ⟨(S.own b hb g hg).1, (S.own b hb g hg).2.putObj (fun he => ?_)⟩, S.apart⟩
 exact h.ne (S.own b hb g hg).2 _ hx he.symm
def H1b (rs : List Nat) : List (Nat × Obj) := rs.map fun r => (r, .deferred (some []))
theorem a0c {rs : List Nat} {x : Nat × Obj} (h : x ∈ H1b rs) : x.1 ∈ rs := by
 obtain ⟨_, hr, rfl⟩ := List.mem_map.1 h; exact hr
def u7a (P : Program) (fn : Func) (R : Value → World → Prop) (D : List Deferred) (e : Env) (w : World) : Prop :=
 ∃ rs : List Nat, D = rs.map r0b ∧ rs.Nodup ∧ NC w (H1b rs) ∧ ∀ w', L0a rs w w' → w'.heap.size = w.heap.size → ∀ tmps : Array Value, S0a { tmps, defers := [] } = e → ∃ v, (results fn tmps).run P w' = .ok v w' ∧ R v w'
theorem B8a {P : Program} {fn : Func} {tmps : Array Value} {R : Value → World → Prop} : ∀ (rs : List Nat) (w : World), rs.Nodup → NC w (H1b rs) → (∀ w', L0a rs w w' → w'.heap.size = w.heap.size → ∃ v, (results fn tmps).run P w' = .ok v w' ∧ R v w') →
 LeavesInM Fence.wide 0 P fn tmps (fun en w' => ∃ v, en = .returned v ∧ R v w') (rs.map r0b) .returning w
 | [], w, _, _, h => by
   obtain ⟨v, h1, h2⟩ := h w (L0a.refl _ _) rfl
   exact ⟨v, h1, v, rfl, h2⟩
 | r :: rs, w, hn, hO, h => by
   obtain ⟨hn1, hn2⟩ := List.nodup_cons.1 hn
   have hr : w.heap[r]? = some (.deferred (some [])) := (hO (r, .deferred (some [])) (by simp [H1b])).1
   refine ⟨by simp, .inl ⟨r, _, rfl, run_takeDeferred hr, B8a rs _ hn2 (fun x hx => ⟨?_, (hO x (by simp [H1b] at hx ⊢; exact .inr hx)).2⟩) fun w' hb hs => ?_⟩⟩
   ·rw [World.putObj_heap_other (show x.1 ≠ r from fun he => hn1 (by rw [← he]; exact a0c hx))]
    exact (hO x (by simp [H1b] at hx ⊢; exact .inr hx)).1
   ·refine h w' ⟨hb.os, hb.tape, hb.output, by simpa using hb.size, fun k hk hm => ?_⟩ (by simpa using hs)
    simp only [List.mem_cons, not_or] at hm
    rw [hb.block k (by simpa using hk) hm.2, World.putObj_heap_other hm.1]
theorem w6a {P : Program} {N : Nat} {w : World} {f : FuncId} {fn : Func} {c : Code} {args : Array Value} {R : Value → World → Prop} (hf : P.funcs[f]? = some fn) (hb : fn.body = some c) (hN : fn.ntmps = N) (hle : Nat.ble args.size N = true)
 (h : W P none N c ⟨u7a P fn R, fun _ _ _ _ => False, u7a P fn R⟩ [] (G9a args) w) : R0a P f args w R := by
 subst hN
 unfold W at h
 have hsz : (args ++ Array.replicate (fn.ntmps - args.size) undef).size = fn.ntmps := by
  have := Nat.le_of_ble_eq_true hle
  simp; omega
 have h1 := h { tmps := args ++ Array.replicate (fn.ntmps - args.size) undef, defers := [] } hsz rfl (o0b _ _)
 have key : ∀ (a : Act) (w : World), u7a P fn R a.defers (S0a a) w → LeavesInM Fence.wide 0 P fn a.tmps (fun en w' => ∃ v, en = .returned v ∧ R v w') a.defers .returning w := by
  intro a w hq
  obtain ⟨rs, hD, hn, hO, hq⟩ := hq
  rw [hD]
  exact B8a rs w hn hO fun w' hb hs => hq w' hb hs a.tmps rfl
 refine callsIn_wide (n := 0).1 (callsIn_of_wp_marks hf hb trivial (wpIn_mono h1 fun ex a w hq => ?_))
 cases ex with
 | normal => exact key a w hq.2
 | ret => exact key a w hq.2
 | exit id => exact hq.2
 | goto l => exact hq
 | panic c => exact hq.elim
 | outgrown => exact hq.elim
section
variable {P : Program} {fn : Func} {R : Value → World → Prop} {D : List Deferred} {e : Env} {w : World}
theorem Z1a {a1 t1 n a2 t2 g1 g2 : Nat} {cs : List Value} {v2 : Value} (h : fn.results = #[.cell a1 t1, .cell a2 t2]) (hM : a7a P t1 n) (hO2 : One P t2) (e1 : e a1 = .pointer (some ⟨g1, 0, none⟩)) (e2 : e a2 = .pointer (some ⟨g2, 0, none⟩)) (hn1 : cs.length = n)
 (rs : List Nat) (hD : D = rs.map r0b) (hn : rs.Nodup) (hO : NC w (H1b rs)) (hc1 : r1a w g1 0 cs) (hc2 : w.cell? ⟨g2, 0, none⟩ = some v2) (hg1 : g1 ∉ rs) (hg2 : g2 ∉ rs) (hR : ∀ w', L0a rs w w' → R (.tuple #[.agg cs.toArray, v2]) w') : u7a P fn R D e w :=
 ⟨rs, hD, hn, hO, fun w' hb _ tmps he => by
  have hk : C0a rs w w' := ⟨hb.size, hb.block⟩
  have c1 := hc1.keep hk hg1
  have c2 := hk.cell (a := ⟨g2, 0, none⟩) hg2 hc2
  subst he; subst hn1
  simp only [S0a, Array.getD_eq_getD_getElem?] at e1 e2
  have h1 := run_loadCells_list (P := P) w' ⟨g1, 0, none⟩ cs (fun j v hj => by rw [Addr.add_lit]; exact c1 j v hj)
  have h2 : (loadVar t2 ⟨g2, 0, none⟩).run P w' = .ok v2 w' := by rw [hO2 w']; simp [load, Sem.run, c2]
  exact ⟨_, by simp [results, h, asAddr, e1, e2, hM w', h1, h2], hR w' hb⟩⟩
end
theorem C0a.of_belowM {M : List Nat} {w w' : World} (h : L0a M w w') : C0a M w w' := ⟨h.size, h.block⟩
theorem c0b {w wi : World} {rs : List (Nat × Obj)} {rc : Loop} (hO : NC w rs) (hdr : wi.heap[w.heap.size]? = some (.deferred (some []))) (hl : wi.heap[w.heap.size + 1]? = some (.loop rc)) (hB : Below w.heap.size w wi) : NC wi ((w.heap.size + 1, .loop rc) :: (w.heap.size, .deferred (some [])) :: rs) :=
 ((hO.keep (C0a.of_below hB)).cons hdr (by simp)).cons hl (by simp)
end Go.Fw
namespace Go.Fw
open Go.RowKit
theorem Q6a {m : Int} {b : List I0a} {i : Nat} {en : I0a} (h : b[i]? = some en) : Q3a m b i = (decide (i = 0) || (decide (m = 2) && !((b.take i).any fun o => b4b o en))) := by
 unfold Q3a
 congr 2
 rw [Bool.eq_iff_iff]
 rw [List.all_eq_true, Bool.not_eq_true', List.any_eq_false]
 have hlt := D1a h
 constructor
 ·intro h1 o ho
  obtain ⟨j, hj, rfl⟩ := List.getElem_of_mem ho
  rw [List.length_take] at hj
  have := h1 j (List.mem_range.2 (by omega))
  rw [h, List.getElem?_eq_getElem (by omega)] at this
  rw [List.getElem_take]
  simpa using this
 ·intro h1 j hj
  have hj := List.mem_range.1 hj
  rw [h, List.getElem?_eq_getElem (show j < b.length by omega)]
  have := h1 b[j] (by rw [List.mem_take_iff_getElem]; exact ⟨j, by omega, rfl⟩)
  simpa using this
end Go.Fw
namespace Go.Proofs.YtjjmdcnmeommbaaGreatDoor
open Go.Fw Go.RowKit
theorem p4c (cs : List Value) (h8 : cs.length = 8) (t : Int) (w0 : World) :
 R0a Tryz.prog 137 #[.agg cs.toArray, .int .i64 t] w0 fun v w' => (∃ gs gt, v = .func (.func 174) #[] #[.pointer (some ⟨gs, 0, none⟩), .pointer (some ⟨gt, 0, none⟩)] ∧ w0.heap.size ≤ gs ∧ w0.heap.size ≤ gt ∧ t0a w' (gs, 189, cs) ∧ t0a w' (gt, 3, [.int .i64 t])) ∧ Below w0.heap.size w0 w' := by
 have S := St.refl w0
 match cs, h8 with
 | [c0, c1, c2, c3, c4, c5, c6, c7], _ =>
 refine a0a Tryz.func137 rfl Tryz.ntmps137 rfl ?_
 refine wO0 rfl ⟨⟩ (m0a S (by conv => lhs; whnf) rfl ?_)
 intro g2 w2 S2 X2 G2
 refine h9a S2 (v := .int .i64 _) rfl rfl rfl ?_
 intro g3 w3 S3 X3 G3
 refine lO0 rfl ⟨⟩ (f2a rfl rfl ?_)
 refine lR0 rfl ⟨⟩ (o0a rfl (by conv => lhs; whnf) ?_)
 exact ⟨⟨g2, g3, rfl, by simpa using S3.new 1 rfl, by simpa using S3.new 0 rfl, S3.blk 1 rfl, S3.blk 0 rfl⟩, S3.fin⟩
theorem f2c (c : D0a) (m : Int) (t : Nat) (b : List I0a) (hxb : c.buf[t]? = some b) (gs gt l : Nat) (Mf : List Nat) (w0 : World) (xs ps : List Value) (hps : ps.length = 4) (J : Nat → World → Prop) (Q : World → Prop)
 (hX : O0a Mf w0 c xs) (hgs : gs ∉ Mf) (hbs : t0a w0 (gs, 189, xs ++ (ps ++ [.int .i64 m]))) (hbt : t0a w0 (gt, 3, [.int .i64 t]))
 (hJ0 : J 0 w0) (hJK : ∀ i w, J i w → C0a Mf w0 w) (hJs : ∀ i w w', J i w → Below w.heap.size w w' → J i w') (hJn : ∀ i w, J i w → i < b.length → Q3a m b i = false → J (i + 1) w)
 (hY : ∀ (i : Nat) (en : I0a) (w : World) (es : List Value), b[i]? = some en → Q3a m b i = true → J i w → (∀ (M' : List Nat) (w' : World), (∀ g ∈ M', g ∈ Mf ∨ w0.heap.size ≤ g) → C0a M' w0 w' → e1a M' w' es en) → Yld Tryz.prog l #[.int .i64 i, .agg es.toArray] w fun v w' => (v = .bool true ∧ J (i + 1) w') ∨ (v = .bool false ∧ Q w')) :
 R0a Tryz.prog 174 #[.func (.yield l) #[] #[], .pointer (some ⟨gs, 0, none⟩), .pointer (some ⟨gt, 0, none⟩)] w0 fun _ w' => J b.length w' ∨ Q w' := by
 obtain ⟨_, _, _, _, _, _, Xb, xb, yb, rfl, _, _, hBuf, _, _, _, _, _, _⟩ := hX.open_
 match ps, hps with
 | [c3, c4, c5, c6], _ =>
 have S := St.refl w0
 have hbs2 : w0.cell? ⟨gs, 2, none⟩ = some (.slice Xb xb yb) := hbs.cell rfl
 have hbt2 : w0.cell? ⟨gt, 0, none⟩ = some (.int .i64 t) := hbt.cell rfl
 have ht := D1a hxb
 refine a0a Tryz.func174 rfl Tryz.ntmps174 rfl ?_
 refine wO0 rfl ⟨⟩ (u0a p6a rfl (by exact S.old hbs2) rfl ?_)
 refine u0a G0a rfl (by exact S.old hbt2) rfl ?_
 obtain ⟨_, b11, p11, _, hx11, hA11, _, _, hc11, hr11⟩ := RdS.get (hBuf) (t) (by omega)
 obtain rfl := Option.some.inj (hxb.symm.trans hx11)
 obtain ⟨Ab11, nb11, cb11, rfl, hBu11, _, _⟩ := b7a.open_ hr11
 refine lC (S.k.a hc11) [.x b11 p11,.f 0 0] rfl ⟨rfl,⟨hA11,by omega⟩,⟨⟩⟩ (wL (fun μ D ε w => D = [] ∧ ∃ k : Nat, (k + μ = b.length) ∧ (J k w) ∧ ε 0 = .func (.yield l) #[] #[] ∧ ε 1 = .pointer (some ⟨gs, 0, none⟩) ∧ ε 4 = .slice Ab11 nb11 cb11 ∧ ε 13 = .slice Ab11 nb11 cb11 ∧ ε 14 = .int .i64 nb11 ∧ ε 15 = .int .i64 k) (μ := b.length) ⟨rfl, 0, by omega, hJ0, rfl, rfl, rfl, rfl, rfl, rfl⟩ ?_)
 rintro μ D ε w ⟨rfl, k, hk, hJ, e0, e1, e4, e13, e14, e15⟩
 refine s0a 0 e0 (s0a 1 e1 (s0a 4 e4 (s0a 13 e13 (s0a 14 e14 (s0a 15 e15 ?_)))))
 clear e0 e1 e4 e13 e14 e15
 have hKw := hJK _ _ hJ
 have hBu3 := RdS.keepW hBu11 hKw (e1a.keep hKw)
 have hBu2 := (RdS.mono hBu11 (R' := fun cs x => ∀ (M' : List Nat) (w' : World), (∀ g ∈ M', g ∈ Mf ∨ w0.heap.size ≤ g) → C0a M' w0 w' → e1a M' w' cs x) (fun cs x h M' w' hm hk => e1a.keep hk _ _ (e1a.more hm _ _ h))).keep hKw
 have hbm2 : w.cell? ⟨gs, 7, none⟩ = some (.int .i64 m) := hKw.cell (a := ⟨gs, 7, none⟩) hgs (hbs.cell rfl)
 replace S := St.refl w
 refine wB0 rfl ⟨⟩ (fun h16 => ?_) fun h16 => ?_
 ·obtain ⟨en, b18, p18, _, hxen, hA18, _, hl18, hc18, hr18⟩ := RdS.get (hBu2) (k) (by omega)
  have hrE := hr18 Mf _ (fun g hg => .inl hg) hKw
  obtain ⟨_, _, _, _, _, _, rfl, -⟩ := e1a.open_ hrE
  refine lO (S.k.a hc18) [.x b18 p18,.v 0] rfl ⟨⟨rfl,hl18⟩,⟨hA18,by omega⟩,⟨⟩⟩ (k0a S v8a rfl rfl ?_)
  intro g6 w6 S6 X6 G6
  refine lO0 rfl ⟨⟩ ?_
  first | refine c0a (kk := 0) (vs := [_, _]) S6 c9a rfl rfl rfl rfl rfl rfl rfl ?_
  intro w3_5 S3_5 X3_5
  dsimp only [e0a, List.set] at S3_5
  refine lC0 rfl ⟨⟩ (x0a b0a [0, 1, 2, 3, 4, 5, 6, 7, 8, 9, 10, 11, 12, 13] [] [] (by kernel_rfl) rfl (Cl _ _ _ _) (Cl.start S3_5) ?_)
  refine qB0 rfl ⟨⟩ (fun h21 => ?_) fun h21 => ?_
  ·refine qO0 rfl ⟨⟩ (i0a G0a rfl (fun w1 hw => by exact hw.1.old hbm2) rfl ?_)
   refine qB0 rfl ⟨⟩ (fun h25 => ?_) fun h25 => ?_
   ·refine qD rfl ⟨⟩ ?_
    rintro wR4 ⟨SR4, XR4⟩
    refine lP0 rfl ⟨by omega,⟨⟩⟩ ?_
    exact ⟨μ - 1, by omega, rfl, k + 1, by omega, hJs _ _ _ (hJn _ _ hJ (by omega) (by rw [Q6a hxen, decide_eq_false (show ¬ k = 0 by omega), decide_eq_false (show ¬ m = 2 from h25)]; rfl)) SR4.fin, rfl, rfl, rfl, rfl, rfl, rfl⟩
   refine qO0 rfl ⟨⟩ ?_
   refine H5b (lo := 0) (hi := k) (kd := .i64) t3a.slT (show _ = Value.slice (some ⟨b18, p18, none⟩) nb11 cb11 by rw [← hA18]; rfl) (.inl ⟨rfl, rfl⟩) (.inr rfl) (by omega) (by have := hBu2.len; omega) hBu2.len.2.1 rfl ?_
   simp only [Nat.zero_mul, Nat.add_zero, Nat.sub_zero, ite_self]
   refine qO S3_5.q [.w 0] rfl ⟨⟨rfl,by rfl⟩,⟨⟩⟩ (M1a u5c rfl rfl (fun w1 S1 X1 => f7b (b.take k) en Mf _ _ _ (RdS.take (RdS.keepW (hA18 ▸ hBu3) (S1.keep0 Mf) (e1a.keep (S1.keep0 Mf))) k (by omega)) (e1a.keep (S1.keep0 Mf) _ _ hrE)) (fun h31 => ?_) fun h31 => ?_)
   ·refine qD rfl ⟨⟩ ?_
    rintro wR4 ⟨SR4, XR4⟩
    refine lP0 rfl ⟨by omega,⟨⟩⟩ ?_
    exact ⟨μ - 1, by omega, rfl, k + 1, by omega, hJs _ _ _ (hJn _ _ hJ (by omega) (by rw [Q6a hxen, decide_eq_false (show ¬ k = 0 by omega), h31]; simp)) SR4.fin, rfl, rfl, rfl, rfl, rfl, rfl⟩
   refine qD rfl ⟨⟩ ?_
   rintro wR4 ⟨SR4, XR4⟩
   refine lO SR4.k [.w 0] rfl ⟨⟨rfl,by rfl⟩,⟨⟩⟩ ?_
   have hrd : Q3a m b k = true := by
    rw [Q6a hxen]
    rw [decide_eq_true (show m = 2 by omega), h31]; simp
   refine C1b rfl rfl rfl (hY k en _ _ hxen hrd (hJs _ _ _ hJ SR4.fin) hr18) ?_
   rintro v37 w37 (⟨rfl, hJ37⟩ | ⟨rfl, hQ37⟩)
   ·exact lP0 rfl ⟨by omega,⟨⟩⟩ ⟨μ - 1, by omega, rfl, k + 1, by omega, hJ37, rfl, rfl, rfl, rfl, rfl, rfl⟩
   refine lR0 rfl ⟨⟩ (S1a rfl ?_)
   exact .inr hQ37
  refine qD rfl ⟨⟩ ?_
  rintro wR4 ⟨SR4, XR4⟩
  refine lO SR4.k [.w 0] rfl ⟨⟨rfl,by rfl⟩,⟨⟩⟩ ?_
  have hrd : Q3a m b k = true := by
   rw [Q6a hxen]
   rw [decide_eq_true (show k = 0 by omega)]; rfl
  refine C1b rfl rfl rfl (hY k en _ _ hxen hrd (hJs _ _ _ hJ SR4.fin) hr18) ?_
  rintro v37 w37 (⟨rfl, hJ37⟩ | ⟨rfl, hQ37⟩)
  ·exact lP0 rfl ⟨by omega,⟨⟩⟩ ⟨μ - 1, by omega, rfl, k + 1, by omega, hJ37, rfl, rfl, rfl, rfl, rfl, rfl⟩
  refine lR0 rfl ⟨⟩ (S1a rfl ?_)
  exact .inr hQ37
 refine lF0 rfl ⟨⟩ (S1a rfl ?_)
 obtain rfl : k = b.length := by omega
 exact .inl hJ
end Go.Proofs.YtjjmdcnmeommbaaGreatDoor
namespace Go.Fw
open Go.RowKit
theorem z6b {rc : Loop} (hst : rc.state = .ready) (hpe : rc.pending = none) : ({ ({ rc with state := .busy } : Loop) with state := if (none : Option Code).isNone then .ready else .done, pending := none } : Loop) = rc := by
 cases rc; simp at hst hpe ⊢; exact ⟨hst.symm, hpe.symm⟩
theorem s6c {M : List Nat} {w0 w : World} {L : List Ent} (S : St M w0 w L) (k : Nat) {G : Option Nat} {t : TypeId} {cs : List Value} (hk : L[k]? = some (G, t, cs)) : ∀ g ∈ G.toList, ∃ t cs, t0a w (g, t, cs) := fun g hg => by
 have : G = some g := by cases G <;> simp at hg ⊢; exact hg.symm
 subst this
 exact ⟨_, _, S.blk k hk⟩
end Go.Fw
namespace Go.Proofs.YtjjmdcnmeommbaaGreatDoor
open Go.Fw Go.RowKit
end Go.Proofs.YtjjmdcnmeommbaaGreatDoor
namespace Go.Fw
open Go.RowKit
def C4b (p : d0a) (m : Int) (c : D0a) (x : n0a) : D0a × Int := if x ∈ M0a p m c then (doC p m c x, 0) else (⟨[], [], []⟩, 110)
theorem c6a {p : d0a} {m : Int} {c : D0a} {x : n0a} (h : x ∈ M0a p m c) : C4b p m c x = (doC p m c x, 0) := if_pos h
theorem m3a {p : d0a} {m : Int} {c : D0a} {x : n0a} (h : x ∉ M0a p m c) : C4b p m c x = (⟨[], [], []⟩, 110) := if_neg h
theorem y2a {M : List Nat} {w : World} : O0a M w ⟨[], [], []⟩ [.slice none 0 0, .slice none 0 0, .slice none 0 0] := ⟨_, _, _, rfl, h2a, h2a, h2a⟩
section
variable {p : d0a} {m : Int} {c : D0a} {t : Nat} {b : List I0a}
theorem D0b {x : n0a} (h : x.thread < 0 ∨ p.threads.length ≤ x.thread) : x ∉ M0a p m c := fun hx => by
 obtain ⟨_, _, ⟨i, _, _, _, rfl⟩ | ⟨i, _, _, rfl⟩⟩ := G1a.1 hx
 ·simp at h; omega
 ·simp at h; omega
theorem F1c {x : n0a} (h : x.step < -1) : x ∉ M0a p m c := fun hx => by
 obtain ⟨_, _, ⟨i, _, _, _, rfl⟩ | ⟨i, _, _, rfl⟩⟩ := G1a.1 hx
 ·simp at h; omega
 ·simp at h
theorem G1c {st cell : Int} (hs : 0 ≤ st) (h : ¬ cell = 0) : (⟨t, st, cell⟩ : n0a) ∉ M0a p m c := fun hx => by
 obtain ⟨t, _, ⟨i, _, _, _, h1⟩ | ⟨i, _, _, h1⟩⟩ := G1a.1 hx
 ·simp at h1; omega
 ·simp at h1; omega
theorem D2c {th : J0a} (hth : p.threads[t]? = some th) {st cell : Int} (hs : 0 ≤ st) (h : th.steps.length ≤ st) : (⟨t, st, cell⟩ : n0a) ∉ M0a p m c := fun hx => by
 obtain ⟨t', _, ⟨i, _, h1, _, h2⟩ | ⟨i, _, _, h1⟩⟩ := G1a.1 hx
 ·simp only [n0a.mk.injEq] at h2
  obtain ⟨_, rfl, rfl⟩ := h2
  obtain rfl : t = t' := by omega
  rw [C1a hth] at h1
  have := D1a h1
  omega
 ·simp at h1; omega
theorem F5c {th : J0a} (hth : p.threads[t]? = some th) {i : Nat} {s : m1a} (hs : th.steps[i]? = some s) {cell : Int} (h : N0a p m c t s = false) : (⟨t, i, cell⟩ : n0a) ∉ M0a p m c := fun hx => by
 obtain ⟨t', _, ⟨i', _, h1, h2, h3⟩ | ⟨i', _, _, h1⟩⟩ := G1a.1 hx
 ·simp only [n0a.mk.injEq] at h3
  obtain ⟨_, _, rfl⟩ := h3
  obtain rfl : t = t' := by omega
  obtain rfl : i = i' := by omega
  rw [C1a hth, hs] at h1
  cases h1
  rw [h] at h2; cases h2
 ·simp only [n0a.mk.injEq] at h1; omega
theorem k5c {th : J0a} (hth : p.threads[t]? = some th) {i : Nat} {s : m1a} (hs : th.steps[i]? = some s) (h : N0a p m c t s = true) : (⟨t, i, 0⟩ : n0a) ∈ M0a p m c :=
 G1a.2 ⟨t, D1a hth, .inl ⟨i, s, by rw [C1a hth]; exact hs, h, rfl⟩⟩
theorem J9c {th : J0a} (hth : p.threads[t]? = some th) {i : Nat} {s : m1a} (hs : th.steps[i]? = some s) : doC p m c ⟨t, i, 0⟩ = A6a p m c t s := C5b (by rw [C1a hth]; exact hs)
theorem u1c (hb : c.buf[t]? = some b) {xc : Int} (h : ∀ q en, q < b.length → b[q]? = some en → Q3a m b q = true → en.cells.getD 0 0 ≠ xc) : (⟨t, -1, xc⟩ : n0a) ∉ M0a p m c := fun hx => by
 obtain ⟨t', _, ⟨_, _, h1, h2, h3⟩ | ⟨i, h1, h2, h3⟩⟩ := G1a.1 hx
 ·simp only [n0a.mk.injEq] at h3; omega
 ·simp only [n0a.mk.injEq] at h3
  obtain ⟨_, -, h3⟩ := h3
  obtain rfl : t = t' := by omega
  rw [getD_some hb] at h1 h2 h3
  have hx : b[i]? = some b[i] := List.getElem?_eq_getElem h1
  rw [getD_some hx] at h3
  exact h i _ h1 hx h2 h3.symm
theorem c4c (ht : t < p.threads.length) (hb : c.buf[t]? = some b) {i : Nat} {en : I0a} (hx : b[i]? = some en) (hr : Q3a m b i = true) : (⟨t, -1, en.cells.getD 0 0⟩ : n0a) ∈ M0a p m c :=
 G1a.2 ⟨t, ht, .inr ⟨i, by rw [getD_some hb]; exact D1a hx, by rw [getD_some hb]; exact hr, by rw [getD_some hb, getD_some hx]⟩⟩
theorem x5c (hb : c.buf[t]? = some b) (hne : ∀ e ∈ b, e.cells ≠ []) {i : Nat} {en : I0a} (hx : b[i]? = some en) (hr : Q3a m b i = true) : doC p m c ⟨t, -1, en.cells.getD 0 0⟩ = G5a c t i := by
 unfold doC
 rw [if_pos rfl]
 simp only [Int.toNat_natCast]
 rw [getD_some hb]
 have : (b.findIdx? fun e => decide (e.cells.getD 0 0 = en.cells.getD 0 0)) = some i := by
  rw [List.findIdx?_eq_some_iff_getElem]
  refine ⟨D1a hx, ?_, fun j hj => ?_⟩
  ·have := (List.getElem?_eq_some_iff.1 hx).2
   rw [this]; simp
  ·simp only [decide_eq_true_eq]
   intro he
   have hlt := D1a hx
   have hjx : b[j]? = some b[j] := List.getElem?_eq_getElem (by omega)
   have hi0 : ¬ i = 0 := by omega
   rw [Q6a hx, decide_eq_false hi0] at hr
   simp only [Bool.false_or, Bool.and_eq_true, Bool.not_eq_true', List.any_eq_false] at hr
   have h1 := hr.2 b[j] (by rw [List.mem_take_iff_getElem]; exact ⟨j, by omega, rfl⟩)
   apply h1
   rw [V1b]
   have hcn := hne en (f0a hx)
   have hcj := hne b[j] (List.getElem_mem _)
   refine ⟨en.cells.getD 0 0, ?_, ?_⟩
   ·cases hc : en.cells with
    | nil => exact absurd hc hcn
    | cons a l => simp
   ·rw [← he]
    cases hc : (b[j]).cells with
    | nil => exact absurd hc hcj
    | cons a l => simp
 rw [this]; rfl
end
theorem N7a {w0 w : World} {L : List Ent} {M : List Nat} (S : St [] w0 w L) {i j g g' t t' : Nat} {cs cs' : List Value} (h0 : L[i]? = some (some g, t, cs)) (h1 : L[j]? = some (some g', t', cs')) : ∀ x ∈ g :: g' :: M, x ∈ M ∨ w0.heap.size ≤ x := fun x hx => by
 rcases List.mem_cons.1 hx with rfl | hx
 ·exact .inr (by simpa using S.new i h0)
 ·rcases List.mem_cons.1 hx with rfl | hx
  ·exact .inr (by simpa using S.new j h1)
  ·exact .inl hx
theorem z9b {w0 w : World} {L : List Ent} {M : List Nat} (S : St [] w0 w L) {i j g g' t t' : Nat} {cs cs' : List Value} (h0 : L[i]? = some (some g, t, cs)) (h1 : L[j]? = some (some g', t', cs')) (hM : ∀ g ∈ M, g < w0.heap.size) : ∀ x ∈ g :: g' :: M, x < w.heap.size := fun x hx => by
 rcases List.mem_cons.1 hx with rfl | hx
 ·exact S.lt i h0
 ·rcases List.mem_cons.1 hx with rfl | hx
  ·exact S.lt j h1
  ·exact Nat.lt_of_lt_of_le (hM x hx) S.size
end Go.Fw
namespace Go.Proofs.YtjjmdcnmeommbaaGreatDoor
open Go.Fw Go.RowKit
theorem InP.two {p : d0a} {M : List Nat} {w0 w : World} {cs : List Value} (h : InP p M w0 cs) {L : List Ent} (S : St [] w0 w L) {i j g g' t t' : Nat} {ds ds' : List Value} (h0 : L[i]? = some (some g, t, ds)) (h1 : L[j]? = some (some g', t', ds')) : InP p (g :: g' :: M) w cs :=
 ⟨(h.rd.more (N7a S h0 h1)).keep (S.keep0 _), h.ok, (h.msk.more (N7a S h0 h1)).keep (S.keep0 _), z9b S h0 h1 h.lt⟩
theorem h4b (p : d0a) (c : D0a) (x : n0a) (M : List Nat) (w0 : World) (cs xs : List Value) (hI : InP p M w0 cs) (hX : O0a M w0 c xs) (hf : b6a p c) (he : B5a c) (hx : x ∉ M0a p 0 c) :
 R0a Tryz.prog 135 #[.agg cs.toArray, .agg xs.toArray, .agg #[.int .i64 x.thread, .int .i64 x.step, .int .i64 x.cell]] w0 fun v w' => v = .tuple #[.agg #[.slice none 0 0, .slice none 0 0, .slice none 0 0], .int .i64 110] ∧ Below w0.heap.size w0 w' := by
 obtain ⟨Ac, nc, cc, Am, nm, cm, Al, nl, cl, At, nt, ct, rfl, _, _, _, _, _, _, _, _, _, _, _, _⟩ := hI.rd.open_
 obtain ⟨Xm, xm, ym, Xa, xa, ya, Xb, xb, yb, rfl, _, _, _, _, _, _, _, _, _⟩ := hX.open_
 have S := St.refl w0
 refine a0a Tryz.func135 rfl Tryz.ntmps135 rfl ?_
 refine wO0 rfl ⟨⟩ (m0a S (by conv => lhs; whnf) rfl ?_)
 intro g3 w3 S3 X3 G3
 refine m0a S3 (by conv => lhs; whnf) rfl ?_
 intro g4 w4 S4 X4 G4
 refine m0a S4 (by conv => lhs; whnf) rfl ?_
 intro g5 w5 S5 X5 G5
 refine k0a S5 g6a rfl rfl ?_
 intro g6 w6 S6 X6 G6
 refine lO S6.k [.w 3] rfl ⟨⟨rfl,rfl⟩,⟨⟩⟩ (g0a S6 J4b rfl rfl (z5a p M _ _ (hI.keep (S6.keep0 M))) ?_)
 intro w11 S11 X11
 refine lO S11.k [.w 3,.w 2] rfl ⟨⟨rfl,rfl⟩,⟨rfl,rfl⟩,⟨⟩⟩ (g0a S11 H0c rfl rfl (C9a p c M _ _ _ (hI.keep (S11.keep0 M)) (hX.keep (S11.keep0 M)) hf he) ?_)
 intro w16 S16 X16
 refine lO S16.k [.w 3,.w 2] rfl ⟨⟨rfl,rfl⟩,⟨rfl,rfl⟩,⟨⟩⟩ (F0a S16 P8b rfl rfl (k6a p c M _ _ _ (hI.keep (S16.keep0 M)) (hX.keep (S16.keep0 M)) hf he) ?_)
 rintro v22 w22 hr S22 X22
 obtain ⟨Ar, nr, cr, rfl⟩ := hr.form
 obtain ⟨_, -, _⟩ := hr.len
 have K22 := C0a.refl [] w22
 refine lC0 rfl ⟨⟩ (wL (fun μk D ε w => D = [] ∧ ∃ k : Nat, (k + μk = ((M0a p 0 c).length)) ∧ (C0a [] w22 w) ∧ St [] w0 w [(some g6, 52, [.slice none 0 0, .slice none 0 0, .slice none 0 0]), (some g5, 68, [.int .i64 x.thread, .int .i64 x.step, .int .i64 x.cell]), (some g4, 52, [.slice Xm xm ym, .slice Xa xa ya, .slice Xb xb yb]), (some g3, 27, [.slice Ac nc cc, .slice Am nm cm, .slice Al nl cl, .slice At nt ct])] ∧ Sl ε [(3, .pointer (some ⟨g3, 0, none⟩)), (4, .pointer (some ⟨g4, 0, none⟩)), (5, .pointer (some ⟨g5, 0, none⟩)), (6, .pointer (some ⟨g6, 0, none⟩)), (22, .slice Ar nr cr), (23, .int .i64 nr), (24, .int .i64 k)]) (μ := ((M0a p 0 c).length)) ⟨rfl, 0, by omega, K22, S22, rfl⟩ ?_)
 rintro μk D ε w ⟨rfl, k, _, K22, S, eZ⟩
 refine wK eZ (wB0 rfl ⟨⟩ (fun h25 => ?_) fun h25 => ?_)
 ·obtain ⟨y, b26, p26, _, hxy, hA26, _, hl26, hc26, hr26⟩ := RdS.get ((hr.keep K22.of_nil)) (k) (by omega)
  obtain ⟨rfl, _, _, _⟩ := id hr26
  refine lO (S.k.b hc26) [.x b26 p26,.v 0] rfl ⟨⟨rfl,hl26⟩,⟨hA26,by omega⟩,⟨⟩⟩ (k0a S L4c rfl rfl ?_)
  intro g9 w9 S9 X9 G9
  have GK229 := Nat.le_trans K22.size G9
  replace K22 := K22.trans X9
  refine c0a (kk := 0) (vs := [_, _, _]) S9 C1c rfl rfl rfl rfl rfl rfl rfl ?_
  intro w5_3 S5_3 X5_3
  dsimp only [e0a, List.set] at S5_3
  replace K22 := K22.fresh X5_3 (by first | exact GK229)
  refine lOn 6 S5_3.k [.w 2,.w 0] rfl ⟨⟨rfl,by rfl⟩,⟨rfl,rfl⟩,⟨⟩⟩ (g3c m3b rfl rfl rfl (fun h30 => ?_) fun h30 => ?_)
  ·exact absurd (f0a hxy) (by obtain ⟨a, b, c⟩ := x; obtain ⟨a', b', c'⟩ := y; obtain ⟨rfl, rfl, rfl⟩ := h30; exact hx)
  refine lP0 rfl ⟨by omega,⟨⟩⟩ ⟨μk - 1, by omega, rfl, (k + 1), (by omega), (K22), S5_3.tail, rfl⟩
 refine lO0 rfl ⟨⟩ (b1a j5a (vs := []) (cs := [_, _, _]) rfl rfl rfl rfl ?_)
 refine c0a (kk := 0) (vs := [_, _, _]) S O2a rfl rfl rfl rfl rfl rfl rfl ?_
 intro w9_1 S9_1 X9_1
 dsimp only [e0a, List.set] at S9_1
 exact lR0 rfl ⟨⟩ (B2a (n := 3) rfl q1a rfl (S9_1.cells 0 rfl) rfl rfl ⟨rfl, S9_1.fin⟩)
theorem z0b (p : d0a) (c : D0a) (x : n0a) (M : List Nat) (w0 : World) (cs xs : List Value) (hI : InP p M w0 cs) (hX : O0a M w0 c xs) (hf : b6a p c) (he : B5a c) :
 R0a Tryz.prog 135 #[.agg cs.toArray, .agg xs.toArray, .agg #[.int .i64 x.thread, .int .i64 x.step, .int .i64 x.cell]] w0 fun v w' => (∃ ys, v = .tuple #[.agg ys.toArray, .int .i64 (C4b p 0 c x).2] ∧ O0a M w' (C4b p 0 c x).1 ys) ∧ Below w0.heap.size w0 w' := by
 by_cases hx : x ∈ M0a p 0 c
 ·rw [c6a hx]; exact u5b p c x M w0 cs xs hI hX hf he hx
 ·rw [m3a hx]; exact (h4b p c x M w0 cs xs hI hX hf he hx).mono fun _ _ h => ⟨⟨_, h.1, y2a⟩, h.2⟩
theorem g2a : One Tryz.prog 32 := Q2a Tryz.underlying32 (by intro _ h; cases h) (by intro _ _ h; cases h)
set_option maxHeartbeats 2000000 in
theorem n7b (p : d0a) (c : D0a) (m : Int) (x : n0a) (hm : (m = 0 ∧ B5a c) ∨ m = 1 ∨ m = 2) (M : List Nat) (w0 : World) (cs xs : List Value) (hI : InP p M w0 cs) (hX : O0a M w0 c xs) (hf : b6a p c) :
 R0a Tryz.prog 77 #[.agg cs.toArray, .int .i64 m, .agg xs.toArray, .agg #[.int .i64 x.thread, .int .i64 x.step, .int .i64 x.cell]] w0 fun v w' => (∃ ys, v = .tuple #[.agg ys.toArray, .int .i64 (C4b p m c x).2] ∧ O0a M w' (C4b p m c x).1 ys) ∧ Below w0.heap.size w0 w' := by
 obtain ⟨Ac, nc, cc, Am, nm, cm, Al, nl, cl, At, nt, ct, rfl, _, _, _, hTh, _, _, _, hnt, _, _, _, _⟩ := hI.rd.open_
 obtain ⟨Xm, xm, ym, Xa, xa, ya, Xb, xb, yb, rfl, _, _, _, _, _, _, _, _, _⟩ := hX.open_
 have S := St.refl w0
 have hM := hI.lt
 have hp := hI.ok
 have f2 := hf.nat
 have f3 := hf.nbuf
 have n2 := hp.nthreads
 obtain ⟨xt, xst, xc⟩ := x
 simp only
 refine w6a Tryz.func77 rfl Tryz.ntmps77 rfl (wI ?_)
 refine wO0 rfl ⟨⟩ (m0a S (by conv => lhs; whnf) rfl ?_)
 intro g4 w4 S4 X4 G4
 refine m0a S4 (by conv => lhs; whnf) rfl ?_
 intro g6 w6 S6 X6 G6
 refine m0a S6 (by conv => lhs; whnf) rfl ?_
 intro g7 w7 S7 X7 G7
 refine k0a S7 g6a rfl rfl ?_
 intro g8 w8 S8 X8 G8
 refine k0a S8 D6c rfl rfl ?_
 intro g9 w9 S9 X9 G9
 refine lB0 rfl ⟨⟩ (fun h16 => ?_) fun h16 => ?_
 ·have hm0 : m = 0 ∧ B5a c := by rcases hm with h | h | h; exact h; omega; omega
  obtain ⟨rfl, he⟩ := hm0
  refine lO S9.k [.w 4,.w 3,.w 2] rfl ⟨⟨rfl,by rfl⟩,⟨rfl,by rfl⟩,⟨rfl,by rfl⟩,⟨⟩⟩ (F0a S9 B4c rfl rfl (z0b p c ⟨xt, xst, xc⟩ (g9 :: g8 :: M) _ _ _ (hI.two S9 (i := 0) (j := 1) rfl rfl) ((hX.more (N7a S9 (i := 0) (j := 1) rfl rfl)).keep (S9.keep0 _)) hf he) ?_)
  rintro v20 w20 ⟨ys, rfl, hy⟩ S20 X20
  obtain ⟨Ym, ym', zm, Ya, ya', za, Yb, yb', zb, rfl, -⟩ := hy.open_
  refine lO0 rfl ⟨⟩ ?_
  first | refine c0a (kk := 1) (vs := [_, _, _]) S20 O2a rfl rfl rfl rfl rfl rfl rfl ?_
  intro w2_6 S2_6 X2_6
  dsimp only [e0a, List.set] at S2_6
  replace hy := hy.keep (X2_6.mono (by simp))
  first | refine w0a (kk := 0) S2_6 z7a rfl (by conv => lhs; whnf) rfl rfl (by exact Nat.le_of_ble_eq_true rfl) ?_
  intro w2_7 S2_7 X2_7
  replace hy := hy.keep (X2_7.mono (by simp))
  exact lR0 rfl ⟨⟩ (Z1a (n := 3) rfl q1a g2a rfl rfl rfl [] rfl List.nodup_nil NC.nil (S2_7.cells 1 rfl) (S2_7.cell 0 rfl rfl) (by simp) (by simp) (fun w' hb => ⟨⟨_, rfl, (hy.keep (C0a.of_below hb.nil)).less (fun g hg => by simp [hg])⟩, (S2_7.below.trans hb).nil⟩))
 have hm2 : m = 1 ∨ m = 2 := by rcases hm with h | h | h; exact absurd h.1 (by assumption); exact .inl h; exact .inr h
 refine lO S9.k [.w 4,.w 3] rfl ⟨⟨rfl,by rfl⟩,⟨rfl,by rfl⟩,⟨⟩⟩ (g0a S9 y6c rfl rfl (C5c p c m hm2 M _ _ _ (hI.keep (S9.keep0 M)) (hX.keep (S9.keep0 M)) hf) ?_)
 intro w27 S27 X27
 refine lO0 rfl ⟨⟩ (k0a S27 Q2c rfl rfl ?_)
 intro g10 w10 S10 X10 G10
 refine c0a (kk := 0) (vs := [_, _, _, _, _, _, _, _]) S10 x8b rfl rfl rfl rfl rfl rfl rfl ?_
 intro w3_8 S3_8 X3_8
 dsimp only [e0a, List.set] at S3_8
 refine lB S3_8.k [.o 3] rfl ⟨rfl,⟨⟩⟩ (fun h35 => ?_) fun h35 => ?_
 ·refine lO0 rfl ⟨⟩ (b1a j5a (vs := []) (cs := [_, _, _]) rfl rfl rfl rfl ?_)
  first | refine c0a (kk := 2) (vs := [_, _, _]) S3_8 O2a rfl rfl rfl rfl rfl rfl rfl ?_
  intro w7_1 S7_1 X7_1
  dsimp only [e0a, List.set] at S7_1
  first | refine w0a (kk := 1) S7_1 z7a rfl (by conv => lhs; whnf) rfl rfl (by exact Nat.le_of_ble_eq_true rfl) ?_
  intro w7_2 S7_2 X7_2
  refine lR0 rfl ⟨⟩ ?_
  rw [m3a (D0b (x := ⟨xt, xst, xc⟩) (.inl h35))]
  exact Z1a (n := 3) rfl q1a g2a rfl rfl rfl [] rfl List.nodup_nil NC.nil (S7_2.cells 2 rfl) (S7_2.cell 1 rfl rfl) (by simp) (by simp) (fun w' hb => ⟨⟨_, rfl, y2a⟩, (S7_2.below.trans hb).nil⟩)
 refine lB S3_8.k [.o 3,.o 5] rfl ⟨rfl,rfl,⟨⟩⟩ (fun h42 => ?_) fun h42 => ?_
 ·refine lO0 rfl ⟨⟩ (b1a j5a (vs := []) (cs := [_, _, _]) rfl rfl rfl rfl ?_)
  first | refine c0a (kk := 2) (vs := [_, _, _]) S3_8 O2a rfl rfl rfl rfl rfl rfl rfl ?_
  intro w7_1 S7_1 X7_1
  dsimp only [e0a, List.set] at S7_1
  first | refine w0a (kk := 1) S7_1 z7a rfl (by conv => lhs; whnf) rfl rfl (by exact Nat.le_of_ble_eq_true rfl) ?_
  intro w7_2 S7_2 X7_2
  refine lR0 rfl ⟨⟩ ?_
  rw [m3a (D0b (x := ⟨xt, xst, xc⟩) (.inr (by rw [← hnt]; exact h42)))]
  exact Z1a (n := 3) rfl q1a g2a rfl rfl rfl [] rfl List.nodup_nil NC.nil (S7_2.cells 2 rfl) (S7_2.cell 1 rfl rfl) (by simp) (by simp) (fun w' hb => ⟨⟨_, rfl, y2a⟩, (S7_2.below.trans hb).nil⟩)
 refine lB S3_8.k [.o 3] rfl ⟨rfl,⟨⟩⟩ (fun h47 => ?_) fun h47 => ?_
 ·refine lO0 rfl ⟨⟩ (b1a j5a (vs := []) (cs := [_, _, _]) rfl rfl rfl rfl ?_)
  first | refine c0a (kk := 2) (vs := [_, _, _]) S3_8 O2a rfl rfl rfl rfl rfl rfl rfl ?_
  intro w7_1 S7_1 X7_1
  dsimp only [e0a, List.set] at S7_1
  first | refine w0a (kk := 1) S7_1 z7a rfl (by conv => lhs; whnf) rfl rfl (by exact Nat.le_of_ble_eq_true rfl) ?_
  intro w7_2 S7_2 X7_2
  refine lR0 rfl ⟨⟩ ?_
  rw [m3a (F1c (x := ⟨xt, xst, xc⟩) h47)]
  exact Z1a (n := 3) rfl q1a g2a rfl rfl rfl [] rfl List.nodup_nil NC.nil (S7_2.cells 2 rfl) (S7_2.cell 1 rfl rfl) (by simp) (by simp) (fun w' hb => ⟨⟨_, rfl, y2a⟩, (S7_2.below.trans hb).nil⟩)
 obtain ⟨t, rfl⟩ := Int.eq_ofNat_of_zero_le (show 0 ≤ xt by omega)
 have ht : t < p.threads.length := by omega
 obtain ⟨b, hxb⟩ : ∃ b, c.buf[t]? = some b := ⟨c.buf[t]'(by omega), List.getElem?_eq_getElem _⟩
 obtain ⟨th, hxth⟩ : ∃ th, p.threads[t]? = some th := ⟨p.threads[t]'(by omega), List.getElem?_eq_getElem _⟩
 refine lB S3_8.k [.o 3] rfl ⟨rfl,⟨⟩⟩ (fun h52 => ?_) fun h52 => ?_
 ·subst h52
  refine lO S3_8.k [.w 0,.o 3] rfl ⟨rfl,⟨rfl,by rfl⟩,⟨⟩⟩ ?_
  have Zb := S3_8.size
  refine F0a S3_8 H6c rfl rfl (p4c _ rfl (t : Int) _) ?_
  rintro v56 w56 ⟨gs, gt, rfl, _, _, hbs, hbt⟩ S56 X56
  refine lC0 rfl ⟨⟩ (wJ ?_)
  refine Z9a (vs := fun y => #[y, _, _]) e5c rfl (fun _ => rfl) (fun rc wi hst hpe htm henv hps has hbo hdr hl hB hsz => ?_)
  obtain ⟨l, hl'⟩ : ∃ l, l = w56.heap.size + 1 := ⟨_, rfl⟩
  have hO1 := c0b (NC.nil (w := w56)) hdr hl hB
  rw [← hl'] at hl hO1 ⊢
  have Si := S56.later hB
  have Ki : C0a [] w56 wi := C0a.of_below hB
  have Zw := S56.size
  have lgs : gs < w56.heap.size := hbs.lt
  have hMl : ∀ g ∈ (l :: M), g ∈ M ∨ w0.heap.size ≤ g := fun g hg => by
   rcases List.mem_cons.1 hg with rfl | hg
   ·right; omega
   ·exact .inl hg
  have hXi : O0a (l :: M) wi c _ := (hX.more hMl).keep (Si.keep0 _)
  have hgsM : gs ∉ (l :: M) := fun hh => by
   rcases List.mem_cons.1 hh with h | h
   ·omega
   ·have := hM gs h; omega
  have hlne : ∀ x ∈ [(w56.heap.size, Obj.deferred (some []))], x.1 ≠ l := fun x hx => by
   rcases List.mem_cons.1 hx with rfl | hx
   ·show w56.heap.size ≠ l; omega
   ·cases hx
  refine R0a.mono (f2c c m t b hxb gs gt l (l :: M) wi _ [.slice Ac nc cc, .slice Am nm cm, .slice Al nl cl, .slice At nt ct] rfl (fun i w => NC w [(l, .loop rc), (w56.heap.size, .deferred (some []))] ∧ St [] w0 w [(some g10, 189, [.slice Xm xm ym, .slice Xa xa ya, .slice Xb xb yb, .slice Ac nc cc, .slice Am nm cm, .slice Al nl cl, .slice At nt ct, .int .i64 m]), (some g9, 32, [.int .i64 0]), (some g8, 52, [.slice none 0 0, .slice none 0 0, .slice none 0 0]), (some g7, 68, [.int .i64 t, .int .i64 (-1), .int .i64 xc]), (some g6, 52, [.slice Xm xm ym, .slice Xa xa ya, .slice Xb xb yb]), (some g4, 27, [.slice Ac nc cc, .slice Am nm cm, .slice Al nl cl, .slice At nt ct])] ∧ C0a (l :: M) wi w ∧ (∀ q en, q < i → b[q]? = some en → Q3a m b q = true → en.cells.getD 0 0 ≠ xc)) (fun w => ∃ (i : Nat) (en : I0a) (ys : List Value), b[i]? = some en ∧ Q3a m b i = true ∧ en.cells.getD 0 0 = xc ∧ (∀ q en, q < i → b[q]? = some en → Q3a m b q = true → en.cells.getD 0 0 ≠ xc) ∧ NC w [(l, .loop { rc with state := .done, pending := some .ret }), (w56.heap.size, .deferred (some []))] ∧ St [] w0 w [(some g10, 189, [.slice Xm xm ym, .slice Xa xa ya, .slice Xb xb yb, .slice Ac nc cc, .slice Am nm cm, .slice Al nl cl, .slice At nt ct, .int .i64 m]), (some g9, 32, [.int .i64 0]), (some g8, 52, ys), (some g7, 68, [.int .i64 t, .int .i64 (-1), .int .i64 xc]), (some g6, 52, [.slice Xm xm ym, .slice Xa xa ya, .slice Xb xb yb]), (some g4, 27, [.slice Ac nc cc, .slice Am nm cm, .slice Al nl cl, .slice At nt ct])] ∧ ys.length = 3 ∧ O0a (l :: w56.heap.size :: M) w (G5a c t i) ys) hXi hgsM (V2a Ki hbs) (V2a Ki hbt) ⟨hO1, Si, C0a.refl _ _, fun q en hq => absurd hq (by omega)⟩ (fun i w hJ => hJ.2.2.1) ?_ ?_ (fun i en w es hxen hrd hJ hE => ?_)) ?_
  ·rintro i w w' ⟨hO3, S3, K3, hno⟩ hB'
   exact ⟨hO3.keep (C0a.of_below hB'), S3.later hB', K3.trans (C0a.of_below hB'), hno⟩
  ·rintro i w ⟨hO3, S3, K3, hno⟩ hi hr
   exact ⟨hO3, S3, K3, fun q en hq hx hr' => by
    by_cases hqi : q = i
    ·subst hqi; rw [hr] at hr'; cases hr'
    ·exact hno q en (by omega) hx hr'⟩
  ·obtain ⟨hO3, S3, K3, hno⟩ := hJ
   obtain ⟨_, _, _, _, _, _, rfl, -⟩ := e1a.open_ (hE _ _ (fun g hg => .inl hg) K3)
   have qE := (hf.bufs t b hxb).2.1 en (f0a hxen)
   have qE0 : 0 < en.cells.length := by
    rcases Nat.eq_zero_or_pos en.cells.length with h | h
    ·exact absurd (List.length_eq_zero_iff.1 h) qE.some_
    ·exact h
   have li := D1a hxen
   refine t8b (hO3 (l, .loop rc) (by simp)).1 hst htm henv hps has hbo rfl rfl ?_
   refine wI ?_
   refine wO0 rfl ⟨⟩ (k0a S3 v8a rfl rfl ?_)
   intro g13 w13 S13 X13 G13
   have GK313 := Nat.le_trans K3.size G13
   replace K3 := K3.trans (X13.of_nil)
   replace hO3 := hO3.keep X13
   refine c0a (kk := 0) (vs := [_, _]) S13 c9a rfl rfl rfl rfl rfl rfl rfl ?_
   intro w11_1 S11_1 X11_1
   dsimp only [e0a, List.set] at S11_1
   replace K3 := K3.fresh2 X11_1 (by exact .inl GK313)
   replace hO3 := by exact hO3.keepS X11_1 (S13.blk 0 rfl)
   refine lF0 rfl ⟨⟩ ?_
   refine ⟨(hO3 (l, .loop rc) (by simp)).1, ?_⟩
   have Sb := S11_1.putObj (.loop { rc with state := .busy }) hO3 (List.mem_cons_self) (.inl (by omega))
   have hOb := hO3.put (o' := .loop { rc with state := .busy }) hlne (by simp)
   have Kb := K3.fresh2 (a2a w11_1 l (.loop { rc with state := .busy })) (.inr (by simp))
   generalize w11_1.putObj l (.loop { rc with state := .busy }) = wb at Sb hOb Kb ⊢
   obtain ⟨_, _, _, _, _, _, heq, hCeB, -⟩ := e1a.open_ (hE (l :: M) wb (fun g hg => .inl hg) Kb)
   simp only [List.cons.injEq, Value.slice.injEq, and_true] at heq
   obtain ⟨⟨rfl, rfl, rfl⟩, rfl, rfl, rfl⟩ := heq
   have hec := hCeB.len.1
   refine wI ?_
   obtain ⟨_, _, _, _, hxx0, _, _, _, hcx, hrx⟩ := RdS.get hCeB 0 qE0
   obtain ⟨rfl, _⟩ := hrx
   refine wC0 rfl ⟨⟩ (x0a b0a [0, 1, 2, 3, 4, 5, 6] [] [] (by kernel_rfl) rfl (Cl _ _ _ _) (Cl.start Sb) ?_)
   refine qO Sb.q [.o 0] rfl ⟨rfl,⟨⟩⟩ (j0a W0a.slT rfl (by assumption) rfl (by omega) (by omega) rfl ?_)
   refine i0a G0a rfl (fun w1 hw => by exact hw.2.cell List.not_mem_nil (hcx 0 _ rfl)) rfl ?_
   refine qO0 rfl ⟨⟩ (i0a G0a rfl (fun w1 hw => by exact hw.1.cell 4 rfl rfl) rfl ?_)
   refine qB0 rfl ⟨⟩ (fun h65 => ?_) fun h65 => ?_
   ·refine qD rfl ⟨⟩ ?_
    rintro wR12 ⟨SR12, XR12⟩
    replace Kb := Kb.trans (XR12.of_nil)
    replace hOb := hOb.keep XR12
    refine lO0 rfl ⟨⟩ (m2a M8a rfl (SR12.cells 1 rfl) rfl rfl ?_)
    refine lO0 rfl ⟨⟩ (u0a G0a rfl (by exact SR12.cell 4 rfl rfl) rfl ?_)
    refine lO0 rfl ⟨⟩ ?_
    have hM4 : ∀ g ∈ l :: w56.heap.size :: g9 :: g8 :: M, g < wR12.heap.size := fun g hg => by
     rcases List.mem_cons.1 hg with rfl | hg
     ·exact hOb.lt _ List.mem_cons_self
     ·rcases List.mem_cons.1 hg with rfl | hg
      ·exact hOb.lt (w56.heap.size, .deferred (some [])) (by simp)
      ·exact z9b SR12 (i := 2) (j := 3) rfl rfl hM g hg
    have hN4 : ∀ g ∈ l :: w56.heap.size :: g9 :: g8 :: M, g ∈ M ∨ w0.heap.size ≤ g := fun g hg => by
     rcases List.mem_cons.1 hg with rfl | hg
     ·right; omega
     ·rcases List.mem_cons.1 hg with rfl | hg
      ·right; omega
      ·exact N7a SR12 (i := 2) (j := 3) rfl rfl g hg
    refine F0a SR12 Z3c rfl rfl (n9b p hp c t i b (l :: w56.heap.size :: g9 :: g8 :: M) _ hM4 [.slice Ac nc cc, .slice Am nm cm, .slice Al nl cl, .slice At nt ct] [.slice Xm xm ym, .slice Xa xa ya, .slice Xb xb yb] m ⟨(hI.rd.more hN4).keep (SR12.keep0 _), hI.ok, (hI.msk.more hN4).keep (SR12.keep0 _), hM4⟩ ((hX.more hN4).keep (SR12.keep0 _)) hf hxb li) ?_
    rintro v70 w70 ⟨ys, rfl, hy⟩ S70 X70
    replace hOb := hOb.keep X70
    obtain ⟨Ym, ym', zm, Ya, ya', za, Yb, yb', zb, rfl, -⟩ := hy.open_
    first | refine c0a (kk := 3) (vs := [_, _, _]) S70 O2a rfl rfl rfl rfl rfl rfl rfl ?_
    intro w13_5 S13_5 X13_5
    dsimp only [e0a, List.set] at S13_5
    replace hOb := by exact hOb.keepS X13_5 (S70.blk 3 rfl)
    replace hy := hy.keep (X13_5.mono (by simp))
    first | refine w0a (kk := 2) S13_5 z7a rfl (by conv => lhs; whnf) rfl rfl (by exact Nat.le_of_ble_eq_true rfl) ?_
    intro w13_6 S13_6 X13_6
    replace hOb := by exact hOb.keepS X13_6 (S13_5.blk 2 rfl)
    replace hy := hy.keep (X13_6.mono (by simp))
    refine lR0 rfl ⟨⟩ ?_
    refine ⟨{ rc with state := .busy }, (hOb (l, _) (by simp)).1, .inr ⟨rfl, ?_⟩⟩
    have hOn := hOb.put (o' := .loop { rc with state := .done, pending := some .ret }) hlne (by simp)
    have Sn := S13_6.tail.putObj (.loop { rc with state := .done, pending := some .ret }) hOb (List.mem_cons_self) (.inl (by omega))
    exact ⟨i, en, _, hxen, hrd, by rw [getD_some hxx0]; exact h65, hno, hOn, Sn, rfl, (hy.keep ((a2a w13_6 l _).mono (by simp))).less (fun g hg => by simp only [List.mem_cons] at hg ⊢; rcases hg with h | h | h <;> simp [h])⟩
   refine qD rfl ⟨⟩ ?_
   rintro wR12 ⟨SR12, XR12⟩
   replace Kb := Kb.trans (XR12.of_nil)
   replace hOb := hOb.keep XR12
   refine lF0 rfl ⟨⟩ ?_
   refine ⟨{ rc with state := .busy }, (hOb (l, _) (by simp)).1, .inl ⟨rfl, ?_⟩⟩
   have hOn := hOb.put (o' := .loop rc) hlne (by simp)
   have Sn := SR12.tail.putObj (.loop rc) hOb (List.mem_cons_self) (.inl (by omega))
   have Kn := Kb.fresh2 (a2a wR12 l (.loop rc)) (.inr (by simp))
   rw [z6b hst hpe]
   exact ⟨hOn, Sn, Kn, fun q en' hq hx hr' => by
    by_cases hqi : q = i
    ·subst hqi; obtain rfl := Option.some.inj (hxen.symm.trans hx); rw [getD_some hxx0]; exact h65
    ·exact hno q en' (by omega) hx hr'⟩
  rintro v w3 (⟨hO3, S3, K3, hno⟩ | ⟨i, en, ys, hxen, hrd, hce, hfst, hO3, S3, hy3, hyr⟩)
  rotate_left
  ·refine ⟨{ rc with state := .done, pending := some .ret }, (hO3 (l, _) List.mem_cons_self).1, by simp, .inr ⟨rfl, ?_⟩⟩
   have Sa := S3.putObj (.loop { rc with state := .exhausted, pending := some .ret }) hO3 (List.mem_cons_self) (.inl (by omega))
   have hOa := (hO3.put (o' := .loop { rc with state := .exhausted, pending := some .ret }) hlne (by simp)).tail
   have Ka := a2a w3 l (.loop { rc with state := .exhausted, pending := some .ret })
   have hya := hyr.keep (Ka.mono (by simp))
   subst hce
   rw [c6a (c4c ht hxb hxen hrd), x5c hxb (fun e he => ((hf.bufs t b hxb).2.1 e he).some_) hxen hrd]
   exact Z1a (n := 3) rfl q1a g2a rfl rfl hy3 [w56.heap.size] rfl (by simp) hOa (Sa.cells 2 rfl) (Sa.cell 1 rfl rfl) (by have := hOa.ne (Sa.blk 2 rfl) _ (List.mem_cons_self); simpa using fun h : g8 = _ => this h.symm) (by have := hOa.ne (Sa.blk 1 rfl) _ (List.mem_cons_self); simpa using fun h : g9 = _ => this h.symm) (fun w' hb => ⟨⟨_, rfl, (hya.keep ((C0a.of_belowM hb).mono (by simp))).less (fun g hg => by simp [hg])⟩, (L0a.step Sa.below hb (by simp; omega)).nil⟩)
  refine ⟨rc, (hO3 (l, .loop rc) (by simp)).1, by rw [hst]; simp, .inl ⟨hpe, ?_⟩⟩
  have Sa := S3.putObj (.loop { rc with state := .exhausted }) hO3 (List.mem_cons_self) (.inl (by omega))
  have hOa := (hO3.put (o' := .loop { rc with state := .exhausted }) hlne (by simp)).tail
  generalize w3.putObj l (.loop { rc with state := .exhausted }) = wa at Sa hOa ⊢
  refine fO0 rfl ⟨⟩ (b1a j5a (vs := []) (cs := [_, _, _]) rfl rfl rfl rfl ?_)
  first | refine c0a (kk := 2) (vs := [_, _, _]) Sa O2a rfl rfl rfl rfl rfl rfl rfl ?_
  intro w14_1 S14_1 X14_1
  dsimp only [e0a, List.set] at S14_1
  replace hOa := by exact hOa.keepS X14_1 (Sa.blk 2 rfl)
  first | refine w0a (kk := 1) S14_1 z7a rfl (by conv => lhs; whnf) rfl rfl (by exact Nat.le_of_ble_eq_true rfl) ?_
  intro w14_2 S14_2 X14_2
  replace hOa := by exact hOa.keepS X14_2 (S14_1.blk 1 rfl)
  refine lR0 rfl ⟨⟩ ?_
  rw [m3a (u1c hxb hno)]
  exact Z1a (n := 3) rfl q1a g2a rfl rfl rfl [w56.heap.size] rfl (by simp) hOa (S14_2.cells 2 rfl) (S14_2.cell 1 rfl rfl) (by have := hOa.ne (S14_2.blk 2 rfl) _ (List.mem_cons_self); simpa using fun h : g8 = _ => this h.symm) (by have := hOa.ne (S14_2.blk 1 rfl) _ (List.mem_cons_self); simpa using fun h : g9 = _ => this h.symm) (fun w' hb => ⟨⟨_, rfl, y2a⟩, (L0a.step S14_2.below hb (by simp; omega)).nil⟩)
 obtain ⟨i, rfl⟩ := Int.eq_ofNat_of_zero_le (show 0 ≤ xst by omega)
 refine lO S3_8.k [.w 4,.o 3] rfl ⟨rfl,⟨rfl,by rfl⟩,⟨⟩⟩ (F0a S3_8 M4c rfl rfl (p5c p hp c t b (g9 :: g8 :: M) _ (z9b S3_8 (i := 1) (j := 2) rfl rfl hM) _ ((hX.more (N7a S3_8 (i := 1) (j := 2) rfl rfl)).keep (S3_8.keep0 _)) hf hxb) ?_)
 rintro v75 w75 hV S75 X75
 obtain ⟨_, _, _, rfl⟩ := hV.form
 refine lC0 rfl ⟨⟩ (x0a b0a [0, 1, 2, 3, 4, 5, 6, 7, 8, 9, 10, 11, 12, 13, 14, 15, 16, 17, 18, 19, 20, 21, 22, 23, 24, 25] [] [] (by kernel_rfl) rfl (Cl _ _ _ _) (Cl.start S75) ?_)
 refine qB S75.q [.o 3] rfl ⟨rfl,⟨⟩⟩ (fun h78 => ?_) fun h78 => ?_
 ·refine qD rfl ⟨⟩ ?_
  rintro wR16 ⟨SR16, XR16⟩
  replace hV := hV.keep (XR16.of_nil)
  refine lO0 rfl ⟨⟩ (b1a j5a (vs := []) (cs := [_, _, _]) rfl rfl rfl rfl ?_)
  first | refine c0a (kk := 2) (vs := [_, _, _]) SR16 O2a rfl rfl rfl rfl rfl rfl rfl ?_
  intro w17_1 S17_1 X17_1
  dsimp only [e0a, List.set] at S17_1
  first | refine w0a (kk := 1) S17_1 z7a rfl (by conv => lhs; whnf) rfl rfl (by exact Nat.le_of_ble_eq_true rfl) ?_
  intro w17_2 S17_2 X17_2
  refine lR0 rfl ⟨⟩ ?_
  rw [m3a (G1c (t := t) (st := i) (by omega) h78)]
  exact Z1a (n := 3) rfl q1a g2a rfl rfl rfl [] rfl List.nodup_nil NC.nil (S17_2.cells 2 rfl) (S17_2.cell 1 rfl rfl) (by simp) (by simp) (fun w' hb => ⟨⟨_, rfl, y2a⟩, (S17_2.below.trans hb).nil⟩)
 obtain ⟨_, b86, p86, _, hx86, hA86, _, _, hc86, hr86⟩ := RdS.get (hTh) (t) (by omega)
 obtain rfl := Option.some.inj (hxth.symm.trans hx86)
 obtain ⟨_, _, _, _, _, _, _, _, _, _, _, _, rfl, _, _, _, _, _, _, _, hns86, _, _, _, _, _⟩ := v0a.open_ hr86
 refine qB (S75.q.a hc86) [.o 3,.o 5,.o 3,.x b86 p86,.f 0 4] rfl ⟨rfl,⟨hA86,by omega⟩,rfl,rfl,rfl,⟨⟩⟩ (fun h90 => ?_) fun h90 => ?_
 ·refine qD rfl ⟨⟩ ?_
  rintro wR16 ⟨SR16, XR16⟩
  replace hV := hV.keep (XR16.of_nil)
  refine lO0 rfl ⟨⟩ (b1a j5a (vs := []) (cs := [_, _, _]) rfl rfl rfl rfl ?_)
  first | refine c0a (kk := 2) (vs := [_, _, _]) SR16 O2a rfl rfl rfl rfl rfl rfl rfl ?_
  intro w17_1 S17_1 X17_1
  dsimp only [e0a, List.set] at S17_1
  first | refine w0a (kk := 1) S17_1 z7a rfl (by conv => lhs; whnf) rfl rfl (by exact Nat.le_of_ble_eq_true rfl) ?_
  intro w17_2 S17_2 X17_2
  refine lR0 rfl ⟨⟩ ?_
  rw [m3a (D2c hxth (st := i) (by omega) (by rw [← hns86]; exact h90))]
  exact Z1a (n := 3) rfl q1a g2a rfl rfl rfl [] rfl List.nodup_nil NC.nil (S17_2.cells 2 rfl) (S17_2.cell 1 rfl rfl) (by simp) (by simp) (fun w' hb => ⟨⟨_, rfl, y2a⟩, (S17_2.below.trans hb).nil⟩)
 refine qO S75.q [.w 0,.o 3,.o 3] rfl ⟨rfl,rfl,⟨rfl,by rfl⟩,⟨⟩⟩ ?_
 obtain ⟨s, hxs⟩ : ∃ s, th.steps[i]? = some s := ⟨th.steps[i]'(by omega), List.getElem?_eq_getElem _⟩
 refine M1a b6c rfl rfl (fun w1 S1 X1 => I1b p c m hm2 t i th s M _ [.slice Ac nc cc, .slice Am nm cm, .slice Al nl cl, .slice At nt ct] [.slice Xm xm ym, .slice Xa xa ya, .slice Xb xb yb] _ (hI.keep (S1.keep0 M)) (hX.keep (S1.keep0 M)) ((hV.keep (X1.of_nil)).less (fun g hg => List.mem_cons_of_mem _ (List.mem_cons_of_mem _ hg))) hf hxth hxs) (fun h99 => ?_) fun h99 => ?_
 ·refine qD rfl ⟨⟩ ?_
  rintro wR16 ⟨SR16, XR16⟩
  replace hV := hV.keep (XR16.of_nil)
  subst h78
  have hin := k5c hxth hxs h99
  have hdo : doC p m c ⟨t, i, 0⟩ = A6a p m c t s := J9c hxth hxs
  have hf' := Q6b hp hf hin
  rw [hdo] at hf'
  refine lO SR16.k [.w 0,.w 3] rfl ⟨⟨rfl,by rfl⟩,⟨rfl,by rfl⟩,⟨⟩⟩ (F0a SR16 K3c rfl rfl (F7b p c m hm2 t i th s (g9 :: g8 :: M) _ [.slice Ac nc cc, .slice Am nm cm, .slice Al nl cl, .slice At nt ct] [.slice Xm xm ym, .slice Xa xa ya, .slice Xb xb yb] _ (hI.two SR16 (i := 1) (j := 2) rfl rfl) ((hX.more (N7a SR16 (i := 1) (j := 2) rfl rfl)).keep (SR16.keep0 _)) hV hf hxth hxs hf') ?_)
  rintro v106 w106 ⟨ys, rfl, hy⟩ S106 X106
  obtain ⟨Ym, ym', zm, Ya, ya', za, Yb, yb', zb, rfl, -⟩ := hy.open_
  first | refine c0a (kk := 2) (vs := [_, _, _]) S106 O2a rfl rfl rfl rfl rfl rfl rfl ?_
  intro w18_4 S18_4 X18_4
  dsimp only [e0a, List.set] at S18_4
  replace hy := hy.keep (X18_4.mono (by simp))
  first | refine w0a (kk := 1) S18_4 z7a rfl (by conv => lhs; whnf) rfl rfl (by exact Nat.le_of_ble_eq_true rfl) ?_
  intro w18_5 S18_5 X18_5
  replace hy := hy.keep (X18_5.mono (by simp))
  refine lR0 rfl ⟨⟩ ?_
  rw [c6a hin, hdo]
  exact Z1a (n := 3) rfl q1a g2a rfl rfl rfl [] rfl List.nodup_nil NC.nil (S18_5.cells 2 rfl) (S18_5.cell 1 rfl rfl) (by simp) (by simp) (fun w' hb => ⟨⟨_, rfl, (hy.keep (C0a.of_below hb.nil)).less (fun g hg => by simp [hg])⟩, (S18_5.below.trans hb).nil⟩)
 refine qD rfl ⟨⟩ ?_
 rintro wR16 ⟨SR16, XR16⟩
 refine lO0 rfl ⟨⟩ (b1a j5a (vs := []) (cs := [_, _, _]) rfl rfl rfl rfl ?_)
 first | refine c0a (kk := 2) (vs := [_, _, _]) SR16 O2a rfl rfl rfl rfl rfl rfl rfl ?_
 intro w17_1 S17_1 X17_1
 dsimp only [e0a, List.set] at S17_1
 first | refine w0a (kk := 1) S17_1 z7a rfl (by conv => lhs; whnf) rfl rfl (by exact Nat.le_of_ble_eq_true rfl) ?_
 intro w17_2 S17_2 X17_2
 refine lR0 rfl ⟨⟩ ?_
 rw [m3a (F5c hxth hxs h99)]
 exact Z1a (n := 3) rfl q1a g2a rfl rfl rfl [] rfl List.nodup_nil NC.nil (S17_2.cells 2 rfl) (S17_2.cell 1 rfl rfl) (by simp) (by simp) (fun w' hb => ⟨⟨_, rfl, y2a⟩, (S17_2.below.trans hb).nil⟩)
end Go.Proofs.YtjjmdcnmeommbaaGreatDoor
namespace Go.Fw
open Go.RowKit
def u4a (p : d0a) (m : Int) (c : D0a) : List n0a → List D0a
 | [] => []
 | x :: l => if x ∈ M0a p m c then doC p m c x :: u4a p m (doC p m c x) l else []
def L2a (p : d0a) (m : Int) (run : List n0a) : List D0a := v1a p :: u4a p m (v1a p) run
theorem i4c {p : d0a} {m : Int} {c : D0a} (he : B5a c) {x : n0a} (hx : x ∈ M0a p m c) : ∃ (t i : Nat) (th : J0a) (s : m1a), x = ⟨t, i, 0⟩ ∧ p.threads[t]? = some th ∧ th.steps[i]? = some s ∧ N0a p m c t s = true := by
 obtain ⟨t, ht, h | h⟩ := G1a.1 hx
 ·obtain ⟨i, s, hs, he, rfl⟩ := h
  have hth : p.threads[t]? = some p.threads[t] := List.getElem?_eq_getElem ht
  rw [C1a hth] at hs
  exact ⟨t, i, _, s, rfl, hth, hs, he⟩
 ·obtain ⟨i, h1, -⟩ := h
  rw [he.getD] at h1; simp at h1
section
variable {p : d0a} {m : Int}
theorem n4b : ∀ (run : List n0a) (c : D0a), (u4a p m c run).length ≤ run.length
 | [], _ => Nat.le_refl _
 | x :: l, c => by
   unfold u4a
   split
   ·simpa using n4b l _
   ·simp
theorem E9a : ∀ (run : List n0a) (c0 : D0a) (k : Nat) (c : D0a) (x : n0a), (c0 :: u4a p m c0 run)[k]? = some c → run[k]? = some x →
 (x ∈ M0a p m c → (c0 :: u4a p m c0 run)[k + 1]? = some (doC p m c x)) ∧ (x ∉ M0a p m c → (u4a p m c0 run).length = k)
 | [], _, _, _, _, _, h => by simp at h
 | y :: l, c0, 0, c, x, hc, hx => by
   simp at hc hx
   subst hc; subst hx
   unfold u4a
   constructor
   ·intro h; rw [if_pos h]; rfl
   ·intro h; rw [if_neg h]; rfl
 | y :: l, c0, k + 1, c, x, hc, hx => by
   have hx' : l[k]? = some x := by simpa using hx
   by_cases hy : y ∈ M0a p m c0
   ·have e : u4a p m c0 (y :: l) = doC p m c0 y :: u4a p m (doC p m c0 y) l := by rw [u4a, if_pos hy]
    rw [e] at hc ⊢
    have hc' : (doC p m c0 y :: u4a p m (doC p m c0 y) l)[k]? = some c := by simpa using hc
    obtain ⟨h1, h2⟩ := E9a l _ k c x hc' hx'
    exact ⟨fun h => by rw [List.getElem?_cons_succ]; exact h1 h, fun h => by rw [List.length_cons, h2 h]⟩
   ·have e : u4a p m c0 (y :: l) = [] := by rw [u4a, if_neg hy]
    rw [e] at hc
    simp at hc
theorem Y5b (p : d0a) (m : Int) (run : List n0a) : (L2a p m run).length = (u4a p m (v1a p) run).length + 1 := rfl
theorem P5a (p : d0a) (m : Int) (run : List n0a) : (L2a p m run).length ≤ run.length + 1 := by have := n4b (p := p) (m := m) run (v1a p); rw [Y5b]; omega
theorem T1b {run : List n0a} {k : Nat} {c : D0a} {x : n0a} (hc : (L2a p m run)[k]? = some c) (hx : run[k]? = some x) (h : x ∈ M0a p m c) : (L2a p m run)[k + 1]? = some (doC p m c x) := (E9a run _ k c x hc hx).1 h
theorem T8b {run : List n0a} {k : Nat} {c : D0a} {x : n0a} (hc : (L2a p m run)[k]? = some c) (hx : run[k]? = some x) (h : x ∉ M0a p m c) : (L2a p m run).length = k + 1 := by rw [Y5b, (E9a run _ k c x hc hx).2 h]
def b7c (p : d0a) (m : Int) (c : D0a) : Prop := b6a p c ∧ (m = 0 → B5a c)
theorem D7b (hp : T0a p) : b7c p m (v1a p) := ⟨g0b hp, fun _ b hb => by
 simp only [v1a, List.mem_map] at hb
 obtain ⟨_, _, rfl⟩ := hb; rfl⟩
theorem m4c (hp : T0a p) {c : D0a} (h : b7c p m c) {x : n0a} (hx : x ∈ M0a p m c) : b7c p m (doC p m c x) := ⟨Q6b hp h.1 hx, fun h0 => by
 subst h0
 obtain ⟨_, _, _, _, rfl, hth, hs, _⟩ := i4c (h.2 rfl) hx
 rw [W9c (h.2 rfl) hth hs]
 exact h.2 rfl⟩
theorem K6b (hp : T0a p) : ∀ (run : List n0a) (c0 : D0a), b7c p m c0 → ∀ c ∈ c0 :: u4a p m c0 run, b7c p m c
 | [], c0, h, c, hc => by simp [u4a] at hc; subst hc; exact h
 | y :: l, c0, h, c, hc => by
   rcases List.mem_cons.1 hc with rfl | hc
   ·exact h
   ·unfold u4a at hc
    split at hc
    ·rename_i hy
     exact K6b hp l _ (m4c hp h hy) c hc
    ·cases hc
theorem W6b (hp : T0a p) {run : List n0a} {c : D0a} (hc : c ∈ L2a p m run) : b7c p m c := K6b hp run _ (D7b hp) c hc
end
end Go.Fw
namespace Go.Fw
open Go.RowKit
structure Y2a where
 at_ : Int
 kind : Int
 module_ : Int
 thread : Int
 item : Int
  deriving DecidableEq
def z8a (cs : List Value) (v : Y2a) : Prop := cs = [.int .i64 v.at_, .int .i64 v.kind, .int .i64 v.module_, .int .i64 v.thread, .int .i64 v.item] ∧ i64 v.at_ ∧ i64 v.kind ∧ i64 v.module_ ∧ i64 v.thread ∧ i64 v.item
abbrev K7b (M : List Nat) (w : World) (v : Value) (l : List Y2a) : Prop := RdS M w 5 z8a v l
theorem n2a : B7a (fun (_ : List Nat) (_ : World) => z8a) 5 where
 len h := by rw [h.1]; rfl
 one h u hu := by rw [h.1] at hu; simp at hu; rcases hu with rfl | rfl | rfl | rfl | rfl <;> rfl
 keep _ h := h
 more _ h := h
theorem z8a.of {a k m t i : Int} (h1 : i64 a) (h2 : i64 k) (h3 : i64 m) (h4 : i64 t) (h5 : i64 i) : z8a [.int .i64 a, .int .i64 k, .int .i64 m, .int .i64 t, .int .i64 i] ⟨a, k, m, t, i⟩ := ⟨rfl, h1, h2, h3, h4, h5⟩
def W7c : m1a := ⟨0, 0, 0, ⟨0, 0, 0, []⟩, [], false, 0, 0⟩
def e4c : K0a := ⟨ByteArray.empty, ByteArray.empty, ⟨0, 0, 0, []⟩, ⟨0, 0, 0, []⟩, []⟩
def h9c : J0a := ⟨ByteArray.empty, 0, [], [], [], [], false⟩
def noE : E := ⟨0, 0, 0, []⟩
def N6a (c : D0a) : Bool := !(c.buf.any fun b => decide (0 < b.length))
structure EvD where
 at_ : Int
 x : n0a
 c : D0a
 d : D0a
section
variable (p : d0a) (e : EvD)
def EvD.step : Bool := decide (0 ≤ e.at_) && decide (e.x.step ≠ -1)
def EvD.still : Bool := e.step && (N6a e.c && N6a e.d)
def sOf : m1a := (e2a p e.x.thread.toNat).getD e.x.step.toNat W7c
def D5a (m : Int) : K0a := p.modules.getD m.toNat e4c
def G4a (t : Nat) : J0a := p.threads.getD t h9c
def j9a (kind : Int) : Y2a := ⟨e.at_, kind, (sOf p e).module_, e.x.thread, e.x.step⟩
def i5a (s : m1a) : Bool := s.set.any fun a => decide (k1a p.cells a.cell = -1) && !decide (a.cell ∈ (D5a p s.module_).frame)
def J2a : List Y2a := if e.still = true ∧ i5a p (sOf p e) = true then [j9a p e 4] else []
def E8a : Bool := decide ((D5a p (sOf p e).module_).guar.evl e.c.mem e.d.mem ≠ 0)
def k4a : List Y2a := if e.still = true ∧ E8a p e = false then [j9a p e 3] else []
def a0b (t : Nat) : List Y2a :=
 if (t : Int) = e.x.thread ∨ e.c.at_.getD t 0 = -1 then []
 else if (D5a p ((G4a p t).modules.getD (e.c.at_.getD t 0).toNat 0)).rely.op ≠ 0 ∧ (D5a p ((G4a p t).modules.getD (e.c.at_.getD t 0).toNat 0)).rely.evl e.c.mem e.d.mem = 0 then
  [⟨e.at_, 5, (G4a p t).modules.getD (e.c.at_.getD t 0).toNat 0, t, e.c.at_.getD t 0⟩]
 else []
def U6a (k : Nat) : List Y2a := (List.range k).flatMap (a0b p e)
def q6a : List Y2a := if e.still = true ∧ J2a p e = [] ∧ k4a p e = [] then U6a p e p.threads.length else []
def G8a (l : q5a) : Int := if e.step = true then (sOf p e).module_ else if 0 ≤ e.at_ then (G4a p e.x.thread.toNat).modules.getD (e.d.at_.getD e.x.thread.toNat 0).toNat 0 else l.module_
def h6a (i : Nat) : List Y2a := match p.locks[i]? with
 | some l => if e.d.mem.getD l.cell.toNat 0 ≠ 0 ∨ l.inv.evl e.d.mem e.d.mem ≠ 0 then [] else [⟨e.at_, 2, G8a p e l, if 0 ≤ e.at_ then e.x.thread else -1, i⟩]
 | none => []
def s4a (k : Nat) : List Y2a := (List.range k).flatMap (h6a p e)
def s3a : List Y2a := if N6a e.d = true then s4a p e p.locks.length else []
def M3a (t : Nat) : Int := if e.step = true ∧ ((t : Int) = e.x.thread ∨ (sOf p e).kind = 6 ∧ (sOf p e).target = t) then (sOf p e).module_ else (G4a p t).modules.getD (e.d.at_.getD t 0).toNat 0
def x2a (t : Nat) : List Y2a :=
 if e.d.at_.getD t 0 = -1 ∨ ((G4a p t).asserts.getD (e.d.at_.getD t 0).toNat noE).evl e.d.mem e.d.mem ≠ 0 then []
 else [⟨e.at_, 1, M3a p e t, t, e.d.at_.getD t 0⟩]
def R2a (k : Nat) : List Y2a := (List.range k).flatMap (x2a p e)
def R1a : List Y2a := if N6a e.d = true then R2a p e p.threads.length else []
def S3a : List Y2a := (if 0 ≤ e.at_ then J2a p e ++ (k4a p e ++ q6a p e) else []) ++ (s3a p e ++ R1a p e)
end
def A3c : n0a := ⟨0, 0, 0⟩
def noC : D0a := ⟨[], [], []⟩
def g4b (run : List n0a) (l : List D0a) (i : Nat) : EvD := if i = 0 then ⟨-1, A3c, noC, l.getD 0 noC⟩ else ⟨(i : Int) - 1, run.getD (i - 1) A3c, l.getD (i - 1) noC, l.getD i noC⟩
def u3a (p : d0a) (run : List n0a) (l : List D0a) (k : Nat) : List Y2a := (List.range k).flatMap fun i => S3a p (g4b run l i)
def X1a (p : d0a) (m : Int) (run : List n0a) : List Y2a := u3a p run (L2a p m run) (L2a p m run).length
structure f1b (p : d0a) (e : EvD) : Prop where
 lo : -1 ≤ e.at_
 hi : e.at_ ≤ 1000
 d : b6a p e.d
 c : 0 ≤ e.at_ → b6a p e.c
 t : 0 ≤ e.at_ → 0 ≤ e.x.thread ∧ e.x.thread < p.threads.length
 s : 0 ≤ e.at_ → e.x.step = -1 ∨ (0 ≤ e.x.step ∧ e.x.step < (e2a p e.x.thread.toNat).length)
 aw : 0 ≤ e.at_ → e.d.at_.getD e.x.thread.toNat 0 ≠ -1
 ci : e.at_ = -1 → e.x = A3c ∧ e.c = noC
section
variable {p : d0a} {e : EvD}
theorem v3a {t : Nat} {th : J0a} (h : p.threads[t]? = some th) : G4a p t = th := getD_some h
theorem Y3a {m : Int} {c : K0a} (h : p.modules[m.toNat]? = some c) : D5a p m = c := getD_some h
theorem c4a (k : Nat) : U6a p e (k + 1) = U6a p e k ++ a0b p e k := by simp [U6a, List.range_succ]
theorem a3a (k : Nat) : s4a p e (k + 1) = s4a p e k ++ h6a p e k := by simp [s4a, List.range_succ]
theorem c2a (k : Nat) : R2a p e (k + 1) = R2a p e k ++ x2a p e k := by simp [R2a, List.range_succ]
theorem W3b {run : List n0a} {l : List D0a} (k : Nat) : u3a p run l (k + 1) = u3a p run l k ++ S3a p (g4b run l k) := by simp [u3a, List.range_succ]
theorem Z5a {f : Nat → List Y2a} {n : Nat} (h : ∀ i, (f i).length ≤ n) : ∀ k, ((List.range k).flatMap f).length ≤ k * n
 | 0 => by simp
 | k + 1 => by
   have h1 := Z5a h k
   have h2 := h k
   have h3 : ([k].flatMap f).length = (f k).length := by simp
   rw [List.range_succ, List.flatMap_append, List.length_append, Nat.add_mul]
   omega
theorem z8b (k : Nat) : (a0b p e k).length ≤ 1 := by
 unfold a0b
 split
 ·simp
 ·split <;> simp
theorem Q9b (k : Nat) : (h6a p e k).length ≤ 1 := by
 unfold h6a
 split
 ·split <;> simp
 ·simp
theorem M4b (k : Nat) : (x2a p e k).length ≤ 1 := by unfold x2a; split <;> simp
theorem T0b : (J2a p e).length ≤ 1 := by unfold J2a; split <;> simp
theorem U3b : (k4a p e).length ≤ 1 := by unfold k4a; split <;> simp
theorem V5a (k : Nat) : (U6a p e k).length ≤ k := by have := Z5a (z8b (p := p) (e := e)) k; simpa [U6a] using this
theorem T2a (k : Nat) : (s4a p e k).length ≤ k := by have := Z5a (Q9b (p := p) (e := e)) k; simpa [s4a] using this
theorem W1a (k : Nat) : (R2a p e k).length ≤ k := by have := Z5a (M4b (p := p) (e := e)) k; simpa [R2a] using this
theorem w7b (hp : T0a p) : (S3a p e).length ≤ 16 := by
 have h1 := T0b (p := p) (e := e)
 have h2 := U3b (p := p) (e := e)
 have h3 := V5a (p := p) (e := e) p.threads.length
 have h4 := T2a (p := p) (e := e) p.locks.length
 have h5 := W1a (p := p) (e := e) p.threads.length
 have h6 := hp.nthreads
 have h7 := hp.nlocks
 unfold S3a q6a s3a R1a
 repeat' split
 all_goals simp <;> omega
theorem s6a (hp : T0a p) {run : List n0a} {l : List D0a} (k : Nat) : (u3a p run l k).length ≤ k * 16 := Z5a (fun _ => w7b hp) k
end
end Go.Fw
namespace Go.Fw
open Go.RowKit
section
variable {p : d0a} {m : Int}
theorem W2b {c : Prop} [Decidable c] {x v : Y2a} (h : v ∈ (if c then [x] else [])) : c ∧ v = x := by
 split at h
 ·rename_i hc; exact ⟨hc, by simpa using h⟩
 ·cases h
theorem b8a {e : EvD} {v : Y2a} (h : v ∈ J2a p e) : (e.still = true ∧ i5a p (sOf p e) = true) ∧ v = j9a p e 4 := W2b h
theorem i0b {e : EvD} {v : Y2a} (h : v ∈ k4a p e) : (e.still = true ∧ E8a p e = false) ∧ v = j9a p e 3 := W2b h
theorem g9a {e : EvD} {v : Y2a} (h : v ∈ q6a p e) : e.still = true ∧ J2a p e = [] ∧ k4a p e = [] ∧ ∃ t, t < p.threads.length ∧ v ∈ a0b p e t := by
 unfold q6a at h
 split at h
 ·rename_i hc
  unfold U6a at h
  obtain ⟨t, ht, h⟩ := List.mem_flatMap.1 h
  exact ⟨hc.1, hc.2.1, hc.2.2, t, List.mem_range.1 ht, h⟩
 ·cases h
theorem J9a {e : EvD} {t : Nat} {v : Y2a} (h : v ∈ a0b p e t) : (t : Int) ≠ e.x.thread ∧ e.c.at_.getD t 0 ≠ -1 ∧ (D5a p ((G4a p t).modules.getD (e.c.at_.getD t 0).toNat 0)).rely.evl e.c.mem e.d.mem = 0 ∧
 v = ⟨e.at_, 5, (G4a p t).modules.getD (e.c.at_.getD t 0).toNat 0, t, e.c.at_.getD t 0⟩ := by
 unfold a0b at h
 split at h
 ·cases h
 ·rename_i h1
  split at h
  ·rename_i h2
   exact ⟨fun hh => h1 (.inl hh), fun hh => h1 (.inr hh), h2.2, by simpa using h⟩
  ·cases h
theorem O7a {e : EvD} {v : Y2a} (h : v ∈ s3a p e) : N6a e.d = true ∧ ∃ (i : Nat) (l : q5a), p.locks[i]? = some l ∧ e.d.mem.getD l.cell.toNat 0 = 0 ∧ l.inv.evl e.d.mem e.d.mem = 0 ∧ v = ⟨e.at_, 2, G8a p e l, if 0 ≤ e.at_ then e.x.thread else -1, i⟩ := by
 unfold s3a at h
 split at h
 ·rename_i hc
  unfold s4a at h
  obtain ⟨i, _, h⟩ := List.mem_flatMap.1 h
  refine ⟨hc, i, ?_⟩
  unfold h6a at h
  split at h
  ·rename_i l hl
   split at h
   ·cases h
   ·rename_i h1
    simp only [not_or, Decidable.not_not] at h1
    exact ⟨l, hl, h1.1, h1.2, by simpa using h⟩
  ·cases h
 ·cases h
theorem F5a {e : EvD} {v : Y2a} (h : v ∈ R1a p e) : N6a e.d = true ∧ ∃ t : Nat, t < p.threads.length ∧ e.d.at_.getD t 0 ≠ -1 ∧ ((G4a p t).asserts.getD (e.d.at_.getD t 0).toNat noE).evl e.d.mem e.d.mem = 0 ∧
 v = ⟨e.at_, 1, M3a p e t, t, e.d.at_.getD t 0⟩ := by
 unfold R1a at h
 split at h
 ·rename_i hc
  unfold R2a at h
  obtain ⟨t, ht, h⟩ := List.mem_flatMap.1 h
  refine ⟨hc, t, List.mem_range.1 ht, ?_⟩
  unfold x2a at h
  split at h
  ·cases h
  ·rename_i h1
   simp only [not_or, Decidable.not_not] at h1
   exact ⟨h1.1, h1.2, by simpa using h⟩
 ·cases h
theorem I0b {e : EvD} {v : Y2a} (h : v ∈ S3a p e) : (0 ≤ e.at_ ∧ (v ∈ J2a p e ∨ v ∈ k4a p e ∨ v ∈ q6a p e)) ∨ v ∈ s3a p e ∨ v ∈ R1a p e := by
 unfold S3a at h
 rw [List.mem_append, List.mem_append] at h
 rcases h with h | h
 ·split at h
  ·rename_i h0
   rw [List.mem_append, List.mem_append] at h
   exact .inl ⟨h0, h⟩
  ·cases h
 ·exact .inr h
theorem K9b {e : EvD} {v : Y2a} (h : v ∈ S3a p e) : v.at_ = e.at_ := by
 rcases I0b h with ⟨_, h | h | h⟩ | h | h
 ·rw [(b8a h).2]; rfl
 ·rw [(i0b h).2]; rfl
 ·obtain ⟨_, _, _, t, _, h⟩ := g9a h
  rw [(J9a h).2.2.2]
 ·obtain ⟨_, _, _, _, _, _, rfl⟩ := O7a h; rfl
 ·obtain ⟨_, t, _, _, _, rfl⟩ := F5a h; rfl
end
end Go.Fw
namespace Go.Fw
open Go.RowKit
section
variable {p : d0a} {m : Int}
theorem m1b {run : List n0a} {v : Y2a} (h : v ∈ X1a p m run) : ∃ i, i < (L2a p m run).length ∧ v ∈ S3a p (g4b run (L2a p m run) i) := by
 unfold X1a u3a at h
 obtain ⟨i, hi, h⟩ := List.mem_flatMap.1 h
 exact ⟨i, List.mem_range.1 hi, h⟩
end
end Go.Fw
namespace Go.Fw
open Go.RowKit
structure Blm (p : d0a) (e : EvD) (v : Y2a) : Prop where
 pl : v.at_ = e.at_
 mod : 0 ≤ v.module_ ∧ v.module_ < p.modules.length
 kind : 1 ≤ v.kind ∧ v.kind ≤ 5
 lock : v.kind = 2 → ∃ (i : Nat) (k : q5a), v.item = i ∧ p.locks[i]? = some k ∧ e.d.mem.getD k.cell.toNat 0 = 0 ∧ k.inv.evl e.d.mem e.d.mem = 0
 thr : v.kind ≠ 2 → 0 ≤ v.thread ∧ v.thread < p.threads.length
 ass : v.kind = 1 → e.d.at_.getD v.thread.toNat 0 = v.item ∧ 0 ≤ v.item ∧ ((G4a p v.thread.toNat).asserts.getD v.item.toNat noE).evl e.d.mem e.d.mem = 0 ∧ v.module_ = M3a p e v.thread.toNat
 prom : 3 ≤ v.kind → 0 ≤ v.at_ ∧ 0 ≤ e.x.step
 frame : v.kind = 4 → v.thread = e.x.thread ∧ v.item = e.x.step ∧ v.module_ = (sOf p e).module_ ∧ i5a p (sOf p e) = true
 guar : v.kind = 3 → v.thread = e.x.thread ∧ v.item = e.x.step ∧ v.module_ = (sOf p e).module_ ∧ E8a p e = false
 rely : v.kind = 5 → v.thread ≠ e.x.thread ∧ e.c.at_.getD v.thread.toNat 0 = v.item ∧ 0 ≤ v.item ∧ v.module_ = (G4a p v.thread.toNat).modules.getD v.item.toNat 0 ∧ i5a p (sOf p e) = false ∧ E8a p e = true ∧ (D5a p v.module_).rely.evl e.c.mem e.d.mem = 0
section
variable {p : d0a} {m : Int}
theorem still_step {e : EvD} (h : e.still = true) (ho : f1b p e) : 0 ≤ e.at_ ∧ 0 ≤ e.x.step ∧ e.step = true := by
 unfold EvD.still EvD.step at h
 simp only [Bool.and_eq_true, decide_eq_true_eq] at h
 have h1 := ho.s h.1.1
 refine ⟨h.1.1, by omega, ?_⟩
 unfold EvD.step
 simp only [Bool.and_eq_true, decide_eq_true_eq]
 exact h.1
theorem S2b (hp : T0a p) {e : EvD} (ho : f1b p e) (h0 : 0 ≤ e.at_) (hs : 0 ≤ e.x.step) : ∃ (th : J0a), p.threads[e.x.thread.toNat]? = some th ∧ th.steps[e.x.step.toNat]? = some (sOf p e) ∧ F4a p e.x.thread.toNat th.points (sOf p e) := by
 have ht := ho.t h0
 have hth : p.threads[e.x.thread.toNat]? = some (p.threads[e.x.thread.toNat]'(by omega)) := List.getElem?_eq_getElem (by omega)
 have h1 := ho.s h0
 rw [C1a hth] at h1
 have h2 := List.getElem?_eq_getElem (l := (p.threads[e.x.thread.toNat]'(by omega)).steps) (i := e.x.step.toNat) (by omega)
 have h3 : sOf p e = (p.threads[e.x.thread.toNat]'(by omega)).steps[e.x.step.toNat]'(by omega) := by unfold sOf; rw [C1a hth]; exact getD_some h2
 refine ⟨_, hth, by rw [h3]; exact h2, ?_⟩
 rw [h3]
 exact (hp.thread hth).steps _ (f0a h2)
theorem s4b (hp : T0a p) {t : Nat} (ht : t < p.threads.length) {k : Int} (h0 : 0 ≤ k) (h1 : k < (p.threads[t]).points) : 0 ≤ (G4a p t).modules.getD k.toNat 0 ∧ (G4a p t).modules.getD k.toNat 0 < p.modules.length := by
 have hth : p.threads[t]? = some p.threads[t] := List.getElem?_eq_getElem ht
 have h := hp.thread hth
 rw [v3a hth]
 have h2 : (p.threads[t]).modules[k.toNat]? = some ((p.threads[t]).modules[k.toNat]'(by have := h.nmod; omega)) := List.getElem?_eq_getElem _
 rw [getD_some h2]
 exact h.modules _ (f0a h2)
theorem h7a {c : D0a} (hf : b6a p c) {t : Nat} (ht : t < p.threads.length) (h : c.at_.getD t 0 ≠ -1) : 0 ≤ c.at_.getD t 0 ∧ c.at_.getD t 0 < (p.threads[t]).points := by
 have ht2 : t < c.at_.length := by rw [hf.nat]; exact ht
 have h5 : c.at_[t]? = some (c.at_.getD t 0) := by rw [List.getD_eq_getElem?_getD, List.getElem?_eq_getElem ht2]; rfl
 have := hf.atr t _ h5 _ (List.getElem?_eq_getElem ht)
 omega
theorem R9b {e : EvD} (h : J2a p e = []) (hs : e.still = true) : i5a p (sOf p e) = false := by
 unfold J2a at h
 cases hb : i5a p (sOf p e) with
 | false => rfl
 | true => rw [if_pos ⟨hs, hb⟩] at h; cases h
theorem B2c {e : EvD} (h : k4a p e = []) (hs : e.still = true) : E8a p e = true := by
 unfold k4a at h
 cases hb : E8a p e with
 | true => rfl
 | false => rw [if_pos ⟨hs, hb⟩] at h; cases h
theorem blm (hp : T0a p) {e : EvD} (ho : f1b p e) {v : Y2a} (hv : v ∈ S3a p e) : Blm p e v := by
 have hat := K9b hv
 rcases I0b hv with ⟨h0, h | h | h⟩ | h | h
 ·obtain ⟨⟨h1, h2⟩, rfl⟩ := b8a h
  obtain ⟨g1, g2, g3⟩ := still_step h1 ho
  obtain ⟨th, t1, t2, t3⟩ := S2b hp ho g1 g2
  have ht := ho.t g1
  have hm := t3.mod; unfold G2a at hm
  exact ⟨rfl, hm, by show (1 : Int) ≤ 4 ∧ (4 : Int) ≤ 5; omega, fun h => absurd h (by show (4 : Int) ≠ 2; omega), fun _ => ht, fun h => absurd h (by show (4 : Int) ≠ 1; omega), fun _ => ⟨g1, g2⟩, fun _ => ⟨rfl, rfl, rfl, h2⟩,
   fun h => absurd h (by show (4 : Int) ≠ 3; omega), fun h => absurd h (by show (4 : Int) ≠ 5; omega)⟩
 ·obtain ⟨⟨h1, h2⟩, rfl⟩ := i0b h
  obtain ⟨g1, g2, g3⟩ := still_step h1 ho
  obtain ⟨th, t1, t2, t3⟩ := S2b hp ho g1 g2
  have ht := ho.t g1
  have hm := t3.mod; unfold G2a at hm
  exact ⟨rfl, hm, by show (1 : Int) ≤ 3 ∧ (3 : Int) ≤ 5; omega, fun h => absurd h (by show (3 : Int) ≠ 2; omega), fun _ => ht, fun h => absurd h (by show (3 : Int) ≠ 1; omega), fun _ => ⟨g1, g2⟩, fun h => absurd h (by show (3 : Int) ≠ 4; omega),
   fun _ => ⟨rfl, rfl, rfl, h2⟩, fun h => absurd h (by show (3 : Int) ≠ 5; omega)⟩
 ·obtain ⟨h1, h2, h3, t, ht, h⟩ := g9a h
  obtain ⟨r1, r2, r3, rfl⟩ := J9a h
  obtain ⟨g1, g2, g3⟩ := still_step h1 ho
  have hpt := h7a (ho.c g1) ht r2
  have hm := s4b hp ht hpt.1 hpt.2
  refine ⟨rfl, hm, by show (1 : Int) ≤ 5 ∧ (5 : Int) ≤ 5; omega, fun h => absurd h (by show (5 : Int) ≠ 2; omega), fun _ => (by show 0 ≤ (t : Int) ∧ (t : Int) < _; omega), fun h => absurd h (by show (5 : Int) ≠ 1; omega), fun _ => ⟨g1, g2⟩, fun h => absurd h (by show (5 : Int) ≠ 4; omega),
   fun h => absurd h (by show (5 : Int) ≠ 3; omega), fun _ => ?_⟩
  exact ⟨r1, rfl, hpt.1, rfl, R9b h2 h1, B2c h3 h1, r3⟩
 ·obtain ⟨hq, i, l, hl, r1, r2, rfl⟩ := O7a h
  have hlo := hp.locks l (f0a hl)
  refine ⟨rfl, ?_, by show (1 : Int) ≤ 2 ∧ (2 : Int) ≤ 5; omega, fun _ => ⟨i, l, rfl, hl, r1, r2⟩, fun h => absurd (show (2 : Int) = 2 from rfl) h, fun h => absurd h (by show (2 : Int) ≠ 1; omega), fun h => absurd h (by show ¬ (3 : Int) ≤ 2; omega), fun h => absurd h (by show (2 : Int) ≠ 4; omega),
   fun h => absurd h (by show (2 : Int) ≠ 3; omega), fun h => absurd h (by show (2 : Int) ≠ 5; omega)⟩
  show 0 ≤ G8a p e l ∧ G8a p e l < p.modules.length
  unfold G8a
  split
  ·rename_i hst
   unfold EvD.step at hst
   simp only [Bool.and_eq_true, decide_eq_true_eq] at hst
   have h1 := ho.s hst.1
   obtain ⟨th, t1, t2, t3⟩ := S2b hp ho hst.1 (by omega)
   have hm := t3.mod; unfold G2a at hm; exact hm
  ·split
   ·rename_i h0
    have ht := ho.t h0
    have hpt := h7a ho.d (t := e.x.thread.toNat) (by omega) (ho.aw h0)
    exact s4b hp (by omega) hpt.1 hpt.2
   ·have hm := hlo.mod; unfold G2a at hm; exact hm
 ·obtain ⟨hq, t, ht, r1, r2, rfl⟩ := F5a h
  have hpt := h7a ho.d ht r1
  refine ⟨rfl, ?_, by show (1 : Int) ≤ 1 ∧ (1 : Int) ≤ 5; omega, fun h => absurd h (by show (1 : Int) ≠ 2; omega), fun _ => (by show 0 ≤ (t : Int) ∧ (t : Int) < _; omega), fun _ => ⟨rfl, hpt.1, r2, rfl⟩, fun h => absurd h (by show ¬ (3 : Int) ≤ 1; omega), fun h => absurd h (by show (1 : Int) ≠ 4; omega),
   fun h => absurd h (by show (1 : Int) ≠ 3; omega), fun h => absurd h (by show (1 : Int) ≠ 5; omega)⟩
  show 0 ≤ M3a p e t ∧ M3a p e t < p.modules.length
  unfold M3a
  split
  ·rename_i hst
   have hst := hst.1
   unfold EvD.step at hst
   simp only [Bool.and_eq_true, decide_eq_true_eq] at hst
   have h1 := ho.s hst.1
   obtain ⟨th, t1, t2, t3⟩ := S2b hp ho hst.1 (by omega)
   have hm := t3.mod; unfold G2a at hm; exact hm
  ·exact s4b hp ht hpt.1 hpt.2
end
end Go.Fw
namespace Go.Fw
open Go.RowKit
def O8a : E := ⟨1, 1, 1, []⟩
theorem V8a (a b : List Int) : O8a.evl a b = 1 := by unfold E.evl O8a; rw [if_pos (by rfl)]; rw [E.val_def]; simp
def H1a (cells : List J1a) (k : Nat) : List Int := ((List.range k).filter fun (c : Nat) => decide (k1a cells c < 0)).map fun (c : Nat) => (c : Int)
theorem i3b {cells : List J1a} {k : Nat} (h : k1a cells k < 0) : H1a cells (k + 1) = H1a cells k ++ [(k : Int)] := by
 unfold H1a; rw [List.range_succ, List.filter_append]; simp [h]
theorem L4b {cells : List J1a} {k : Nat} (h : ¬ k1a cells k < 0) : H1a cells (k + 1) = H1a cells k := by
 unfold H1a; rw [List.range_succ, List.filter_append]; simp [h]
theorem o8a {cells : List J1a} {k : Nat} {x : Int} : x ∈ H1a cells k ↔ 0 ≤ x ∧ x < k ∧ k1a cells x < 0 := by
 unfold H1a
 simp only [List.mem_map, List.mem_filter, List.mem_range, decide_eq_true_eq]
 constructor
 ·rintro ⟨c, ⟨h1, h2⟩, rfl⟩; exact ⟨by omega, by omega, h2⟩
 ·rintro ⟨h1, h2, h3⟩
  refine ⟨x.toNat, ⟨by omega, ?_⟩, by omega⟩
  rw [show ((x.toNat : Nat) : Int) = x by omega]; exact h3
theorem C8a (cells : List J1a) (k : Nat) : (H1a cells k).length ≤ k := by
 unfold H1a; rw [List.length_map]; exact Nat.le_trans (List.length_filter_le _ _) (by simp)
theorem w5b (cells : List J1a) (k : Nat) : r4a (H1a cells k) := by
 unfold r4a H1a
 rw [List.pairwise_map]
 refine (List.Pairwise.filter _ List.pairwise_lt_range).imp ?_
 intro a b h; omega
def x4a (p : d0a) (k : Int) (m : K0a) : K0a := ⟨m.name, m.owner, if k = 2 then O8a else m.rely, if k = 1 then O8a else m.guar, if k = 4 then H1a p.cells p.cells.length else m.frame⟩
def k5a (k : Int) (l : q5a) : q5a := ⟨l.cell, if k = 3 then O8a else l.inv, l.module_⟩
def n4a (k : Int) (t : J0a) : J0a := ⟨t.name, t.points, if k = 0 then t.asserts.map (fun _ => O8a) else t.asserts, t.modules, t.steps, t.loops, t.asleep⟩
def Y0a (p : d0a) (k : Int) : d0a := ⟨p.cells, p.modules.map (x4a p k), p.locks.map (k5a k), p.threads.map (n4a k)⟩
def O5b (k : Int) : Int := if k = 0 then 1 else if k = 1 then 3 else if k = 2 then 5 else if k = 3 then 2 else 4
section
variable {p : d0a} {k : Int}
theorem U5a (cells : List J1a) (b : Bool) (t : Int) : w5a cells O8a b t := by
 refine ⟨?_, rfl, ?_⟩
 ·cases b <;> rfl
 ·intro x hx
  have h3 : O8a.sup 3 = [] := by kernel_rfl
  have h2 : O8a.sup 2 = [] := by kernel_rfl
  rw [h3, h2] at hx
  cases hx
theorem M8b {t : Int} {n : Int} {s : m1a} (h : F4a p t n s) : F4a (Y0a p k) t n s := by
 refine ⟨h.kind, h.frm, h.to, ?_, h.rel, h.tgt, h.guard, h.set, h.once, ?_⟩
 ·have := h.mod; unfold G2a at this ⊢; simpa [Y0a] using this
 ·have r := h.row
  refine ⟨r.guard, r.vals, r.cells, r.k1, r.k2, r.k3, r.k5, fun h6 => ?_, fun h6 u hu => ?_⟩
  ·have := r.k6 h6; unfold G2a at this ⊢; simpa [Y0a] using this
  ·simp only [Y0a, List.getElem?_map, Option.map_eq_some_iff] at hu
   obtain ⟨v, hv, rfl⟩ := hu
   exact r.k7 h6 v hv
theorem B1a (hp : T0a p) : T0a (Y0a p k) where
 ncells := hp.ncells
 nmodules := by simpa [Y0a] using hp.nmodules
 nlocks := by simpa [Y0a] using hp.nlocks
 nthreads := by simpa [Y0a] using hp.nthreads
 cells c hc := by
  have h := hp.cells c hc
  refine ⟨h.name, h.w, h.init, ?_, ?_⟩
  ·simpa [Y0a] using h.thread
  ·simpa [Y0a, G2a] using h.mod
 cellNames := hp.cellNames
 modules m hm := by
  obtain ⟨m', hm', rfl⟩ := List.mem_map.1 hm
  have h := hp.modules m' hm'
  refine ⟨h.name, h.owner, ?_, ?_, ?_, ?_⟩
  ·show (x4a p k m').rely.absent ∨ _
   unfold x4a
   dsimp only
   split
   ·exact .inr (U5a _ _ _)
   ·exact h.rely
  ·show w5a p.cells (x4a p k m').guar true (-1)
   unfold x4a
   dsimp only
   split
   ·exact U5a _ _ _
   ·exact h.guar
  ·show ∀ x ∈ (x4a p k m').frame, _
   unfold x4a
   dsimp only
   split
   ·intro x hx
    obtain ⟨h1, h2, _⟩ := o8a.1 hx
    refine ⟨⟨h1, h2⟩, ?_⟩
    show k1a p.cells x = -1
    have hxl : p.cells[x.toNat]? = some (p.cells[x.toNat]'(by omega)) := List.getElem?_eq_getElem _
    have h4 := (hp.cells _ (List.mem_of_getElem? hxl)).thread
    have h5 : k1a p.cells x = (p.cells[x.toNat]'(by omega)).thread := by unfold k1a; rw [getD_some hxl]
    omega
   ·exact h.frame
  ·show r4a (x4a p k m').frame
   unfold x4a
   dsimp only
   split
   ·exact w5b _ _
   ·exact h.up
 moduleNames := by
  show (p.modules.map (x4a p k)).Pairwise _
  rw [List.pairwise_map]; exact hp.moduleNames
 locks l hl := by
  obtain ⟨l', hl', rfl⟩ := List.mem_map.1 hl
  have h := hp.locks l' hl'
  refine ⟨h.cell, ?_, ?_⟩
  ·simpa [Y0a, G2a, k5a] using h.mod
  ·show w5a p.cells (k5a k l').inv false (-1)
   unfold k5a
   dsimp only
   split
   ·exact U5a _ _ _
   ·exact h.inv
 lockCells := by
  show (p.locks.map (k5a k)).Pairwise _
  rw [List.pairwise_map]; exact hp.lockCells
 threads t ht := by
  have ht' : t < p.threads.length := by simpa [Y0a] using ht
  have e : (Y0a p k).threads[t] = n4a k p.threads[t] := by simp [Y0a]
  rw [e]
  have h := hp.threads t ht'
  refine ⟨h.name, h.points, h.nsteps, h.nloops, ?_, h.nmod, ?_, ?_, fun s hs => M8b (h.steps s hs), fun l hl => ?_⟩
  ·have := h.asserts
   unfold n4a; dsimp only
   split
   ·simpa using this
   ·exact this
  ·intro m hm
   have := h.modules m hm
   simpa [Y0a, G2a] using this
  ·show ∀ e ∈ (n4a k p.threads[t]).asserts, w5a p.cells e false t
   unfold n4a; dsimp only
   split
   ·intro e he
    obtain ⟨_, _, rfl⟩ := List.mem_map.1 he
    exact U5a _ _ _
   ·exact h.truth
  ·have := h.loops l hl
   exact ⟨this.head, this.up, this.body, this.variant⟩
 threadNames := by
  show (p.threads.map (n4a k)).Pairwise _
  rw [List.pairwise_map]; exact hp.threadNames
theorem T7b : v1a (Y0a p k) = v1a p := by
 unfold v1a Y0a; simp only [List.map_map]; rfl
theorem W1b (t : Nat) : (Y0a p k).threads.getD t ⟨ByteArray.empty, 0, [], [], [], [], false⟩ = n4a k (p.threads.getD t ⟨ByteArray.empty, 0, [], [], [], [], false⟩) := by
 show (p.threads.map (n4a k)).getD t _ = _
 rw [List.getD_eq_getElem?_getD, List.getD_eq_getElem?_getD, List.getElem?_map]
 cases p.threads[t]? with
 | some _ => rfl
 | none => simp [n4a]
theorem T7a (t : Nat) : e2a (Y0a p k) t = e2a p t := by
 unfold e2a; rw [W1b]; rfl
theorem B3b (m : Int) (c : D0a) (t : Nat) (s : m1a) : N0a (Y0a p k) m c t s = N0a p m c t s := by
 unfold N0a; rw [W1b]; rfl
theorem m4b (m : Int) (c : D0a) : M0a (Y0a p k) m c = M0a p m c := by
 have h : ∀ t, p3a (Y0a p k) m c t = p3a p m c t := fun t => by
  unfold p3a; simp only [T7a, B3b]
 have e : p3a (Y0a p k) m c = p3a p m c := funext h
 unfold M0a
 rw [e]
 congr 2
 show (p.threads.map (n4a k)).length = _
 simp
theorem A5c (m : Int) (c : D0a) (x : n0a) : doC (Y0a p k) m c x = doC p m c x := by
 unfold doC; rw [T7a]; rfl
theorem p1b (m : Int) : ∀ (run : List n0a) (c : D0a), u4a (Y0a p k) m c run = u4a p m c run
 | [], _ => rfl
 | x :: l, c => by
   unfold u4a
   rw [m4b, A5c, p1b m l]
theorem k6b (m : Int) (run : List n0a) : L2a (Y0a p k) m run = L2a p m run := by
 unfold L2a; rw [T7b, p1b]
structure NoK (q : d0a) (k : Int) : Prop where
 a : k = 0 → ∀ t ∈ q.threads, ∀ e ∈ t.asserts, e = O8a
 g : k = 1 → ∀ m ∈ q.modules, m.guar = O8a
 r : k = 2 → ∀ m ∈ q.modules, m.rely = O8a
 l : k = 3 → ∀ l ∈ q.locks, l.inv = O8a
 f : k = 4 → ∀ m ∈ q.modules, m.frame = H1a q.cells q.cells.length
theorem e6a (p : d0a) (k : Int) : NoK (Y0a p k) k where
 a h := by
  subst h
  intro t ht e he
  obtain ⟨_, _, rfl⟩ := List.mem_map.1 ht
  unfold n4a at he; dsimp only at he
  rw [if_pos rfl] at he
  obtain ⟨_, _, rfl⟩ := List.mem_map.1 he; rfl
 g h := by subst h; intro m hm; obtain ⟨m', _, rfl⟩ := List.mem_map.1 hm; rfl
 r h := by subst h; intro m hm; obtain ⟨m', _, rfl⟩ := List.mem_map.1 hm; rfl
 l h := by subst h; intro m hm; obtain ⟨m', _, rfl⟩ := List.mem_map.1 hm; rfl
 f h := by subst h; intro m hm; obtain ⟨m', _, rfl⟩ := List.mem_map.1 hm; rfl
theorem P2a {j : Int} (h : NoK p j) : NoK (Y0a p k) j where
 a h0 := by
  intro t ht e he
  obtain ⟨t', ht', rfl⟩ := List.mem_map.1 ht
  unfold n4a at he; dsimp only at he
  split at he
  ·obtain ⟨_, _, rfl⟩ := List.mem_map.1 he; rfl
  ·exact h.a h0 t' ht' e he
 g h0 := by
  intro m hm; obtain ⟨m', hm', rfl⟩ := List.mem_map.1 hm
  unfold x4a; dsimp only
  split
  ·rfl
  ·exact h.g h0 m' hm'
 r h0 := by
  intro m hm; obtain ⟨m', hm', rfl⟩ := List.mem_map.1 hm
  unfold x4a; dsimp only
  split
  ·rfl
  ·exact h.r h0 m' hm'
 l h0 := by
  intro m hm; obtain ⟨m', hm', rfl⟩ := List.mem_map.1 hm
  unfold k5a; dsimp only
  split
  ·rfl
  ·exact h.l h0 m' hm'
 f h0 := by
  intro m hm; obtain ⟨m', hm', rfl⟩ := List.mem_map.1 hm
  unfold x4a; dsimp only
  split
  ·rfl
  ·exact h.f h0 m' hm'
theorem z1b {q : d0a} {m : Int} (h : 0 ≤ m ∧ m < q.modules.length) : D5a q m ∈ q.modules := by
 have h1 : q.modules[m.toNat]? = some (q.modules[m.toNat]'(by omega)) := List.getElem?_eq_getElem _
 rw [Y3a h1]; exact List.mem_of_getElem? h1
theorem D4a {q : d0a} (hp : T0a q) {e : EvD} (ho : f1b q e) (hk : k = 0 ∨ k = 1 ∨ k = 2 ∨ k = 3 ∨ k = 4) (hn : NoK q k) {v : Y2a} (hv : v ∈ S3a q e) : v.kind ≠ O5b k := by
 have hb := blm hp ho hv
 intro h
 rcases hk with rfl | rfl | rfl | rfl | rfl
 ·have h1 : v.kind = 1 := h
  obtain ⟨a1, _, a3, _⟩ := hb.ass h1
  have ht := hb.thr (by omega)
  have htl : v.thread.toNat < q.threads.length := by omega
  have hpt := h7a ho.d htl (by rw [a1]; omega)
  have hth : q.threads[v.thread.toNat]? = some (q.threads[v.thread.toNat]'htl) := List.getElem?_eq_getElem _
  have hok := hp.thread hth
  have ha := hok.asserts
  rw [v3a hth] at a3
  have he : (q.threads[v.thread.toNat]'htl).asserts[v.item.toNat]? = some ((q.threads[v.thread.toNat]'htl).asserts[v.item.toNat]'(by omega)) := List.getElem?_eq_getElem _
  rw [getD_some he, hn.a rfl _ (List.mem_of_getElem? hth) _ (List.mem_of_getElem? he), V8a] at a3
  omega
 ·have h1 : v.kind = 3 := h
  obtain ⟨_, _, g3, g4⟩ := hb.guar h1
  have hm := hb.mod
  rw [g3] at hm
  unfold E8a at g4
  rw [hn.g rfl _ (z1b hm), V8a] at g4
  simp at g4
 ·have h1 : v.kind = 5 := h
  obtain ⟨_, _, _, _, _, _, g4⟩ := hb.rely h1
  rw [hn.r rfl _ (z1b hb.mod), V8a] at g4
  omega
 ·have h1 : v.kind = 2 := h
  obtain ⟨_, l, _, hl, _, g4⟩ := hb.lock h1
  rw [hn.l rfl _ (List.mem_of_getElem? hl), V8a] at g4
  omega
 ·have h1 : v.kind = 4 := h
  obtain ⟨_, _, g3, g4⟩ := hb.frame h1
  obtain ⟨_, p2⟩ := hb.prom (by omega)
  have hm := hb.mod
  rw [g3] at hm
  unfold i5a at g4
  obtain ⟨a, ha, h2⟩ := List.any_eq_true.1 g4
  simp only [Bool.and_eq_true, decide_eq_true_eq, Bool.not_eq_true', decide_eq_false_iff_not] at h2
  have hpl := hb.pl
  obtain ⟨_, _, _, t3⟩ := S2b hp ho (by omega) p2
  have hc := (t3.set a ha).1
  unfold G2a at hc
  apply h2.2
  rw [hn.f rfl _ (z1b hm)]
  exact o8a.2 ⟨hc.1, hc.2, by omega⟩
theorem W8a (e : EvD) : sOf (Y0a p k) e = sOf p e := by unfold sOf; rw [T7a]
theorem y6b (m : Int) : (p.modules[m.toNat]? = none ∧ D5a (Y0a p k) m = e4c ∧ D5a p m = e4c) ∨ D5a (Y0a p k) m = x4a p k (D5a p m) := by
 unfold D5a
 show _ ∨ (p.modules.map (x4a p k)).getD _ _ = _
 show (_ ∧ (p.modules.map (x4a p k)).getD _ _ = _ ∧ _) ∨ _
 rw [List.getD_eq_getElem?_getD, List.getD_eq_getElem?_getD, List.getElem?_map]
 cases p.modules[m.toNat]? with
 | some _ => exact .inr rfl
 | none => exact .inl ⟨rfl, rfl, rfl⟩
theorem N0b (t : Nat) : G4a (Y0a p k) t = n4a k (G4a p t) := W1b t
theorem m5b (e : EvD) (h : k ≠ 4) : J2a (Y0a p k) e = J2a p e := by
 have h1 : ∀ m, (D5a (Y0a p k) m).frame = (D5a p m).frame := fun m => by
  rcases y6b (p := p) (k := k) m with ⟨_, h2, h3⟩ | h2
  ·rw [h2, h3]
  ·rw [h2]; unfold x4a; dsimp only; rw [if_neg h]
 unfold J2a i5a j9a
 rw [W8a, h1]; rfl
theorem p7b (e : EvD) (h : k ≠ 1) : k4a (Y0a p k) e = k4a p e := by
 have h1 : ∀ m, (D5a (Y0a p k) m).guar = (D5a p m).guar := fun m => by
  rcases y6b (p := p) (k := k) m with ⟨_, h2, h3⟩ | h2
  ·rw [h2, h3]
  ·rw [h2]; unfold x4a; dsimp only; rw [if_neg h]
 unfold k4a E8a j9a
 rw [W8a, h1]
theorem J5b (e : EvD) (h : k ≠ 3) : s3a (Y0a p k) e = s3a p e := by
 have h1 : h6a (Y0a p k) e = h6a p e := funext fun i => by
  unfold h6a
  show (match (p.locks.map (k5a k))[i]? with | some l => _ | none => _) = _
  rw [List.getElem?_map]
  cases p.locks[i]? with
  | none => rfl
  | some l =>
    have h2 : (k5a k l).inv = l.inv := by unfold k5a; dsimp only; rw [if_neg h]
    have h3 : G8a (Y0a p k) e (k5a k l) = G8a p e l := by
     unfold G8a; rw [W8a, N0b]; rfl
    show (if e.d.mem.getD (k5a k l).cell.toNat 0 ≠ 0 ∨ (k5a k l).inv.evl e.d.mem e.d.mem ≠ 0 then _ else _) = _
    rw [h2, h3]; rfl
 unfold s3a s4a
 rw [h1]
 show (if _ then (List.range (p.locks.map (k5a k)).length).flatMap _ else _) = _
 rw [List.length_map]
theorem v1b (e : EvD) (h : k ≠ 0) : R1a (Y0a p k) e = R1a p e := by
 have h1 : x2a (Y0a p k) e = x2a p e := funext fun t => by
  unfold x2a M3a
  rw [W8a, N0b]
  have h2 : (n4a k (G4a p t)).asserts = (G4a p t).asserts := by unfold n4a; dsimp only; rw [if_neg h]
  rw [h2]; rfl
 unfold R1a R2a
 rw [h1]
 show (if _ then (List.range (p.threads.map (n4a k)).length).flatMap _ else _) = _
 rw [List.length_map]
theorem b2a {l : List Y2a} {f : Y2a → Bool} {κ : Int} (h : ∀ v ∈ l, v.kind = κ) (hf : ∀ v : Y2a, v.kind = κ → f v = false) : l.filter f = [] := by
 rw [List.filter_eq_nil_iff]
 intro v hv
 rw [hf v (h v hv)]; simp
def T3a (k : Int) (v : Y2a) : Bool := decide (v.kind ≠ O5b k) && decide (v.kind ≠ 5)
theorem z3a {κ : Int} (h : κ = O5b k ∨ κ = 5) : ∀ v : Y2a, v.kind = κ → T3a k v = false := by
 intro v hv
 unfold T3a
 rw [hv]
 rcases h with rfl | rfl <;> simp
theorem g7b (e : EvD) (hk : k = 0 ∨ k = 1 ∨ k = 2 ∨ k = 3 ∨ k = 4) : (S3a (Y0a p k) e).filter (T3a k) = (S3a p e).filter (T3a k) := by
 have kf : ∀ q : d0a, ∀ v ∈ J2a q e, v.kind = 4 := fun q v hv => by rw [(b8a hv).2]; rfl
 have kg : ∀ q : d0a, ∀ v ∈ k4a q e, v.kind = 3 := fun q v hv => by rw [(i0b hv).2]; rfl
 have kr : ∀ q : d0a, ∀ v ∈ q6a q e, v.kind = 5 := fun q v hv => by
  obtain ⟨_, _, _, t, _, h⟩ := g9a hv; rw [(J9a h).2.2.2]
 have kl : ∀ q : d0a, ∀ v ∈ s3a q e, v.kind = 2 := fun q v hv => by
  obtain ⟨_, _, _, _, _, _, rfl⟩ := O7a hv; rfl
 have ka : ∀ q : d0a, ∀ v ∈ R1a q e, v.kind = 1 := fun q v hv => by
  obtain ⟨_, t, _, _, _, rfl⟩ := F5a hv; rfl
 have ef : (J2a (Y0a p k) e).filter (T3a k) = (J2a p e).filter (T3a k) := by
  by_cases h : k = 4
  ·rw [b2a (kf _) (z3a (.inl (by subst h; rfl))), b2a (kf _) (z3a (.inl (by subst h; rfl)))]
  ·rw [m5b e h]
 have eg : (k4a (Y0a p k) e).filter (T3a k) = (k4a p e).filter (T3a k) := by
  by_cases h : k = 1
  ·rw [b2a (kg _) (z3a (.inl (by subst h; rfl))), b2a (kg _) (z3a (.inl (by subst h; rfl)))]
  ·rw [p7b e h]
 have er : (q6a (Y0a p k) e).filter (T3a k) = (q6a p e).filter (T3a k) := by
  rw [b2a (kr _) (z3a (.inr rfl)), b2a (kr _) (z3a (.inr rfl))]
 have el : (s3a (Y0a p k) e).filter (T3a k) = (s3a p e).filter (T3a k) := by
  by_cases h : k = 3
  ·rw [b2a (kl _) (z3a (.inl (by subst h; rfl))), b2a (kl _) (z3a (.inl (by subst h; rfl)))]
  ·rw [J5b e h]
 have ea : (R1a (Y0a p k) e).filter (T3a k) = (R1a p e).filter (T3a k) := by
  by_cases h : k = 0
  ·rw [b2a (ka _) (z3a (.inl (by subst h; rfl))), b2a (ka _) (z3a (.inl (by subst h; rfl)))]
  ·rw [v1b e h]
 unfold S3a
 split
 ·simp only [List.filter_append, ef, eg, er, el, ea]
 ·simp only [List.filter_append, el, ea]
theorem L9a {f g : Nat → List Y2a} {q : Y2a → Bool} (h : ∀ i, (f i).filter q = (g i).filter q) : ∀ n, ((List.range n).flatMap f).filter q = ((List.range n).flatMap g).filter q
 | 0 => rfl
 | n + 1 => by
   rw [List.range_succ, List.flatMap_append, List.flatMap_append, List.filter_append, List.filter_append, L9a h n]
   simp [h n]
theorem M3b (hp : T0a p) {m : Int} {run : List n0a} (ho : ∀ i, i < (L2a (Y0a p k) m run).length → f1b (Y0a p k) (g4b run (L2a (Y0a p k) m run) i)) (hk : k = 0 ∨ k = 1 ∨ k = 2 ∨ k = 3 ∨ k = 4) {v : Y2a} (hv : v ∈ X1a (Y0a p k) m run) : v.kind ≠ O5b k := by
 obtain ⟨i, hi, h⟩ := m1b hv
 exact D4a (B1a hp) (ho i hi) hk (e6a p k) h
theorem N9b (hp : T0a p) {m : Int} {run : List n0a} (ho : ∀ i, i < (L2a (Y0a p k) m run).length → f1b (Y0a p k) (g4b run (L2a (Y0a p k) m run) i)) (hk : k = 0 ∨ k = 1 ∨ k = 2 ∨ k = 3 ∨ k = 4) :
 (X1a (Y0a p k) m run).filter (fun v => decide (v.kind ≠ 5)) = (X1a p m run).filter (T3a k) := by
 have h1 : (X1a (Y0a p k) m run).filter (fun v => decide (v.kind ≠ 5)) = (X1a (Y0a p k) m run).filter (T3a k) := by
  refine List.filter_congr fun v hv => ?_
  have := M3b hp ho hk hv
  unfold T3a
  simp [this]
 rw [h1]
 unfold X1a u3a
 rw [k6b]
 exact L9a (fun i => g7b _ hk) _
theorem B1c (hp : T0a p) {q : d0a} (hq : q = Y0a (Y0a (Y0a (Y0a (Y0a p 0) 1) 2) 3) 4) {m : Int} {run : List n0a} (ho : ∀ i, i < (L2a q m run).length → f1b q (g4b run (L2a q m run) i)) : X1a q m run = [] := by
 have hok : T0a q := by subst hq; exact B1a (B1a (B1a (B1a (B1a hp))))
 have n0 : NoK q 0 := by subst hq; exact P2a (P2a (P2a (P2a (e6a _ _))))
 have n1 : NoK q 1 := by subst hq; exact P2a (P2a (P2a (e6a _ _)))
 have n2 : NoK q 2 := by subst hq; exact P2a (P2a (e6a _ _))
 have n3 : NoK q 3 := by subst hq; exact P2a (e6a _ _)
 have n4 : NoK q 4 := by subst hq; exact e6a _ _
 rw [List.eq_nil_iff_forall_not_mem]
 intro v hv
 obtain ⟨i, hi, h⟩ := m1b hv
 have hoi := ho i hi
 have hb := (blm hok hoi h).kind
 have k0 : v.kind ≠ 1 := D4a (k := 0) hok hoi (by simp) n0 h
 have k1 : v.kind ≠ 3 := D4a (k := 1) hok hoi (by simp) n1 h
 have k2 : v.kind ≠ 5 := D4a (k := 2) hok hoi (by simp) n2 h
 have k3 : v.kind ≠ 2 := D4a (k := 3) hok hoi (by simp) n3 h
 have k4 : v.kind ≠ 4 := D4a (k := 4) hok hoi (by simp) n4 h
 omega
end
end Go.Fw
