/-
  Part 5 of 9 of the proof of ExploreModels: what it leans on. No conditions.
-/
import Derived.Test.YtepiknjglmmciaaGreatDoorZExploreModels4
import Derived.Laws.BytesString
import Derived.StringKeys
set_option maxRecDepth 100000
set_option maxHeartbeats 4000000
namespace Go.Proofs.YtepiknjglmmciaaGreatDoor
end Go.Proofs.YtepiknjglmmciaaGreatDoor
namespace Go.Fw
open Go.Proofs.YtepiknjglmmciaaGreatDoor Go.Proofs Go.RowKit
def Z6b (p : f0a) (m : Int) (c : q0a) (x : A0a) : q0a × Int := if x ∈ H0a p m c then (doC p m c x, 0) else (⟨[], [], []⟩, 110)
theorem R8a {p : f0a} {m : Int} {c : q0a} {x : A0a} (h : x ∈ H0a p m c) : Z6b p m c x = (doC p m c x, 0) := if_pos h
theorem F3a {p : f0a} {m : Int} {c : q0a} {x : A0a} (h : x ∉ H0a p m c) : Z6b p m c x = (⟨[], [], []⟩, 110) := if_neg h
theorem G2a {M : List Nat} {w : World} : t0a M w ⟨[], [], []⟩ [.slice none 0 0, .slice none 0 0, .slice none 0 0] := ⟨_, _, _, rfl, y4a, y4a, y4a⟩
section
variable {p : f0a} {m : Int} {c : q0a} {t : Nat} {b : List G0a}
theorem y0b {x : A0a} (h : x.thread < 0 ∨ p.threads.length ≤ x.thread) : x ∉ H0a p m c := fun hx => by
 obtain ⟨_, _, ⟨i, _, _, _, rfl⟩ | ⟨i, _, _, rfl⟩⟩ := o1a.1 hx
 ·simp at h; omega
 ·simp at h; omega
theorem Q0c {x : A0a} (h : x.step < -1) : x ∉ H0a p m c := fun hx => by
 obtain ⟨_, _, ⟨i, _, _, _, rfl⟩ | ⟨i, _, _, rfl⟩⟩ := o1a.1 hx
 ·simp at h; omega
 ·simp at h
theorem Y0c {st cell : Int} (hs : 0 ≤ st) (h : ¬ cell = 0) : (⟨t, st, cell⟩ : A0a) ∉ H0a p m c := fun hx => by
 obtain ⟨t, _, ⟨i, _, _, _, h1⟩ | ⟨i, _, _, h1⟩⟩ := o1a.1 hx
 ·simp at h1; omega
 ·simp at h1; omega
theorem v2c {th : Q0a} (hth : p.threads[t]? = some th) {st cell : Int} (hs : 0 ≤ st) (h : th.steps.length ≤ st) : (⟨t, st, cell⟩ : A0a) ∉ H0a p m c := fun hx => by
 obtain ⟨t', _, ⟨i, _, h1, _, h2⟩ | ⟨i, _, _, h1⟩⟩ := o1a.1 hx
 ·simp only [A0a.mk.injEq] at h2
  obtain ⟨_, rfl, rfl⟩ := h2
  obtain rfl : t = t' := by omega
  rw [v2a hth] at h1
  have := S1a h1
  omega
 ·simp at h1; omega
theorem i6c {th : Q0a} (hth : p.threads[t]? = some th) {i : Nat} {s : t1a} (hs : th.steps[i]? = some s) {cell : Int} (h : L0a p m c t s = false) : (⟨t, i, cell⟩ : A0a) ∉ H0a p m c := fun hx => by
 obtain ⟨t', _, ⟨i', _, h1, h2, h3⟩ | ⟨i', _, _, h1⟩⟩ := o1a.1 hx
 ·simp only [A0a.mk.injEq] at h3
  obtain ⟨_, _, rfl⟩ := h3
  obtain rfl : t = t' := by omega
  obtain rfl : i = i' := by omega
  rw [v2a hth, hs] at h1
  cases h1
  rw [h] at h2; cases h2
 ·simp only [A0a.mk.injEq] at h1; omega
theorem H4c {th : Q0a} (hth : p.threads[t]? = some th) {i : Nat} {s : t1a} (hs : th.steps[i]? = some s) (h : L0a p m c t s = true) : (⟨t, i, 0⟩ : A0a) ∈ H0a p m c :=
 o1a.2 ⟨t, S1a hth, .inl ⟨i, s, by rw [v2a hth]; exact hs, h, rfl⟩⟩
theorem c9c {th : Q0a} (hth : p.threads[t]? = some th) {i : Nat} {s : t1a} (hs : th.steps[i]? = some s) : doC p m c ⟨t, i, 0⟩ = m3a p m c t s := x1b (by rw [v2a hth]; exact hs)
theorem x1c (hb : c.buf[t]? = some b) {xc : Int} (h : ∀ q en, q < b.length → b[q]? = some en → W2a m b q = true → en.cells.getD 0 0 ≠ xc) : (⟨t, -1, xc⟩ : A0a) ∉ H0a p m c := fun hx => by
 obtain ⟨t', _, ⟨_, _, h1, h2, h3⟩ | ⟨i, h1, h2, h3⟩⟩ := o1a.1 hx
 ·simp only [A0a.mk.injEq] at h3; omega
 ·simp only [A0a.mk.injEq] at h3
  obtain ⟨_, -, h3⟩ := h3
  obtain rfl : t = t' := by omega
  rw [getD_some hb] at h1 h2 h3
  have hx : b[i]? = some b[i] := List.getElem?_eq_getElem h1
  rw [getD_some hx] at h3
  exact h i _ h1 hx h2 h3.symm
theorem C6c (ht : t < p.threads.length) (hb : c.buf[t]? = some b) {i : Nat} {en : G0a} (hx : b[i]? = some en) (hr : W2a m b i = true) : (⟨t, -1, en.cells.getD 0 0⟩ : A0a) ∈ H0a p m c :=
 o1a.2 ⟨t, ht, .inr ⟨i, by rw [getD_some hb]; exact S1a hx, by rw [getD_some hb]; exact hr, by rw [getD_some hb, getD_some hx]⟩⟩
theorem T3c (hb : c.buf[t]? = some b) (hne : ∀ e ∈ b, e.cells ≠ []) {i : Nat} {en : G0a} (hx : b[i]? = some en) (hr : W2a m b i = true) : doC p m c ⟨t, -1, en.cells.getD 0 0⟩ = v4a c t i := by
 unfold doC
 rw [if_pos rfl]
 simp only [Int.toNat_natCast]
 rw [getD_some hb]
 have : (b.findIdx? fun e => decide (e.cells.getD 0 0 = en.cells.getD 0 0)) = some i := by
  rw [List.findIdx?_eq_some_iff_getElem]
  refine ⟨S1a hx, ?_, fun j hj => ?_⟩
  ·have := (List.getElem?_eq_some_iff.1 hx).2
   rw [this]; simp
  ·simp only [decide_eq_true_eq]
   intro he
   have hlt := S1a hx
   have hjx : b[j]? = some b[j] := List.getElem?_eq_getElem (by omega)
   have hi0 : ¬ i = 0 := by omega
   rw [O6a hx, decide_eq_false hi0] at hr
   simp only [Bool.false_or, Bool.and_eq_true, Bool.not_eq_true', List.any_eq_false] at hr
   have h1 := hr.2 b[j] (by rw [List.mem_take_iff_getElem]; exact ⟨j, by omega, rfl⟩)
   apply h1
   rw [y1b]
   have hcn := hne en (c0a hx)
   have hcj := hne b[j] (List.getElem_mem _)
   refine ⟨en.cells.getD 0 0, ?_, ?_⟩
   ·cases hc : en.cells with
    | nil => exact absurd hc hcn
    | cons a l => simp
   ·rw [← he]
    cases hc : (b[j]).cells with
    | nil => exact absurd hc hcj
    | cons a l => simp
 rw [this]; rfl
end
theorem h8a {w0 w : World} {L : List Ent} {M : List Nat} (S : St [] w0 w L) {i j g g' t t' : Nat} {cs cs' : List Value} (h0 : L[i]? = some (some g, t, cs)) (h1 : L[j]? = some (some g', t', cs')) : ∀ x ∈ g :: g' :: M, x ∈ M ∨ w0.heap.size ≤ x := fun x hx => by
 rcases List.mem_cons.1 hx with rfl | hx
 ·exact .inr (by simpa using S.new i h0)
 ·rcases List.mem_cons.1 hx with rfl | hx
  ·exact .inr (by simpa using S.new j h1)
  ·exact .inl hx
theorem T9b {w0 w : World} {L : List Ent} {M : List Nat} (S : St [] w0 w L) {i j g g' t t' : Nat} {cs cs' : List Value} (h0 : L[i]? = some (some g, t, cs)) (h1 : L[j]? = some (some g', t', cs')) (hM : ∀ g ∈ M, g < w0.heap.size) : ∀ x ∈ g :: g' :: M, x < w.heap.size := fun x hx => by
 rcases List.mem_cons.1 hx with rfl | hx
 ·exact S.lt i h0
 ·rcases List.mem_cons.1 hx with rfl | hx
  ·exact S.lt j h1
  ·exact Nat.lt_of_lt_of_le (hM x hx) S.size
theorem InP.two {p : f0a} {M : List Nat} {w0 w : World} {cs : List Value} (h : InP p M w0 cs) {L : List Ent} (S : St [] w0 w L) {i j g g' t t' : Nat} {ds ds' : List Value} (h0 : L[i]? = some (some g, t, ds)) (h1 : L[j]? = some (some g', t', ds')) : InP p (g :: g' :: M) w cs :=
 ⟨(h.rd.more (h8a S h0 h1)).keep (S.keep0 _), h.ok, (h.msk.more (h8a S h0 h1)).keep (S.keep0 _), T9b S h0 h1 h.lt⟩
theorem N2b (p : f0a) (c : q0a) (x : A0a) (M : List Nat) (w0 : World) (cs xs : List Value) (hI : InP p M w0 cs) (hX : t0a M w0 c xs) (hf : D3a p c) (he : Q3a c) (hx : x ∉ H0a p 0 c) :
 M0a Tryz.prog 110 #[.agg cs.toArray, .agg xs.toArray, .agg #[.int .i64 x.thread, .int .i64 x.step, .int .i64 x.cell]] w0 fun v w' => v = .tuple #[.agg #[.slice none 0 0, .slice none 0 0, .slice none 0 0], .int .i64 110] ∧ Below w0.heap.size w0 w' := by
 obtain ⟨Ac, nc, cc, Am, nm, cm, Al, nl, cl, At, nt, ct, rfl, _, _, _, _, _, _, _, _, _, _, _, _⟩ := hI.rd.open_
 obtain ⟨Xm, xm, ym, Xa, xa, ya, Xb, xb, yb, rfl, _, _, _, _, _, _, _, _, _⟩ := hX.open_
 have S := St.refl w0
 refine a0a Tryz.func110 rfl Tryz.ntmps110 rfl ?_
 refine wO0 rfl ⟨⟩ (j0a S (by conv => lhs; whnf) rfl ?_)
 intro g3 w3 S3 X3 G3
 refine j0a S3 (by conv => lhs; whnf) rfl ?_
 intro g4 w4 S4 X4 G4
 refine j0a S4 (by conv => lhs; whnf) rfl ?_
 intro g5 w5 S5 X5 G5
 refine n0a S5 C5a rfl rfl ?_
 intro g6 w6 S6 X6 G6
 refine lO S6.k [.w 3] rfl ⟨⟨rfl,rfl⟩,⟨⟩⟩ (g0a S6 w1b rfl rfl (m4a p M _ _ (hI.keep (S6.keep0 M))) ?_)
 intro w11 S11 X11
 refine lO S11.k [.w 3,.w 2] rfl ⟨⟨rfl,rfl⟩,⟨rfl,rfl⟩,⟨⟩⟩ (g0a S11 t4b rfl rfl (F6a p c M _ _ _ (hI.keep (S11.keep0 M)) (hX.keep (S11.keep0 M)) hf he) ?_)
 intro w16 S16 X16
 refine lO S16.k [.w 3,.w 2] rfl ⟨⟨rfl,rfl⟩,⟨rfl,rfl⟩,⟨⟩⟩ (B0a S16 O4b rfl rfl (E4a p c M _ _ _ (hI.keep (S16.keep0 M)) (hX.keep (S16.keep0 M)) hf he) ?_)
 rintro v22 w22 hr S22 X22
 obtain ⟨Ar, nr, cr, rfl⟩ := hr.form
 obtain ⟨_, -, _⟩ := hr.len
 have K22 := w0a.refl [] w22
 refine lC0 rfl ⟨⟩ (wL (fun μk D ε w => D = [] ∧ ∃ k : Nat, (k + μk = ((H0a p 0 c).length)) ∧ (w0a [] w22 w) ∧ St [] w0 w [(some g6, 38, [.slice none 0 0, .slice none 0 0, .slice none 0 0]), (some g5, 44, [.int .i64 x.thread, .int .i64 x.step, .int .i64 x.cell]), (some g4, 38, [.slice Xm xm ym, .slice Xa xa ya, .slice Xb xb yb]), (some g3, 27, [.slice Ac nc cc, .slice Am nm cm, .slice Al nl cl, .slice At nt ct])] ∧ Sl ε [(3, .pointer (some ⟨g3, 0, none⟩)), (4, .pointer (some ⟨g4, 0, none⟩)), (5, .pointer (some ⟨g5, 0, none⟩)), (6, .pointer (some ⟨g6, 0, none⟩)), (22, .slice Ar nr cr), (23, .int .i64 nr), (24, .int .i64 k)]) (μ := ((H0a p 0 c).length)) ⟨rfl, 0, by omega, K22, S22, rfl⟩ ?_)
 rintro μk D ε w ⟨rfl, k, _, K22, S, eZ⟩
 refine wK eZ (wB0 rfl ⟨⟩ (fun h25 => ?_) fun h25 => ?_)
 ·obtain ⟨y, b26, p26, _, hxy, hA26, _, hl26, hc26, hr26⟩ := RdS.get ((hr.keep K22.of_nil)) (k) (by omega)
  obtain ⟨rfl, _, _, _⟩ := id hr26
  refine lO (S.k.b hc26) [.x b26 p26,.v 0] rfl ⟨⟨rfl,hl26⟩,⟨hA26,by omega⟩,⟨⟩⟩ (n0a S X5c rfl rfl ?_)
  intro g9 w9 S9 X9 G9
  have GK229 := Nat.le_trans K22.size G9
  replace K22 := K22.trans X9
  refine e0a (kk := 0) (vs := [_, _, _]) S9 f4b rfl rfl rfl rfl rfl rfl rfl ?_
  intro w5_3 S5_3 X5_3
  dsimp only [k0a, List.set] at S5_3
  replace K22 := K22.fresh X5_3 (by first | exact GK229)
  refine lOn 6 S5_3.k [.w 2,.w 0] rfl ⟨⟨rfl,by rfl⟩,⟨rfl,rfl⟩,⟨⟩⟩ (c3c H3b rfl rfl rfl (fun h30 => ?_) fun h30 => ?_)
  ·exact absurd (c0a hxy) (by obtain ⟨a, b, c⟩ := x; obtain ⟨a', b', c'⟩ := y; obtain ⟨rfl, rfl, rfl⟩ := h30; exact hx)
  refine lP0 rfl ⟨by omega,⟨⟩⟩ ⟨μk - 1, by omega, rfl, (k + 1), (by omega), (K22), S5_3.tail, rfl⟩
 refine lO0 rfl ⟨⟩ (i1a o5a (vs := []) (cs := [_, _, _]) rfl rfl rfl rfl ?_)
 refine e0a (kk := 0) (vs := [_, _, _]) S R2a rfl rfl rfl rfl rfl rfl rfl ?_
 intro w9_1 S9_1 X9_1
 dsimp only [k0a, List.set] at S9_1
 exact lR0 rfl ⟨⟩ (k4a (n := 3) rfl p1a rfl (S9_1.cells 0 rfl) rfl rfl ⟨rfl, S9_1.fin⟩)
theorem V9a (p : f0a) (c : q0a) (x : A0a) (M : List Nat) (w0 : World) (cs xs : List Value) (hI : InP p M w0 cs) (hX : t0a M w0 c xs) (hf : D3a p c) (he : Q3a c) :
 M0a Tryz.prog 110 #[.agg cs.toArray, .agg xs.toArray, .agg #[.int .i64 x.thread, .int .i64 x.step, .int .i64 x.cell]] w0 fun v w' => (∃ ys, v = .tuple #[.agg ys.toArray, .int .i64 (Z6b p 0 c x).2] ∧ t0a M w' (Z6b p 0 c x).1 ys) ∧ Below w0.heap.size w0 w' := by
 by_cases hx : x ∈ H0a p 0 c
 ·rw [R8a hx]; exact S3b p c x M w0 cs xs hI hX hf he hx
 ·rw [F3a hx]; exact (N2b p c x M w0 cs xs hI hX hf he hx).mono fun _ _ h => ⟨⟨_, h.1, G2a⟩, h.2⟩
theorem N2a : One Tryz.prog 31 := s2a Tryz.underlying31 (by intro _ h; cases h) (by intro _ _ h; cases h)
theorem A6b (p : f0a) (c : q0a) (m : Int) (x : A0a) (hm : (m = 0 ∧ Q3a c) ∨ m = 1 ∨ m = 2) (M : List Nat) (w0 : World) (cs xs : List Value) (hI : InP p M w0 cs) (hX : t0a M w0 c xs) (hf : D3a p c) :
 M0a Tryz.prog 83 #[.agg cs.toArray, .int .i64 m, .agg xs.toArray, .agg #[.int .i64 x.thread, .int .i64 x.step, .int .i64 x.cell]] w0 fun v w' => (∃ ys, v = .tuple #[.agg ys.toArray, .int .i64 (Z6b p m c x).2] ∧ t0a M w' (Z6b p m c x).1 ys) ∧ Below w0.heap.size w0 w' := by
 obtain ⟨Ac, nc, cc, Am, nm, cm, Al, nl, cl, At, nt, ct, rfl, _, _, _, hTh, _, _, _, hnt, _, _, _, _⟩ := hI.rd.open_
 obtain ⟨Xm, xm, ym, Xa, xa, ya, Xb, xb, yb, rfl, _, _, _, _, _, _, _, _, _⟩ := hX.open_
 have S := St.refl w0
 have hM := hI.lt
 have hp := hI.ok
 have f2 := hf.nat
 have f3 := hf.nbuf
 have n2 := hp.nthreads
 obtain ⟨xt, xst, xc⟩ := x
 simp only
 refine J6a Tryz.func83 rfl Tryz.ntmps83 rfl (wI ?_)
 refine wO0 rfl ⟨⟩ (j0a S (by conv => lhs; whnf) rfl ?_)
 intro g4 w4 S4 X4 G4
 refine j0a S4 (by conv => lhs; whnf) rfl ?_
 intro g6 w6 S6 X6 G6
 refine j0a S6 (by conv => lhs; whnf) rfl ?_
 intro g7 w7 S7 X7 G7
 refine n0a S7 C5a rfl rfl ?_
 intro g8 w8 S8 X8 G8
 refine n0a S8 k8c rfl rfl ?_
 intro g9 w9 S9 X9 G9
 refine lB0 rfl ⟨⟩ (fun h16 => ?_) fun h16 => ?_
 ·have hm0 : m = 0 ∧ Q3a c := by rcases hm with h | h | h; exact h; omega; omega
  obtain ⟨rfl, he⟩ := hm0
  refine lO S9.k [.w 4,.w 3,.w 2] rfl ⟨⟨rfl,by rfl⟩,⟨rfl,by rfl⟩,⟨rfl,by rfl⟩,⟨⟩⟩ (B0a S9 w5c rfl rfl (V9a p c ⟨xt, xst, xc⟩ (g9 :: g8 :: M) _ _ _ (hI.two S9 (i := 0) (j := 1) rfl rfl) ((hX.more (h8a S9 (i := 0) (j := 1) rfl rfl)).keep (S9.keep0 _)) hf he) ?_)
  rintro v20 w20 ⟨ys, rfl, hy⟩ S20 X20
  obtain ⟨Ym, ym', zm, Ya, ya', za, Yb, yb', zb, rfl, -⟩ := hy.open_
  refine lO0 rfl ⟨⟩ ?_
  first | refine e0a (kk := 1) (vs := [_, _, _]) S20 R2a rfl rfl rfl rfl rfl rfl rfl ?_
  intro w2_6 S2_6 X2_6
  dsimp only [k0a, List.set] at S2_6
  replace hy := hy.keep (X2_6.mono (by simp))
  first | refine I0a (kk := 0) S2_6 w7a rfl (by conv => lhs; whnf) rfl rfl (by exact Nat.le_of_ble_eq_true rfl) ?_
  intro w2_7 S2_7 X2_7
  replace hy := hy.keep (X2_7.mono (by simp))
  exact lR0 rfl ⟨⟩ (X1a (n := 3) rfl p1a N2a rfl rfl rfl [] rfl List.nodup_nil NC.nil (S2_7.cells 1 rfl) (S2_7.cell 0 rfl rfl) (by simp) (by simp) (fun w' hb => ⟨⟨_, rfl, (hy.keep (w0a.of_below hb.nil)).less (fun g hg => by simp [hg])⟩, (S2_7.below.trans hb).nil⟩))
 have hm2 : m = 1 ∨ m = 2 := by rcases hm with h | h | h; exact absurd h.1 (by assumption); exact .inl h; exact .inr h
 refine lO S9.k [.w 4,.w 3] rfl ⟨⟨rfl,by rfl⟩,⟨rfl,by rfl⟩,⟨⟩⟩ (g0a S9 y8b rfl rfl (Y7b p c m hm2 M _ _ _ (hI.keep (S9.keep0 M)) (hX.keep (S9.keep0 M)) hf) ?_)
 intro w27 S27 X27
 refine lO0 rfl ⟨⟩ (n0a S27 N7b rfl rfl ?_)
 intro g10 w10 S10 X10 G10
 refine e0a (kk := 0) (vs := [_, _, _, _, _, _, _, _]) S10 k6b rfl rfl rfl rfl rfl rfl rfl ?_
 intro w3_8 S3_8 X3_8
 dsimp only [k0a, List.set] at S3_8
 refine lB S3_8.k [.o 3] rfl ⟨rfl,⟨⟩⟩ (fun h35 => ?_) fun h35 => ?_
 ·refine lO0 rfl ⟨⟩ (i1a o5a (vs := []) (cs := [_, _, _]) rfl rfl rfl rfl ?_)
  first | refine e0a (kk := 2) (vs := [_, _, _]) S3_8 R2a rfl rfl rfl rfl rfl rfl rfl ?_
  intro w7_1 S7_1 X7_1
  dsimp only [k0a, List.set] at S7_1
  first | refine I0a (kk := 1) S7_1 w7a rfl (by conv => lhs; whnf) rfl rfl (by exact Nat.le_of_ble_eq_true rfl) ?_
  intro w7_2 S7_2 X7_2
  refine lR0 rfl ⟨⟩ ?_
  rw [F3a (y0b (x := ⟨xt, xst, xc⟩) (.inl h35))]
  exact X1a (n := 3) rfl p1a N2a rfl rfl rfl [] rfl List.nodup_nil NC.nil (S7_2.cells 2 rfl) (S7_2.cell 1 rfl rfl) (by simp) (by simp) (fun w' hb => ⟨⟨_, rfl, G2a⟩, (S7_2.below.trans hb).nil⟩)
 refine lB S3_8.k [.o 3,.o 5] rfl ⟨rfl,rfl,⟨⟩⟩ (fun h42 => ?_) fun h42 => ?_
 ·refine lO0 rfl ⟨⟩ (i1a o5a (vs := []) (cs := [_, _, _]) rfl rfl rfl rfl ?_)
  first | refine e0a (kk := 2) (vs := [_, _, _]) S3_8 R2a rfl rfl rfl rfl rfl rfl rfl ?_
  intro w7_1 S7_1 X7_1
  dsimp only [k0a, List.set] at S7_1
  first | refine I0a (kk := 1) S7_1 w7a rfl (by conv => lhs; whnf) rfl rfl (by exact Nat.le_of_ble_eq_true rfl) ?_
  intro w7_2 S7_2 X7_2
  refine lR0 rfl ⟨⟩ ?_
  rw [F3a (y0b (x := ⟨xt, xst, xc⟩) (.inr (by rw [← hnt]; exact h42)))]
  exact X1a (n := 3) rfl p1a N2a rfl rfl rfl [] rfl List.nodup_nil NC.nil (S7_2.cells 2 rfl) (S7_2.cell 1 rfl rfl) (by simp) (by simp) (fun w' hb => ⟨⟨_, rfl, G2a⟩, (S7_2.below.trans hb).nil⟩)
 refine lB S3_8.k [.o 3] rfl ⟨rfl,⟨⟩⟩ (fun h47 => ?_) fun h47 => ?_
 ·refine lO0 rfl ⟨⟩ (i1a o5a (vs := []) (cs := [_, _, _]) rfl rfl rfl rfl ?_)
  first | refine e0a (kk := 2) (vs := [_, _, _]) S3_8 R2a rfl rfl rfl rfl rfl rfl rfl ?_
  intro w7_1 S7_1 X7_1
  dsimp only [k0a, List.set] at S7_1
  first | refine I0a (kk := 1) S7_1 w7a rfl (by conv => lhs; whnf) rfl rfl (by exact Nat.le_of_ble_eq_true rfl) ?_
  intro w7_2 S7_2 X7_2
  refine lR0 rfl ⟨⟩ ?_
  rw [F3a (Q0c (x := ⟨xt, xst, xc⟩) h47)]
  exact X1a (n := 3) rfl p1a N2a rfl rfl rfl [] rfl List.nodup_nil NC.nil (S7_2.cells 2 rfl) (S7_2.cell 1 rfl rfl) (by simp) (by simp) (fun w' hb => ⟨⟨_, rfl, G2a⟩, (S7_2.below.trans hb).nil⟩)
 obtain ⟨t, rfl⟩ := Int.eq_ofNat_of_zero_le (show 0 ≤ xt by omega)
 have ht : t < p.threads.length := by omega
 obtain ⟨b, hxb⟩ : ∃ b, c.buf[t]? = some b := ⟨c.buf[t]'(by omega), List.getElem?_eq_getElem _⟩
 obtain ⟨th, hxth⟩ : ∃ th, p.threads[t]? = some th := ⟨p.threads[t]'(by omega), List.getElem?_eq_getElem _⟩
 refine lB S3_8.k [.o 3] rfl ⟨rfl,⟨⟩⟩ (fun h52 => ?_) fun h52 => ?_
 ·subst h52
  refine lO S3_8.k [.w 0,.o 3] rfl ⟨rfl,⟨rfl,by rfl⟩,⟨⟩⟩ ?_
  have Zb := S3_8.size
  refine B0a S3_8 a0c rfl rfl (L8b _ rfl (t : Int) _) ?_
  rintro v56 w56 ⟨gs, gt, rfl, _, _, hbs, hbt⟩ S56 X56
  refine lC0 rfl ⟨⟩ (wJ ?_)
  refine t6a (vs := fun y => #[y, _, _]) Z8b rfl (fun _ => rfl) (fun rc wi hst hpe htm henv hps has hbo hdr hl hB hsz => ?_)
  obtain ⟨l, hl'⟩ : ∃ l, l = w56.heap.size + 1 := ⟨_, rfl⟩
  have hO1 := G6a (NC.nil (w := w56)) hdr hl hB
  rw [← hl'] at hl hO1 ⊢
  have Si := S56.later hB
  have Ki : w0a [] w56 wi := w0a.of_below hB
  have Zw := S56.size
  have lgs : gs < w56.heap.size := hbs.lt
  have hMl : ∀ g ∈ (l :: M), g ∈ M ∨ w0.heap.size ≤ g := fun g hg => by
   rcases List.mem_cons.1 hg with rfl | hg
   ·right; omega
   ·exact .inl hg
  have hXi : t0a (l :: M) wi c _ := (hX.more hMl).keep (Si.keep0 _)
  have hgsM : gs ∉ (l :: M) := fun hh => by
   rcases List.mem_cons.1 hh with h | h
   ·omega
   ·have := hM gs h; omega
  have hlne : ∀ x ∈ [(w56.heap.size, Obj.deferred (some []))], x.1 ≠ l := fun x hx => by
   rcases List.mem_cons.1 hx with rfl | hx
   ·show w56.heap.size ≠ l; omega
   ·cases hx
  refine M0a.mono (x5b c m t b hxb gs gt l (l :: M) wi _ [.slice Ac nc cc, .slice Am nm cm, .slice Al nl cl, .slice At nt ct] rfl (fun i w => NC w [(l, .loop rc), (w56.heap.size, .deferred (some []))] ∧ St [] w0 w [(some g10, 165, [.slice Xm xm ym, .slice Xa xa ya, .slice Xb xb yb, .slice Ac nc cc, .slice Am nm cm, .slice Al nl cl, .slice At nt ct, .int .i64 m]), (some g9, 31, [.int .i64 0]), (some g8, 38, [.slice none 0 0, .slice none 0 0, .slice none 0 0]), (some g7, 44, [.int .i64 t, .int .i64 (-1), .int .i64 xc]), (some g6, 38, [.slice Xm xm ym, .slice Xa xa ya, .slice Xb xb yb]), (some g4, 27, [.slice Ac nc cc, .slice Am nm cm, .slice Al nl cl, .slice At nt ct])] ∧ w0a (l :: M) wi w ∧ (∀ q en, q < i → b[q]? = some en → W2a m b q = true → en.cells.getD 0 0 ≠ xc)) (fun w => ∃ (i : Nat) (en : G0a) (ys : List Value), b[i]? = some en ∧ W2a m b i = true ∧ en.cells.getD 0 0 = xc ∧ (∀ q en, q < i → b[q]? = some en → W2a m b q = true → en.cells.getD 0 0 ≠ xc) ∧ NC w [(l, .loop { rc with state := .done, pending := some .ret }), (w56.heap.size, .deferred (some []))] ∧ St [] w0 w [(some g10, 165, [.slice Xm xm ym, .slice Xa xa ya, .slice Xb xb yb, .slice Ac nc cc, .slice Am nm cm, .slice Al nl cl, .slice At nt ct, .int .i64 m]), (some g9, 31, [.int .i64 0]), (some g8, 38, ys), (some g7, 44, [.int .i64 t, .int .i64 (-1), .int .i64 xc]), (some g6, 38, [.slice Xm xm ym, .slice Xa xa ya, .slice Xb xb yb]), (some g4, 27, [.slice Ac nc cc, .slice Am nm cm, .slice Al nl cl, .slice At nt ct])] ∧ ys.length = 3 ∧ t0a (l :: w56.heap.size :: M) w (v4a c t i) ys) hXi hgsM (s3a Ki hbs) (s3a Ki hbt) ⟨hO1, Si, w0a.refl _ _, fun q en hq => absurd hq (by omega)⟩ (fun i w hJ => hJ.2.2.1) ?_ ?_ (fun i en w es hxen hrd hJ hE => ?_)) ?_
  ·rintro i w w' ⟨hO3, S3, K3, hno⟩ hB'
   exact ⟨hO3.keep (w0a.of_below hB'), S3.later hB', K3.trans (w0a.of_below hB'), hno⟩
  ·rintro i w ⟨hO3, S3, K3, hno⟩ hi hr
   exact ⟨hO3, S3, K3, fun q en hq hx hr' => by
    by_cases hqi : q = i
    ·subst hqi; rw [hr] at hr'; cases hr'
    ·exact hno q en (by omega) hx hr'⟩
  ·obtain ⟨hO3, S3, K3, hno⟩ := hJ
   obtain ⟨_, _, _, _, _, _, rfl, -⟩ := V0a.open_ (hE _ _ (fun g hg => .inl hg) K3)
   have qE := (hf.bufs t b hxb).2.1 en (c0a hxen)
   have qE0 : 0 < en.cells.length := by
    rcases Nat.eq_zero_or_pos en.cells.length with h | h
    ·exact absurd (List.length_eq_zero_iff.1 h) qE.some_
    ·exact h
   have li := S1a hxen
   refine G9b (hO3 (l, .loop rc) (by simp)).1 hst htm henv hps has hbo rfl rfl ?_
   refine wI ?_
   refine wO0 rfl ⟨⟩ (n0a S3 n9a rfl rfl ?_)
   intro g13 w13 S13 X13 G13
   have GK313 := Nat.le_trans K3.size G13
   replace K3 := K3.trans (X13.of_nil)
   replace hO3 := hO3.keep X13
   refine e0a (kk := 0) (vs := [_, _]) S13 Z9a rfl rfl rfl rfl rfl rfl rfl ?_
   intro w11_1 S11_1 X11_1
   dsimp only [k0a, List.set] at S11_1
   replace K3 := K3.fresh2 X11_1 (by exact .inl GK313)
   replace hO3 := by exact hO3.keepS X11_1 (S13.blk 0 rfl)
   refine lF0 rfl ⟨⟩ ?_
   refine ⟨(hO3 (l, .loop rc) (by simp)).1, ?_⟩
   have Sb := S11_1.putObj (.loop { rc with state := .busy }) hO3 (List.mem_cons_self) (.inl (by omega))
   have hOb := hO3.put (o' := .loop { rc with state := .busy }) hlne (by simp)
   have Kb := K3.fresh2 (M1a w11_1 l (.loop { rc with state := .busy })) (.inr (by simp))
   generalize w11_1.putObj l (.loop { rc with state := .busy }) = wb at Sb hOb Kb ⊢
   obtain ⟨_, _, _, _, _, _, heq, hCeB, -⟩ := V0a.open_ (hE (l :: M) wb (fun g hg => .inl hg) Kb)
   simp only [List.cons.injEq, Value.slice.injEq, and_true] at heq
   obtain ⟨⟨rfl, rfl, rfl⟩, rfl, rfl, rfl⟩ := heq
   have hec := hCeB.len.1
   refine wI ?_
   obtain ⟨_, _, _, _, hxx0, _, _, _, hcx, hrx⟩ := RdS.get hCeB 0 qE0
   obtain ⟨rfl, _⟩ := hrx
   refine wC0 rfl ⟨⟩ (D0a b0a [0, 1, 2, 3, 4, 5, 6] [] [] (by kernel_rfl) rfl (Cl _ _ _ _) (Cl.start Sb) ?_)
   refine qO Sb.q [.o 0] rfl ⟨rfl,⟨⟩⟩ (m0a Y0a.slT rfl (by assumption) rfl (by omega) (by omega) rfl ?_)
   refine h0a C0a rfl (fun w1 hw => by exact hw.2.cell List.not_mem_nil (hcx 0 _ rfl)) rfl ?_
   refine qO0 rfl ⟨⟩ (h0a C0a rfl (fun w1 hw => by exact hw.1.cell 4 rfl rfl) rfl ?_)
   refine qB0 rfl ⟨⟩ (fun h65 => ?_) fun h65 => ?_
   ·refine qD rfl ⟨⟩ ?_
    rintro wR12 ⟨SR12, XR12⟩
    replace Kb := Kb.trans (XR12.of_nil)
    replace hOb := hOb.keep XR12
    refine lO0 rfl ⟨⟩ (w1a Y5a rfl (SR12.cells 1 rfl) rfl rfl ?_)
    refine lO0 rfl ⟨⟩ (s0a C0a rfl (by exact SR12.cell 4 rfl rfl) rfl ?_)
    refine lO0 rfl ⟨⟩ ?_
    have hM4 : ∀ g ∈ l :: w56.heap.size :: g9 :: g8 :: M, g < wR12.heap.size := fun g hg => by
     rcases List.mem_cons.1 hg with rfl | hg
     ·exact hOb.lt _ List.mem_cons_self
     ·rcases List.mem_cons.1 hg with rfl | hg
      ·exact hOb.lt (w56.heap.size, .deferred (some [])) (by simp)
      ·exact T9b SR12 (i := 2) (j := 3) rfl rfl hM g hg
    have hN4 : ∀ g ∈ l :: w56.heap.size :: g9 :: g8 :: M, g ∈ M ∨ w0.heap.size ≤ g := fun g hg => by
     rcases List.mem_cons.1 hg with rfl | hg
     ·right; omega
     ·rcases List.mem_cons.1 hg with rfl | hg
      ·right; omega
      ·exact h8a SR12 (i := 2) (j := 3) rfl rfl g hg
    refine B0a SR12 R5c rfl rfl (V8b p hp c t i b (l :: w56.heap.size :: g9 :: g8 :: M) _ hM4 [.slice Ac nc cc, .slice Am nm cm, .slice Al nl cl, .slice At nt ct] [.slice Xm xm ym, .slice Xa xa ya, .slice Xb xb yb] m ⟨(hI.rd.more hN4).keep (SR12.keep0 _), hI.ok, (hI.msk.more hN4).keep (SR12.keep0 _), hM4⟩ ((hX.more hN4).keep (SR12.keep0 _)) hf hxb li) ?_
    rintro v70 w70 ⟨ys, rfl, hy⟩ S70 X70
    replace hOb := hOb.keep X70
    obtain ⟨Ym, ym', zm, Ya, ya', za, Yb, yb', zb, rfl, -⟩ := hy.open_
    first | refine e0a (kk := 3) (vs := [_, _, _]) S70 R2a rfl rfl rfl rfl rfl rfl rfl ?_
    intro w13_5 S13_5 X13_5
    dsimp only [k0a, List.set] at S13_5
    replace hOb := by exact hOb.keepS X13_5 (S70.blk 3 rfl)
    replace hy := hy.keep (X13_5.mono (by simp))
    first | refine I0a (kk := 2) S13_5 w7a rfl (by conv => lhs; whnf) rfl rfl (by exact Nat.le_of_ble_eq_true rfl) ?_
    intro w13_6 S13_6 X13_6
    replace hOb := by exact hOb.keepS X13_6 (S13_5.blk 2 rfl)
    replace hy := hy.keep (X13_6.mono (by simp))
    refine lR0 rfl ⟨⟩ ?_
    refine ⟨{ rc with state := .busy }, (hOb (l, _) (by simp)).1, .inr ⟨rfl, ?_⟩⟩
    have hOn := hOb.put (o' := .loop { rc with state := .done, pending := some .ret }) hlne (by simp)
    have Sn := S13_6.tail.putObj (.loop { rc with state := .done, pending := some .ret }) hOb (List.mem_cons_self) (.inl (by omega))
    exact ⟨i, en, _, hxen, hrd, by rw [getD_some hxx0]; exact h65, hno, hOn, Sn, rfl, (hy.keep ((M1a w13_6 l _).mono (by simp))).less (fun g hg => by simp only [List.mem_cons] at hg ⊢; rcases hg with h | h | h <;> simp [h])⟩
   refine qD rfl ⟨⟩ ?_
   rintro wR12 ⟨SR12, XR12⟩
   replace Kb := Kb.trans (XR12.of_nil)
   replace hOb := hOb.keep XR12
   refine lF0 rfl ⟨⟩ ?_
   refine ⟨{ rc with state := .busy }, (hOb (l, _) (by simp)).1, .inl ⟨rfl, ?_⟩⟩
   have hOn := hOb.put (o' := .loop rc) hlne (by simp)
   have Sn := SR12.tail.putObj (.loop rc) hOb (List.mem_cons_self) (.inl (by omega))
   have Kn := Kb.fresh2 (M1a wR12 l (.loop rc)) (.inr (by simp))
   rw [O1b hst hpe]
   exact ⟨hOn, Sn, Kn, fun q en' hq hx hr' => by
    by_cases hqi : q = i
    ·subst hqi; obtain rfl := Option.some.inj (hxen.symm.trans hx); rw [getD_some hxx0]; exact h65
    ·exact hno q en' (by omega) hx hr'⟩
  rintro v w3 (⟨hO3, S3, K3, hno⟩ | ⟨i, en, ys, hxen, hrd, hce, hfst, hO3, S3, hy3, hyr⟩)
  rotate_left
  ·refine ⟨{ rc with state := .done, pending := some .ret }, (hO3 (l, _) List.mem_cons_self).1, by simp, .inr ⟨rfl, ?_⟩⟩
   have Sa := S3.putObj (.loop { rc with state := .exhausted, pending := some .ret }) hO3 (List.mem_cons_self) (.inl (by omega))
   have hOa := (hO3.put (o' := .loop { rc with state := .exhausted, pending := some .ret }) hlne (by simp)).tail
   have Ka := M1a w3 l (.loop { rc with state := .exhausted, pending := some .ret })
   have hya := hyr.keep (Ka.mono (by simp))
   subst hce
   rw [R8a (C6c ht hxb hxen hrd), T3c hxb (fun e he => ((hf.bufs t b hxb).2.1 e he).some_) hxen hrd]
   exact X1a (n := 3) rfl p1a N2a rfl rfl hy3 [w56.heap.size] rfl (by simp) hOa (Sa.cells 2 rfl) (Sa.cell 1 rfl rfl) (by have := hOa.ne (Sa.blk 2 rfl) _ (List.mem_cons_self); simpa using fun h : g8 = _ => this h.symm) (by have := hOa.ne (Sa.blk 1 rfl) _ (List.mem_cons_self); simpa using fun h : g9 = _ => this h.symm) (fun w' hb => ⟨⟨_, rfl, (hya.keep ((w0a.of_belowM hb).mono (by simp))).less (fun g hg => by simp [hg])⟩, (v0a.step Sa.below hb (by simp; omega)).nil⟩)
  refine ⟨rc, (hO3 (l, .loop rc) (by simp)).1, by rw [hst]; simp, .inl ⟨hpe, ?_⟩⟩
  have Sa := S3.putObj (.loop { rc with state := .exhausted }) hO3 (List.mem_cons_self) (.inl (by omega))
  have hOa := (hO3.put (o' := .loop { rc with state := .exhausted }) hlne (by simp)).tail
  generalize w3.putObj l (.loop { rc with state := .exhausted }) = wa at Sa hOa ⊢
  refine fO0 rfl ⟨⟩ (i1a o5a (vs := []) (cs := [_, _, _]) rfl rfl rfl rfl ?_)
  first | refine e0a (kk := 2) (vs := [_, _, _]) Sa R2a rfl rfl rfl rfl rfl rfl rfl ?_
  intro w14_1 S14_1 X14_1
  dsimp only [k0a, List.set] at S14_1
  replace hOa := by exact hOa.keepS X14_1 (Sa.blk 2 rfl)
  first | refine I0a (kk := 1) S14_1 w7a rfl (by conv => lhs; whnf) rfl rfl (by exact Nat.le_of_ble_eq_true rfl) ?_
  intro w14_2 S14_2 X14_2
  replace hOa := by exact hOa.keepS X14_2 (S14_1.blk 1 rfl)
  refine lR0 rfl ⟨⟩ ?_
  rw [F3a (x1c hxb hno)]
  exact X1a (n := 3) rfl p1a N2a rfl rfl rfl [w56.heap.size] rfl (by simp) hOa (S14_2.cells 2 rfl) (S14_2.cell 1 rfl rfl) (by have := hOa.ne (S14_2.blk 2 rfl) _ (List.mem_cons_self); simpa using fun h : g8 = _ => this h.symm) (by have := hOa.ne (S14_2.blk 1 rfl) _ (List.mem_cons_self); simpa using fun h : g9 = _ => this h.symm) (fun w' hb => ⟨⟨_, rfl, G2a⟩, (v0a.step S14_2.below hb (by simp; omega)).nil⟩)
 obtain ⟨i, rfl⟩ := Int.eq_ofNat_of_zero_le (show 0 ≤ xst by omega)
 refine lO S3_8.k [.w 4,.o 3] rfl ⟨rfl,⟨rfl,by rfl⟩,⟨⟩⟩ (B0a S3_8 Z9b rfl rfl (J8b p hp c t b (g9 :: g8 :: M) _ (T9b S3_8 (i := 1) (j := 2) rfl rfl hM) _ ((hX.more (h8a S3_8 (i := 1) (j := 2) rfl rfl)).keep (S3_8.keep0 _)) hf hxb) ?_)
 rintro v75 w75 hV S75 X75
 obtain ⟨_, _, _, rfl⟩ := hV.form
 refine lC0 rfl ⟨⟩ (D0a b0a [0, 1, 2, 3, 4, 5, 6, 7, 8, 9, 10, 11, 12, 13, 14, 15, 16, 17, 18, 19, 20, 21, 22, 23, 24, 25] [] [] (by kernel_rfl) rfl (Cl _ _ _ _) (Cl.start S75) ?_)
 refine qB S75.q [.o 3] rfl ⟨rfl,⟨⟩⟩ (fun h78 => ?_) fun h78 => ?_
 ·refine qD rfl ⟨⟩ ?_
  rintro wR16 ⟨SR16, XR16⟩
  replace hV := hV.keep (XR16.of_nil)
  refine lO0 rfl ⟨⟩ (i1a o5a (vs := []) (cs := [_, _, _]) rfl rfl rfl rfl ?_)
  first | refine e0a (kk := 2) (vs := [_, _, _]) SR16 R2a rfl rfl rfl rfl rfl rfl rfl ?_
  intro w17_1 S17_1 X17_1
  dsimp only [k0a, List.set] at S17_1
  first | refine I0a (kk := 1) S17_1 w7a rfl (by conv => lhs; whnf) rfl rfl (by exact Nat.le_of_ble_eq_true rfl) ?_
  intro w17_2 S17_2 X17_2
  refine lR0 rfl ⟨⟩ ?_
  rw [F3a (Y0c (t := t) (st := i) (by omega) h78)]
  exact X1a (n := 3) rfl p1a N2a rfl rfl rfl [] rfl List.nodup_nil NC.nil (S17_2.cells 2 rfl) (S17_2.cell 1 rfl rfl) (by simp) (by simp) (fun w' hb => ⟨⟨_, rfl, G2a⟩, (S17_2.below.trans hb).nil⟩)
 obtain ⟨_, b86, p86, _, hx86, hA86, _, _, hc86, hr86⟩ := RdS.get (hTh) (t) (by omega)
 obtain rfl := Option.some.inj (hxth.symm.trans hx86)
 obtain ⟨_, _, _, _, _, _, _, _, _, _, _, _, rfl, _, _, _, _, _, _, _, hns86, _, _, _, _, _⟩ := N0a.open_ hr86
 refine qB (S75.q.a hc86) [.o 3,.o 5,.o 3,.x b86 p86,.f 0 4] rfl ⟨rfl,⟨hA86,by omega⟩,rfl,rfl,rfl,⟨⟩⟩ (fun h90 => ?_) fun h90 => ?_
 ·refine qD rfl ⟨⟩ ?_
  rintro wR16 ⟨SR16, XR16⟩
  replace hV := hV.keep (XR16.of_nil)
  refine lO0 rfl ⟨⟩ (i1a o5a (vs := []) (cs := [_, _, _]) rfl rfl rfl rfl ?_)
  first | refine e0a (kk := 2) (vs := [_, _, _]) SR16 R2a rfl rfl rfl rfl rfl rfl rfl ?_
  intro w17_1 S17_1 X17_1
  dsimp only [k0a, List.set] at S17_1
  first | refine I0a (kk := 1) S17_1 w7a rfl (by conv => lhs; whnf) rfl rfl (by exact Nat.le_of_ble_eq_true rfl) ?_
  intro w17_2 S17_2 X17_2
  refine lR0 rfl ⟨⟩ ?_
  rw [F3a (v2c hxth (st := i) (by omega) (by rw [← hns86]; exact h90))]
  exact X1a (n := 3) rfl p1a N2a rfl rfl rfl [] rfl List.nodup_nil NC.nil (S17_2.cells 2 rfl) (S17_2.cell 1 rfl rfl) (by simp) (by simp) (fun w' hb => ⟨⟨_, rfl, G2a⟩, (S17_2.below.trans hb).nil⟩)
 refine qO S75.q [.w 0,.o 3,.o 3] rfl ⟨rfl,rfl,⟨rfl,by rfl⟩,⟨⟩⟩ ?_
 obtain ⟨s, hxs⟩ : ∃ s, th.steps[i]? = some s := ⟨th.steps[i]'(by omega), List.getElem?_eq_getElem _⟩
 refine W1a B0c rfl rfl (fun w1 S1 X1 => v7a p c m hm2 t i th s M _ [.slice Ac nc cc, .slice Am nm cm, .slice Al nl cl, .slice At nt ct] [.slice Xm xm ym, .slice Xa xa ya, .slice Xb xb yb] _ (hI.keep (S1.keep0 M)) (hX.keep (S1.keep0 M)) ((hV.keep (X1.of_nil)).less (fun g hg => List.mem_cons_of_mem _ (List.mem_cons_of_mem _ hg))) hf hxth hxs) (fun h99 => ?_) fun h99 => ?_
 ·refine qD rfl ⟨⟩ ?_
  rintro wR16 ⟨SR16, XR16⟩
  replace hV := hV.keep (XR16.of_nil)
  subst h78
  have hin := H4c hxth hxs h99
  have hdo : doC p m c ⟨t, i, 0⟩ = m3a p m c t s := c9c hxth hxs
  have hf' := U5b hp hf hin
  rw [hdo] at hf'
  refine lO SR16.k [.w 0,.w 3] rfl ⟨⟨rfl,by rfl⟩,⟨rfl,by rfl⟩,⟨⟩⟩ (B0a SR16 n4c rfl rfl (i7b p c m hm2 t i th s (g9 :: g8 :: M) _ [.slice Ac nc cc, .slice Am nm cm, .slice Al nl cl, .slice At nt ct] [.slice Xm xm ym, .slice Xa xa ya, .slice Xb xb yb] _ (hI.two SR16 (i := 1) (j := 2) rfl rfl) ((hX.more (h8a SR16 (i := 1) (j := 2) rfl rfl)).keep (SR16.keep0 _)) hV hf hxth hxs hf') ?_)
  rintro v106 w106 ⟨ys, rfl, hy⟩ S106 X106
  obtain ⟨Ym, ym', zm, Ya, ya', za, Yb, yb', zb, rfl, -⟩ := hy.open_
  first | refine e0a (kk := 2) (vs := [_, _, _]) S106 R2a rfl rfl rfl rfl rfl rfl rfl ?_
  intro w18_4 S18_4 X18_4
  dsimp only [k0a, List.set] at S18_4
  replace hy := hy.keep (X18_4.mono (by simp))
  first | refine I0a (kk := 1) S18_4 w7a rfl (by conv => lhs; whnf) rfl rfl (by exact Nat.le_of_ble_eq_true rfl) ?_
  intro w18_5 S18_5 X18_5
  replace hy := hy.keep (X18_5.mono (by simp))
  refine lR0 rfl ⟨⟩ ?_
  rw [R8a hin, hdo]
  exact X1a (n := 3) rfl p1a N2a rfl rfl rfl [] rfl List.nodup_nil NC.nil (S18_5.cells 2 rfl) (S18_5.cell 1 rfl rfl) (by simp) (by simp) (fun w' hb => ⟨⟨_, rfl, (hy.keep (w0a.of_below hb.nil)).less (fun g hg => by simp [hg])⟩, (S18_5.below.trans hb).nil⟩)
 refine qD rfl ⟨⟩ ?_
 rintro wR16 ⟨SR16, XR16⟩
 refine lO0 rfl ⟨⟩ (i1a o5a (vs := []) (cs := [_, _, _]) rfl rfl rfl rfl ?_)
 first | refine e0a (kk := 2) (vs := [_, _, _]) SR16 R2a rfl rfl rfl rfl rfl rfl rfl ?_
 intro w17_1 S17_1 X17_1
 dsimp only [k0a, List.set] at S17_1
 first | refine I0a (kk := 1) S17_1 w7a rfl (by conv => lhs; whnf) rfl rfl (by exact Nat.le_of_ble_eq_true rfl) ?_
 intro w17_2 S17_2 X17_2
 refine lR0 rfl ⟨⟩ ?_
 rw [F3a (i6c hxth hxs h99)]
 exact X1a (n := 3) rfl p1a N2a rfl rfl rfl [] rfl List.nodup_nil NC.nil (S17_2.cells 2 rfl) (S17_2.cell 1 rfl rfl) (by simp) (by simp) (fun w' hb => ⟨⟨_, rfl, G2a⟩, (S17_2.below.trans hb).nil⟩)
def B8 (cs : List Value) (n : Int) : Prop := cs = [.int .u8 n]
theorem o9a : a5a (fun (_ : List Nat) (_ : World) => B8) 1 where
 len h := by rw [h]; rfl
 one h u hu := by rw [h] at hu; simp at hu; subst hu; rfl
 keep _ h := h
 more _ h := h
abbrev s7b (w0 : World) (G : Option Nat) (cs : List Value) (v : Value) (l : List Int) : Prop := Q1a (fun (_ : List Nat) (_ : World) => B8) 1 [] w0 G cs v l
theorem x6c (n : Int) (h0 : 0 ≤ n) (h1 : n ≤ 255) : IntKind.u8.wrap n = n := by
 simp [IntKind.wrap, IntKind.signed, IntKind.bits]; omega
theorem k3b : ∀ (css : List (List Value)) (l : List Int), css.length = l.length → (∀ (i : Nat) (x : Int), l[i]? = some x → ∃ c, css[i]? = some c ∧ B8 c x) → css.flatten = l.map (Value.int .u8)
 | [], [], _, _ => rfl
 | [], _ :: _, h, _ => by simp at h
 | _ :: _, [], h, _ => by simp at h
 | c :: css, x :: l, h, hh => by
   obtain ⟨_, h1, h2⟩ := hh 0 x rfl
   simp at h1; subst h1
   rw [List.flatten_cons, List.map_cons, k3b css l (by simpa using h) (fun i y hy => by simpa using hh (i + 1) y (by simpa using hy)), h2]
   rfl
section
variable {P : Program} {r : Option Nat} {N : Nat} {D : List Deferred} {e : Env} {w w0 : World} {ops : Array Oper} {rest : List Oper} {K : List Deferred → Env → World → Prop} {L : List Ent} {M : List Nat}
variable {d : Nat} {t : TypeId} {p : String} {af : Array Edge} {x y : Operand}
theorem q9b {src dst el k : TypeId} {G : Option Nat} {cs : List Value} {v : Value} {l : List Int} (S : St M w0 w L) (hs : P.underlying src = some (.slice el)) (hel : P.underlying el = some (.int .u8)) (ht : P.underlying dst = some .string) (hk : L[k]? = some (G, el, cs)) (hR : s7b w0 G cs v l)
 (hx : ev e x = v) (hd : Nat.ble (d + 1) N = true) (h : WL P r N ops rest K D (upd e d (.string (H3a l))) w) :
 WL P r N ops (⟨some d, .convert src dst x, t, p, af, none⟩ :: rest) K D e w := by
 obtain ⟨css, h1, _, ⟨_, hr⟩, h4⟩ := hR
 have hfl := k3b css l h1 h4
 refine c1a rfl rfl hd (by simp) ?_ h
 rcases hr with ⟨rfl, rfl, h0⟩ | ⟨g, cap, rfl, rfl, q1, q2, q3, q4⟩
 ·have hl : l = [] := List.length_eq_zero_iff.1 h0
  subst hl
  have h5 : (Conv.bytesToString (.slice none 0 0)).run P w = .ok (.string (H3a [])) w := by simp [Conv.bytesToString, Sem.run_pure, H3a]
  simp only [execOp, hx, Sem.run_bind, run_convert_bytes_string w src dst el none 0 0 hs hel ht, h5, Result.andThen_ok, Sem.run_pure]
 ·have hb := (S.own _ (List.mem_of_getElem? hk) g rfl).2
  have hc : ∀ (i : Nat) (u : Value), (l.map (Value.int .u8))[i]? = some u → w.cell? (Addr.add ⟨g, 0, none⟩ i) = some u := fun i u hu => by
   rw [Addr.add_lit]
   refine S.cell k hk ?_
   have hlt : i < l.length := by have := (List.getElem?_eq_some_iff.1 hu).1; simpa using this
   rw [← hfl, ← q4, List.getElem?_take, if_pos (by simpa using hlt)] at hu
   simpa using hu
  have h6 := run_loadCells_list (P := P) (w := w) ⟨g, 0, none⟩ (l.map (Value.int .u8)) hc
  have h5 : (Conv.bytesToString (.slice (some ⟨g, 0, none⟩) l.length cap)).run P w = .ok (.string (H3a l)) w := run_bytesToString w ⟨g, 0, none⟩ l.length cap l (by simpa using h6)
  simp only [execOp, hx, Sem.run_bind, run_convert_bytes_string w src dst el (some ⟨g, 0, none⟩) l.length cap hs hel ht, h5, Result.andThen_ok, Sem.run_pure]
theorem I5a {src dst : TypeId} {ds : TypeDesc} {kd : IntKind} {a : Int} (hs : P.underlying src = some ds) (ht : P.underlying dst = some (.int .u8)) (hx : ev e x = .int kd a) (h01 : 0 ≤ a ∧ a ≤ 255) (hd : Nat.ble (d + 1) N = true) (h : WL P r N ops rest K D (upd e d (.int .u8 a)) w) :
 WL P r N ops (⟨some d, .convert src dst x, t, p, af, none⟩ :: rest) K D e w :=
 s8b hs ht hx hd (by rw [x6c a h01.1 h01.2]; exact h)
end
theorem T1b {α β : Type} {l : List α} {r : List β} {i : Nat} {a : α} {b : β} (h1 : l[i]? = some a) (h2 : r[i]? = some b) : (l.zip r)[i]? = some (a, b) := by
 rw [List.getElem?_zip_eq_some]; exact ⟨h1, h2⟩
theorem O4c {c : q0a} {b : List G0a} {en : G0a} {k j i : Nat} {n u : Int} (hb : c.buf[k]? = some b) (he : b[j]? = some en) (hn : en.cells[i]? = some n) (hu : en.values[i]? = some u) : n ∈ c.buf.flatMap E2a ∧ u ∈ c.buf.flatMap E2a := by
 have h : ∀ x, x ∈ [n, u] → x ∈ c.buf.flatMap E2a := fun x hx =>
  List.mem_flatMap.2 ⟨b, List.mem_of_getElem? hb, List.mem_cons_of_mem _ (List.mem_flatMap.2 ⟨en, List.mem_of_getElem? he, List.mem_cons_of_mem _ (List.mem_flatMap.2 ⟨(n, u), List.mem_of_getElem? (T1b hn hu), hx⟩)⟩)⟩
 exact ⟨h n (by simp), h u (by simp)⟩
theorem Z6c (p : f0a) (hp : b1a p) (c : q0a) (hf : D3a p c) (M : List Nat) (w0 : World) (ys : List Value) (hX : t0a M w0 c ys) :
 M0a Tryz.prog 80 #[.agg ys.toArray] w0 fun v w' => (v = .string (y7b c) ∧ (x7a c).length ≤ 8100) ∧ Below w0.heap.size w0 w' := by
 obtain ⟨Xm, xm, ym, Xa, xa, ya, Xb, xb, yb, rfl, hMem, hAt, hBuf, _, _, _, _, _, _⟩ := hX.open_
 obtain ⟨r1, r2, r3⟩ := i6a hp hf
 have n1 := hp.ncells
 have n2 := hp.nthreads
 have f1 := hf.mem.len
 have f2 := hf.nat
 have f3 := hf.nbuf
 have S := (St.refl w0).nilEnt 5
 refine a0a Tryz.func80 rfl Tryz.ntmps80 rfl ?_
 refine wO0 rfl ⟨⟩ (j0a S (by conv => lhs; whnf) rfl ?_)
 intro g1 w1 S1 X1 G1
 refine lC S1.k [.o 0] rfl ⟨rfl,⟨⟩⟩ (wL (fun μk D ε w => D = [] ∧ ∃ k : Nat, ∃ G : Option Nat, ∃ cs' : List Value, ∃ v : Value, ∃ l : List Int, (k + μk = (c.mem.length)) ∧ (l.length ≤ k) ∧ (l = c.mem.take k) ∧ (s7b w0 G cs' v l) ∧ St [] w0 w [(some g1, 38, [.slice Xm xm ym, .slice Xa xa ya, .slice Xb xb yb]), (G, 5, cs')] ∧ Sl ε [(1, .pointer (some ⟨g1, 0, none⟩)), (3, v), (15, .slice Xm xm ym), (16, .int .i64 xm), (17, .int .i64 k)]) (μ := (c.mem.length)) ⟨rfl, 0, none, [], .slice none 0 0, [], by omega, by simp, by simp, Q1a.nil, S1, rfl⟩ ?_)
 rintro μk D ε w ⟨rfl, k, G, cs', v, l, hk, _, hq, hrow, S, eZ⟩
 refine wK eZ (wB0 rfl ⟨⟩ (fun h18 => ?_) fun h18 => ?_)
 ·obtain ⟨n, b19, p19, _, hxn, hA19, _, _, hc19, hr19⟩ := RdS.get (hMem) (k) (by omega)
  obtain ⟨rfl, _⟩ := id hr19
  refine lOn 16 (S.k.a hc19) [.x b19 p19,.f 0 0] rfl ⟨rfl,⟨hA19,by omega⟩,⟨⟩⟩ (m1a (by conv => lhs; whnf) rfl ?_)
  refine lO0 rfl ⟨⟩ (I5a Tryz.underlying3 Tryz.underlying5 rfl (r1 n (c0a hxn)) rfl ?_)
  refine E0a S T4a (vs := [.int .u8 _]) (cs := [_]) (by rfl) rfl rfl rfl rfl rfl rfl ?_
  intro g24 w24 S24 X24 G24
  refine C1a o9a (k := 2) (M2 := []) (e1 := n) S24 T4a (by decide) rfl hrow rfl rfl (S24.cells 0 rfl) rfl (by omega) rfl ?_
  intro v25 G25 cs25 w25 S25 hrow25 X25 F25
  refine T0a (by conv => lhs; whnf) rfl ?_
  refine lP0 rfl ⟨by omega,⟨⟩⟩ ?_
  refine ⟨μk - 1, by omega, rfl, (k + 1), (_), (_), (_), (l ++ [n]), (by omega), (by simp; omega), (by rw [hq, J0a hxn]), (hrow25), S25.tail, rfl⟩
 have hq0 : l = c.mem := by rw [hq, List.take_of_length_le (by omega)]
 clear hq
 refine lC S.k [.o 0] rfl ⟨rfl,⟨⟩⟩ (wL (fun μk D ε w => D = [] ∧ ∃ k : Nat, ∃ G : Option Nat, ∃ cs' : List Value, ∃ v : Value, ∃ l2 : List Int, (k + μk = (c.at_.length)) ∧ (l2.length ≤ 40 + k) ∧ (l2 = c.mem ++ (c.at_.take k).map (fun x => x + 1)) ∧ (s7b w0 G cs' v l2) ∧ St [] w0 w [(some g1, 38, [.slice Xm xm ym, .slice Xa xa ya, .slice Xb xb yb]), (G, 5, cs')] ∧ Sl ε [(1, .pointer (some ⟨g1, 0, none⟩)), (3, v), (28, .slice Xa xa ya), (29, .int .i64 xa), (30, .int .i64 k)]) (μ := (c.at_.length)) ⟨rfl, 0, G, cs', v, l, by omega, by omega, by simp [hq0], hrow, S, rfl⟩ ?_)
 rintro μk D ε w ⟨rfl, k, G, cs', v, l2, hk, _, hq, hrow, S, eZ⟩
 refine wK eZ (wB0 rfl ⟨⟩ (fun h31 => ?_) fun h31 => ?_)
 ·obtain ⟨n, b32, p32, _, hxn, hA32, _, _, hc32, hr32⟩ := RdS.get (hAt) (k) (by omega)
  obtain ⟨rfl, _⟩ := id hr32
  refine lOn 16 (S.k.a hc32) [.x b32 p32,.f 0 0] rfl ⟨rfl,⟨hA32,by omega⟩,⟨⟩⟩ (m1a (by conv => lhs; whnf) rfl ?_)
  have q37 := r2 n (c0a hxn)
  refine lO0 rfl ⟨by omega,⟨⟩⟩ (I5a Tryz.underlying3 Tryz.underlying5 rfl (a := n + 1) (by omega) rfl ?_)
  refine E0a S T4a (vs := [.int .u8 _]) (cs := [_]) (by rfl) rfl rfl rfl rfl rfl rfl ?_
  intro g38 w38 S38 X38 G38
  refine C1a o9a (k := 2) (M2 := []) (e1 := n + 1) S38 T4a (by decide) rfl hrow rfl rfl (S38.cells 0 rfl) rfl (by omega) rfl ?_
  intro v39 G39 cs39 w39 S39 hrow39 X39 F39
  refine T0a (by conv => lhs; whnf) rfl ?_
  refine lP0 rfl ⟨by omega,⟨⟩⟩ ?_
  refine ⟨μk - 1, by omega, rfl, (k + 1), (_), (_), (_), (l2 ++ [n + 1]), (by omega), (by simp; omega), (by rw [hq, J0a hxn]; simp), (hrow39), S39.tail, rfl⟩
 have hq0 : l2 = c.mem ++ c.at_.map (fun x => x + 1) := by rw [hq, List.take_of_length_le (by omega)]
 clear hq
 refine lC S.k [.o 0] rfl ⟨rfl,⟨⟩⟩ (wL (fun μk D ε w => D = [] ∧ ∃ k : Nat, ∃ G : Option Nat, ∃ cs' : List Value, ∃ v : Value, ∃ l3 : List Int, (k + μk = (c.buf.length)) ∧ (l3.length ≤ 100 + 2000 * k) ∧ (l3 = c.mem ++ (c.at_.map (fun x => x + 1) ++ (c.buf.take k).flatMap E2a)) ∧ (s7b w0 G cs' v l3) ∧ St [] w0 w [(some g1, 38, [.slice Xm xm ym, .slice Xa xa ya, .slice Xb xb yb]), (G, 5, cs')] ∧ Sl ε [(3, v), (42, .slice Xb xb yb), (43, .int .i64 xb), (44, .int .i64 k)]) (μ := (c.buf.length)) ⟨rfl, 0, G, cs', v, l2, by omega, by omega, by simp [hq0], hrow, S, rfl⟩ ?_)
 rintro μk D ε w ⟨rfl, k, G, cs', v, l3, hk, _, hq, hrow, S, eZ⟩
 refine wK eZ (wB0 rfl ⟨⟩ (fun h45 => ?_) fun h45 => ?_)
 ·obtain ⟨b, b46, p46, _, hxb, hA46, _, _, hc46, hr46⟩ := RdS.get (hBuf) (k) (by omega)
  obtain ⟨Ab46, nb46, cb46, rfl, hBu46, _, _⟩ := s5a.open_ hr46
  refine lOn 17 (S.k.a hc46) [.x b46 p46,.f 0 0] rfl ⟨rfl,⟨hA46,by omega⟩,⟨⟩⟩ (m1a (by conv => lhs; whnf) rfl ?_)
  have q3 := hf.bufs k b hxb
  refine lO0 rfl ⟨⟩ (I5a Tryz.underlying3 Tryz.underlying5 rfl (a := (nb46 : Int)) (by omega) rfl ?_)
  refine E0a S T4a (vs := [.int .u8 _]) (cs := [_]) (by rfl) rfl rfl rfl rfl rfl rfl ?_
  intro g52 w52 S52 X52 G52
  refine C1a o9a (k := 2) (M2 := []) (e1 := (nb46 : Int)) S52 T4a (by decide) rfl hrow rfl rfl (S52.cells 0 rfl) rfl (by omega) rfl ?_
  intro v53 G53 cs53 w53 S53 hrow53 X53 F53
  refine T0a (by conv => lhs; whnf) rfl ?_
  refine lC0 rfl ⟨⟩ ?_
  refine wL (fun μj D ε w => D = [] ∧ ∃ j : Nat, ∃ G4 : Option Nat, ∃ cs4 : List Value, ∃ v4 : Value, ∃ l4 : List Int, (j + μj = (b.length)) ∧ (l4.length ≤ 101 + 2000 * k + 65 * j) ∧ (l4 = l3 ++ ((b.length : Int) :: (b.take j).flatMap z4a)) ∧ (s7b w0 G4 cs4 v4 l4) ∧ St [] w0 w [(some g52, 5, [.int .u8 (nb46 : Int)]), (some g1, 38, [.slice Xm xm ym, .slice Xa xa ya, .slice Xb xb yb]), (G4, 5, cs4)] ∧ Sl ε [(3, v4), (42, .slice Xb xb yb), (43, .int .i64 xb), (44, .int .i64 k), (54, .slice Ab46 nb46 cb46), (55, .int .i64 nb46), (56, .int .i64 j)]) (μ := (b.length)) ⟨rfl, 0, G53, cs53, v53, l3 ++ [(nb46 : Int)], by omega, by simp; omega, by rw [show (b.length : Int) = nb46 by omega]; simp, hrow53, S53, rfl⟩ ?_
  rintro μj D ε w ⟨rfl, j, G4, cs4, v4, l4, _, _, hq4, hrow4, S, eZ⟩
  refine wK eZ (wB0 rfl ⟨⟩ (fun h57 => ?_) fun h57 => ?_)
  ·obtain ⟨en, b58, p58, _, hxen, hA58, _, hl58, hc58, hr58⟩ := RdS.get (hBu46) (j) (by omega)
   obtain ⟨Ac58, nc58, cc58, Av58, nv58, cv58, rfl, hCe58, hVa58, _, _, _, _⟩ := V0a.open_ hr58
   refine lO (S.k.a hc58) [.x b58 p58,.v 0] rfl ⟨⟨rfl,hl58⟩,⟨hA58,by omega⟩,⟨⟩⟩ (n0a S n9a rfl rfl ?_)
   intro g11 w11 S11 X11 G11
   refine e0a (kk := 0) (vs := [_, _]) S11 Z9a rfl rfl rfl rfl rfl rfl rfl ?_
   intro w18_3 S18_3 X18_3
   dsimp only [k0a, List.set] at S18_3
   refine lOn 4 S18_3.k [] rfl ⟨⟩ (m1a (by conv => lhs; whnf) rfl ?_)
   have q4 := q3.2.1 en (c0a hxen)
   have q5 := q4.len
   have q6 : en.values.length = en.cells.length := q4.even
   refine lO S18_3.k [.o 0] rfl ⟨rfl,⟨⟩⟩ (I5a Tryz.underlying3 Tryz.underlying5 rfl (a := (nc58 : Int)) (by omega) rfl ?_)
   refine E0a S18_3 T4a (vs := [.int .u8 _]) (cs := [_]) (by rfl) rfl rfl rfl rfl rfl rfl ?_
   intro g65 w65 S65 X65 G65
   refine C1a o9a (k := 4) (M2 := []) (e1 := (nc58 : Int)) S65 T4a (by decide) rfl hrow4 rfl rfl (S65.cells 0 rfl) rfl (by omega) rfl ?_
   intro v66 G66 cs66 w66 S66 hrow66 X66 F66
   refine T0a (by conv => lhs; whnf) rfl ?_
   refine lC S66.k [.o 1] rfl ⟨rfl,⟨⟩⟩ ?_
   refine wL (fun μi D ε w => D = [] ∧ ∃ i : Nat, ∃ G5 : Option Nat, ∃ cs5 : List Value, ∃ v5 : Value, ∃ l5 : List Int, (i + μi = (en.cells.length)) ∧ (l5.length ≤ 102 + 2000 * k + 65 * j + 2 * i) ∧ (l5 = l4 ++ ((en.cells.length : Int) :: ((en.cells.zip en.values).take i).flatMap fun x => [x.1, x.2])) ∧ (s7b w0 G5 cs5 v5 l5) ∧ St [] w0 w [(some g65, 5, [.int .u8 (nc58 : Int)]), (some g11, 81, [.slice Ac58 nc58 cc58, .slice Av58 nv58 cv58]), (some g52, 5, [.int .u8 (nb46 : Int)]), (some g1, 38, [.slice Xm xm ym, .slice Xa xa ya, .slice Xb xb yb]), (G5, 5, cs5)] ∧ Sl ε [(3, v5), (11, .pointer (some ⟨g11, 0, none⟩)), (42, .slice Xb xb yb), (43, .int .i64 xb), (44, .int .i64 k), (54, .slice Ab46 nb46 cb46), (55, .int .i64 nb46), (56, .int .i64 j), (68, .slice Ac58 nc58 cc58), (69, .int .i64 nc58), (70, .int .i64 i)]) (μ := (en.cells.length)) ⟨rfl, 0, G66, cs66, v66, l4 ++ [(nc58 : Int)], by omega, by simp; omega, by rw [show (en.cells.length : Int) = nc58 by omega]; simp, hrow66, S66, rfl⟩ ?_
   rintro μi D ε w ⟨rfl, i, G5, cs5, v5, l5, _, _, hq5, hrow5, S, eZ⟩
   refine wK eZ (wB0 rfl ⟨⟩ (fun h71 => ?_) fun h71 => ?_)
   ·obtain ⟨n, b73, p73, _, hxn, hA73, _, _, hc73, hr73⟩ := RdS.get (hCe58) (i) (by omega)
    obtain ⟨rfl, _⟩ := id hr73
    refine lOn 18 (S.k.a hc73) [.x b73 p73,.f 0 0] rfl ⟨rfl,⟨hA73,by omega⟩,⟨⟩⟩ (m1a (by conv => lhs; whnf) rfl ?_)
    refine lO0 rfl ⟨⟩ ?_
    obtain ⟨u, hxu⟩ : ∃ u, en.values[i]? = some u := ⟨en.values[i]'(by omega), List.getElem?_eq_getElem _⟩
    have q7 : n ∈ c.buf.flatMap E2a ∧ u ∈ c.buf.flatMap E2a := O4c hxb hxen hxn hxu
    have q8 := r3 n q7.1
    have q9 := r3 u q7.2
    refine I5a Tryz.underlying3 Tryz.underlying5 rfl (a := n) (by omega) rfl ?_
    obtain ⟨_, b81, p81, _, hx81, hA81, _, _, hc81, hr81⟩ := RdS.get (hVa58) (i) (by omega)
    obtain rfl := Option.some.inj (hxu.symm.trans hx81)
    obtain ⟨rfl, _⟩ := id hr81
    refine lO (S.k.a hc81) [.o 1,.x b81 p81,.f 0 0] rfl ⟨rfl,⟨hA81,by omega⟩,rfl,⟨⟩⟩ (I5a Tryz.underlying3 Tryz.underlying5 rfl (a := u) (by omega) rfl ?_)
    refine E0a S T4a (vs := [.int .u8 _, .int .u8 _]) (cs := [_, _]) (by rfl) rfl rfl rfl rfl rfl rfl ?_
    intro g84 w84 S84 X84 G84
    refine V8a o9a (k := 5) (M2 := []) (e1 := n) (e2 := u) S84 T4a (by decide) rfl hrow5 rfl rfl (S84.cells 0 rfl) rfl rfl (by omega) rfl ?_
    intro v85 G85 cs85 w85 S85 hrow85 X85 F85
    refine T0a (by conv => lhs; whnf) rfl ?_
    refine lP0 rfl ⟨by omega,⟨⟩⟩ ?_
    refine ⟨μi - 1, by omega, rfl, (i + 1), (_), (_), (_), (l5 ++ [n, u]), (by omega), (by simp; omega), (by rw [hq5, J0a (T1b hxn hxu)]; simp), (hrow85), S85.tail, rfl⟩
   refine lP0 rfl ⟨by omega,⟨⟩⟩ ?_
   refine ⟨μj - 1, by omega, rfl, (j + 1), (_), (_), (_), (l5), (by omega), (by omega), (by rw [hq5, List.take_of_length_le (show (en.cells.zip en.values).length ≤ i by simp; omega), hq4, J0a hxen]; simp [z4a]), (hrow5), S.tail.tail, rfl⟩
  refine lP0 rfl ⟨by omega,⟨⟩⟩ ?_
  refine ⟨μk - 1, by omega, rfl, (k + 1), (_), (_), (_), (l4), (by omega), (by omega), (by rw [hq4, List.take_of_length_le (show b.length ≤ j by omega), hq, J0a hxb]; simp [E2a]), (hrow4), S.tail, rfl⟩
 refine lOn 8 S.k [] rfl ⟨⟩ (m1a (by conv => lhs; whnf) rfl ?_)
 refine q9b S (k := 1) Tryz.underlying77 Tryz.underlying5 Tryz.underlying9 rfl hrow rfl rfl ?_
 refine lR0 rfl ⟨⟩ (r0a rfl (by conv => lhs; whnf) ?_)
 rw [List.take_of_length_le (by omega)] at hq
 have hq' : l3 = x7a c := hq
 refine ⟨⟨?_, ?_⟩, S.fin⟩
 ·rw [hq']; rfl
 ·rw [← hq']; omega
section
variable {P : Program} {r : Option Nat} {N : Nat} {l : List Oper} {D : List Deferred} {C : World → Prop} {K : List Deferred → Env → World → Prop} {pur : Nat → Bool}
def R1b (e : Env) (d : Option Nat) (v : Value) : Env := match d with | some d => upd e d v | none => e
def k5b (N : Nat) (o : Oper) : Prop := ∀ d, o.dst = some d → d < N
theorem V3a {a : Act} (o : Oper) (v : Value) (h : k5b a.tmps.size o) : P0a (a.put o.dst v) = R1b (P0a a) o.dst v := by
 cases hd : o.dst with
 | none => rfl
 | some d => exact W0a v (h d hd)
theorem V4a (a : Act) (o : Oper) (v : Value) : (a.put o.dst v).tmps.size = a.tmps.size := by
 cases o.dst <;> simp [Act.put]
theorem y2a (a : Act) (o : Oper) (v : Value) : (a.put o.dst v).defers = a.defers := by
 cases o.dst <;> simp [Act.put]
theorem a8a {e : Env} {o : Oper} {v : Value} (hN : k5b N o) (hz : ∀ i, N ≤ i → e i = undef) : ∀ i, N ≤ i → R1b e o.dst v i = undef := by
 cases hd : o.dst with
 | none => exact hz
 | some d => exact H1a (hN d hd) hz
theorem q4a {o : Oper} {K1 : List Deferred → Env → World → Prop} {e e1 : Env} {w : World} (hN : k5b N o) (hsel : Op.isSelect o.op = false) (hdef : ∀ c, o.op ≠ .defer c) (hz : ∀ i, N ≤ i → e1 i = undef)
 (agree : ∀ s ∈ Oper.looksAt l.toArray o, e s = e1 s) (h : WL P r N l.toArray [o] K1 D e1 w) : WL P r N l.toArray [o] (fun D' e' w' => ∃ v, e' = R1b e o.dst v ∧ K1 D' (R1b e1 o.dst v) w') D e w := by
 unfold WL at *
 intro a Q hs hD he hK
 obtain ⟨a1, hs1, hD1, he1⟩ := h6a e1 N D hz
 have h1 := h a1 (fun ex a' w' => ex = .normal ∧ K1 a'.defers (P0a a') w') hs1 hD1 he1 (fun a' w' _ hk => ⟨rfl, hk⟩)
 have hw : Region.wanted o (yielded l.toArray a.tmps) = Region.wanted o (yielded l.toArray a1.tmps) := by rw [g1a, g1a, he, he1]; exact O0a agree
 have fin : ∀ (v : Value) (w' : World), K1 (a1.put o.dst v).defers (P0a (a1.put o.dst v)) w' → Q .normal (a.put o.dst v) w' := by
  intro v w' hk
  rw [V3a o v (by rw [hs1]; exact hN), he1, y2a, hD1] at hk
  refine hK _ _ (by rw [V4a, hs]) ⟨v, by rw [V3a o v (by rw [hs]; exact hN), he], ?_⟩
  rw [y2a, hD]; exact hk
 simp only [wpListIn] at h1 ⊢
 rw [hw]
 split
 ·rename_i hww
  simp only [hww, if_true] at h1
  refine ⟨u0a _ _ _, ?_⟩
  have h4 := h1.2
  have hsem : Oper.semAt (fc r).round a.eval o = Oper.semAt (fc r).round a1.eval o := by
   rw [Oper.semAt_eq _ _ _ hdef, Oper.semAt_eq _ _ _ hdef, c2a, c2a, he, he1]; exact n1a hsel agree
  rw [hsem]
  revert h4
  generalize (Oper.semAt (fc r).round a1.eval o).run P w = res
  intro h4
  cases res with
  | ok x w' =>
    cases x with
    | value v => simp only [Oper.uponIn] at h4 ⊢; exact fin v w' h4.2
    | skip => simp only [Oper.uponIn] at h4 ⊢; exact fin undef w' h4.2
    | defer dd =>
      simp only [Oper.uponIn] at h4 ⊢
      have hk := h4.2
      have ee1 : P0a ({ a1 with defers := dd :: a1.defers } : Act) = e1 := he1
      have ee : P0a ({ a with defers := dd :: a.defers } : Act) = e := he
      rw [V3a (a := { a1 with defers := dd :: a1.defers }) o undef (by rw [show ({ a1 with defers := dd :: a1.defers } : Act).tmps.size = N from hs1]; exact hN), ee1, y2a] at hk
      refine hK _ _ (by rw [V4a]; exact hs) ⟨undef, by rw [V3a (a := { a with defers := dd :: a.defers }) o undef (by rw [show ({ a with defers := dd :: a.defers } : Act).tmps.size = N from hs]; exact hN), ee], ?_⟩
      rw [y2a]
      show K1 (dd :: a.defers) _ _
      rw [hD, ← hD1]; exact hk
    | enter f args =>
      simp only [Oper.uponIn] at h4 ⊢
      exact ⟨h4.1, CallsIn.mono h4.2 (fun en w'' hh => by
       cases en
       ·exact fin _ _ hh.2
       ·exact absurd hh.1 (by simp)
       ·obtain ⟨a0, w0, hh⟩ := hh; exact absurd hh.1 (by simp))⟩
    | row rw' args => simp only [Oper.uponIn] at h4 ⊢; exact ⟨h4.1, RowsIn.mono h4.2 (fun _ _ hh => fin _ _ hh.2)⟩
    | round l' f tmps assign body =>
      simp only [Oper.uponIn] at h4 ⊢
      exact ⟨h4.1, RoundIn.mono h4.2 (fun en w'' hh => by
       cases en
       ·exact fin _ _ hh.2
       ·exact absurd hh.1 (by simp)
       ·obtain ⟨a0, w0, hh⟩ := hh; exact absurd hh.1 (by simp))⟩
    | _ => simp only [Oper.uponIn] at h4
  | halt x w' => cases x <;> simp only [Oper.uponIn] at h4 ⊢ <;> exact absurd h4.1 (by simp)
 ·rename_i hww
  simp only [hww] at h1
  exact ⟨u0a _ _ _, fin undef w h1.2.2⟩
theorem K0c {o : Oper} {K1 : List Deferred → Env → World → Prop} {e : Env} {w : World} (hN : k5b N o) (hz : ∀ i, N ≤ i → e i = undef)
 (h : WL P r N l.toArray [o] K1 D e w) : ∃ D' v w', K1 D' (R1b e o.dst v) w' := by
 unfold WL at h
 obtain ⟨a1, hs1, hD1, he1⟩ := h6a e N D hz
 have h1 := h a1 (fun ex a' w' => ex = .normal ∧ K1 a'.defers (P0a a') w') hs1 hD1 he1 (fun a' w' _ hk => ⟨rfl, hk⟩)
 have fin : ∀ (v : Value) (w' : World), K1 (a1.put o.dst v).defers (P0a (a1.put o.dst v)) w' → ∃ D' v w', K1 D' (R1b e o.dst v) w' := by
  intro v w' hk
  rw [V3a o v (by rw [hs1]; exact hN), he1] at hk
  exact ⟨_, v, w', hk⟩
 simp only [wpListIn] at h1
 split at h1
 ·have h4 := h1.2
  revert h4
  generalize (Oper.semAt (fc r).round a1.eval o).run P w = res
  intro h4
  cases res with
  | ok x w' =>
    cases x with
    | value v => simp only [Oper.uponIn] at h4; exact fin v w' h4.2
    | skip => simp only [Oper.uponIn] at h4; exact fin undef w' h4.2
    | defer dd =>
      simp only [Oper.uponIn] at h4
      have hk := h4.2
      rw [V3a (a := { a1 with defers := dd :: a1.defers }) o undef (by rw [show ({ a1 with defers := dd :: a1.defers } : Act).tmps.size = N from hs1]; exact hN), show P0a ({ a1 with defers := dd :: a1.defers } : Act) = e from he1] at hk
      exact ⟨_, _, _, hk⟩
    | enter f args =>
      simp only [Oper.uponIn] at h4
      obtain ⟨en, w2, _, hR, _⟩ := h4.2.2 [] (room_wide _)
      cases en
      ·exact fin _ _ hR.2
      ·exact absurd hR.1 (by simp)
      ·obtain ⟨a0, w0, hh⟩ := hR; exact absurd hh.1 (by simp)
    | row rw' args =>
      simp only [Oper.uponIn] at h4
      obtain ⟨v, w2, hR, _⟩ := h4.2 default [] (room_wide _)
      exact fin _ _ hR.2
    | round l' f tmps assign body =>
      simp only [Oper.uponIn] at h4
      obtain ⟨en, w2, hR, _⟩ := h4.2.2 default [] (room_wide _)
      cases en
      ·exact fin _ _ hR.2
      ·exact absurd hR.1 (by simp)
      ·obtain ⟨a0, w0, hh⟩ := hR; exact absurd hh.1 (by simp)
    | _ => simp only [Oper.uponIn] at h4
  | halt x w' => cases x <;> simp only [Oper.uponIn] at h4 <;> exact absurd h4.1 (by simp)
 ·exact fin undef w h1.2.2
def WN (P : Program) (r : Option Nat) (N : Nat) (l : List Oper) (C : World → Prop) (pur : Nat → Bool) (K : List Deferred → Env → World → Prop) (D : List Deferred) : List Nat → Env → World → Prop
 | [], e, w => C w ∧ K D e w
 | i :: rest, e, w => C w ∧ ∃ o, l[i]? = some o ∧ k5b N o ∧
  ((pur i = true ∧ ∃ d v, o.dst = some d ∧ PV P l C o e v ∧ WN P r N l C pur K D rest (upd e d v) w) ∨
   (pur i = false ∧ WL P r N l.toArray [o] (fun D' e' w' => D' = D ∧ WN P r N l C pur K D rest e' w') D e w))
theorem WN.inC {rem : List Nat} {e : Env} {w : World} (h : WN P r N l C pur K D rem e w) : C w := by cases rem <;> exact h.1
def k0b (l : List Oper) (pur : Nat → Bool) (j i : Nat) : Bool :=
 match l[j]?, l[i]? with
 | some p, some q => (pur i || pur j) && (match p.dst, q.dst with
   | some c, some d => !(c == d) && !(Oper.looksAt l.toArray p).contains d && !(Oper.looksAt l.toArray q).contains c
   | some c, none => pur j && !(Oper.looksAt l.toArray q).contains c
   | none, some d => pur i && !(Oper.looksAt l.toArray p).contains d
   | _, _ => false)
 | _, _ => false
structure c0d (l : List Oper) (pur : Nat → Bool) (j i : Nat) (o1 o2 : Oper) : Prop where
 pur : pur i = true ∨ pur j = true
 dst : ∀ c d, o1.dst = some c → o2.dst = some d → c ≠ d
 p : ∀ d, o2.dst = some d → d ∉ Oper.looksAt l.toArray o1
 q : ∀ c, o1.dst = some c → c ∉ Oper.looksAt l.toArray o2
theorem p9a {j i : Nat} {p q : Oper} (h : k0b l pur j i = true) (hj : l[j]? = some p) (hi : l[i]? = some q) : c0d l pur j i p q := by
 unfold k0b at h
 simp only [hj, hi, Bool.and_eq_true, Bool.or_eq_true] at h
 obtain ⟨h1, h2⟩ := h
 cases hc : p.dst with
 | none =>
   cases hd : q.dst with
   | none => simp [hc, hd] at h2
   | some d =>
     simp only [hc, hd, Bool.and_eq_true, Bool.not_eq_true', List.contains_eq_mem, decide_eq_false_iff_not] at h2
     exact ⟨h1, fun c d h => (by rw [hc] at h; cases h), fun x hx => (by rw [hd] at hx; cases hx; exact h2.2), fun c h => (by rw [hc] at h; cases h)⟩
 | some c =>
   cases hd : q.dst with
   | none =>
     simp only [hc, hd, Bool.and_eq_true, Bool.not_eq_true', List.contains_eq_mem, decide_eq_false_iff_not] at h2
     exact ⟨h1, fun c d _ h => (by rw [hd] at h; cases h), fun d h => (by rw [hd] at h; cases h), fun x hx => (by rw [hc] at hx; cases hx; exact h2.2)⟩
   | some d =>
     simp only [hc, hd, Bool.and_eq_true, Bool.not_eq_true', beq_eq_false_iff_ne, List.contains_eq_mem, decide_eq_false_iff_not] at h2
     exact ⟨h1, fun x y hx hy => (by rw [hc] at hx; rw [hd] at hy; cases hx; cases hy; exact h2.1.1), fun x hx => (by rw [hd] at hx; cases hx; exact h2.1.2), fun x hx => (by rw [hc] at hx; cases hx; exact h2.2)⟩
theorem y7a {e : Env} {o : Oper} {u : Value} {s : Nat} {X : List Nat} (hc : ∀ c, o.dst = some c → c ∉ X) (hs : s ∈ X) : R1b e o.dst u s = e s := by
 cases hd : o.dst with
 | none => rfl
 | some c => exact D1a (hc c hd) hs
theorem L3b (e : Env) {p q : Oper} (u v : Value) (h : ∀ c d, p.dst = some c → q.dst = some d → c ≠ d) : R1b (R1b e p.dst u) q.dst v = R1b (R1b e q.dst v) p.dst u := by
 cases hc : p.dst with
 | none => rfl
 | some c =>
   cases hd : q.dst with
   | none => rfl
   | some d => exact r2a e u v (h c d hc hd)
theorem WN.first (hpl : o4a l = true) {i : Nat} {post : List Nat} : ∀ (pre : List Nat) (e : Env) (w : World), (∀ j ∈ pre, k0b l pur j i = true) → (∀ i, N ≤ i → e i = undef) → WN P r N l C pur K D (pre ++ i :: post) e w →
 ∃ o, l[i]? = some o ∧ k5b N o ∧
  ((pur i = true ∧ ∃ d v, o.dst = some d ∧ PV P l C o e v ∧ WN P r N l C pur K D (pre ++ post) (upd e d v) w) ∨
   (pur i = false ∧ WL P r N l.toArray [o] (fun D' e' w' => D' = D ∧ ∃ v, e' = R1b e o.dst v ∧ WN P r N l C pur K D (pre ++ post) e' w') D e w)) := by
 intro pre
 induction pre with
 | nil =>
   intro e w _ hz h
   obtain ⟨hC, o, ho, hN, h⟩ := h
   refine ⟨o, ho, hN, ?_⟩
   rcases h with h | ⟨hp, h⟩
   ·exact .inl h
   ·refine .inr ⟨hp, ?_⟩
    have h2 := q4a (e := e) (e1 := e) hN (z0a hpl ho).1 (z0a hpl ho).2 hz (fun _ _ => rfl) h
    unfold WL at *
    exact fun a Q hs hD he hK => h2 a Q hs hD he (fun a' w' hs' ⟨v, h1, h3, h4⟩ => hK a' w' hs' ⟨h3, v, h1, by rw [h1]; exact h4⟩)
 | cons q pre ih =>
   intro e w hind hz h
   obtain ⟨hC, p, hp, hcN, h⟩ := h
   have hq := hind q (by simp)
   have hind' : ∀ j ∈ pre, k0b l pur j i = true := fun j hj => hind j (by simp [hj])
   rcases h with ⟨hpq, c, u, hc, hu, h⟩ | ⟨hpq, h⟩
   ·obtain ⟨o, ho, hN, h2⟩ := ih (upd e c u) w hind' (H1a (hcN c hc) hz) h
    have hI := p9a hq hp ho
    refine ⟨o, ho, hN, ?_⟩
    rcases h2 with ⟨hpi, d, v, hd, hv, h2⟩ | ⟨hpi, h2⟩
    ·refine .inl ⟨hpi, d, v, hd, hv.congr (z0a hpl ho).1 (fun s hs => D1a (hI.q c hc) hs), hC, p, hp, hcN, .inl ⟨hpq, c, u, hc, hu.congr (z0a hpl hp).1 (fun s hs => (D1a (hI.p d hd) hs).symm), ?_⟩⟩
     rw [← r2a _ _ _ (hI.dst c d hc hd)]; exact h2
    ·refine .inr ⟨hpi, ?_⟩
     have h3 := q4a (e := e) (e1 := upd e c u) hN (z0a hpl ho).1 (z0a hpl ho).2 (H1a (hcN c hc) hz) (fun s hs => (D1a (hI.q c hc) hs).symm) h2
     unfold WL at *
     refine fun a Q hs hD he hK => h3 a Q hs hD he (fun a' w' hs' hh => hK a' w' hs' ?_)
     obtain ⟨v, h1, h4, _, h5, h6⟩ := hh
     refine ⟨h4, v, h1, ?_⟩
     rw [h1]
     refine ⟨h6.inC, p, hp, hcN, .inl ⟨hpq, c, u, hc, hu.congr (z0a hpl hp).1 (fun s hs => (y7a hI.p hs).symm), ?_⟩⟩
     have e1 : R1b (upd e c u) o.dst v = upd (R1b e o.dst v) c u := by
      have := L3b e (p := p) (q := o) u v hI.dst
      rw [hc] at this; exact this
     rw [← e1]; exact h6
   ·have h0 := q4a (e := e) (e1 := e) hcN (z0a hpl hp).1 (z0a hpl hp).2 hz (fun _ _ => rfl) h
    obtain ⟨_, u1, w1, _, hu2, _, h1⟩ := K0c hcN hz h0
    rw [← hu2] at h1
    obtain ⟨o, ho, hN, h2⟩ := ih (R1b e p.dst u1) w1 hind' (a8a hcN hz) h1
    have hI := p9a hq hp ho
    have hpi : pur i = true := by
     rcases hI.pur with h | h
     ·exact h
     ·rw [hpq] at h; cases h
    rcases h2 with ⟨_, d, v0, hd, hv0, _⟩ | ⟨hpi', _⟩
    ·have hv0' : PV P l C o e v0 := hv0.congr (z0a hpl ho).1 (fun s hs => y7a hI.q hs)
     refine ⟨o, ho, hN, .inl ⟨hpi, d, v0, hd, hv0', hC, p, hp, hcN, .inr ⟨hpq, ?_⟩⟩⟩
     have h3 := q4a (e := upd e d v0) (e1 := e) hcN (z0a hpl hp).1 (z0a hpl hp).2 hz (fun s hs => D1a (hI.p d hd) hs) h
     unfold WL at *
     refine fun a Q hs hD he hK => h3 a Q hs hD he (fun a' w' hs' hh => hK a' w' hs' ?_)
     obtain ⟨u, hu, hDD, h4⟩ := hh
     refine ⟨hDD, ?_⟩
     obtain ⟨o', ho', _, h5⟩ := ih (R1b e p.dst u) w' hind' (a8a hcN hz) h4
     obtain rfl : o' = o := Option.some.inj (ho'.symm.trans ho)
     rcases h5 with ⟨_, d', v, hd', hv, h5⟩ | ⟨hpi', _⟩
     ·obtain rfl : d' = d := Option.some.inj (hd'.symm.trans hd)
      have hv' : PV P l C o' e v := hv.congr (z0a hpl ho).1 (fun s hs => y7a hI.q hs)
      obtain rfl : v = v0 := PV.uniq hC hv' hv0'
      have e1 : upd (R1b e p.dst u) d' v = R1b (upd e d' v) p.dst u := by
       have := L3b e (p := p) (q := o') u v hI.dst
       rw [hd] at this; exact this
      rw [hu, ← e1]; exact h5
     ·rw [hpi] at hpi'; cases hpi'
    ·rw [hpi] at hpi'; cases hpi'
def g5b (l : List Oper) (pur : Nat → Bool) (x y : Nat) : List Nat → List Nat → Bool
 | _, [] => true
 | acc, i :: rest => (acc.all fun j => (S3a l i).contains j || k0b l pur j i || (j == x && i == y)) && g5b l pur x y (acc ++ [i]) rest
theorem C0b {x y : Nat} : ∀ (ix acc : List Nat), g5b l pur x y acc ix = true → ∀ (pre : List Nat) (i : Nat) (post : List Nat), ix = pre ++ i :: post → ∀ j ∈ acc ++ pre, j ∈ S3a l i ∨ k0b l pur j i = true ∨ (j = x ∧ i = y)
 | [], _, _, pre, i, post, h => by simp at h
 | k :: ix, acc, h, pre, i, post, he => by
   simp only [g5b, Bool.and_eq_true] at h
   cases pre with
   | nil =>
     simp at he
     obtain ⟨rfl, -⟩ := he
     intro j hj
     rw [List.append_nil] at hj
     have := List.all_eq_true.1 h.1 j hj
     simp only [Bool.or_eq_true, List.contains_eq_mem, decide_eq_true_eq, Bool.and_eq_true, beq_iff_eq] at this
     rcases this with (h | h) | h
     ·exact .inl h
     ·exact .inr (.inl h)
     ·exact .inr (.inr h)
   | cons q pre =>
     simp at he
     obtain ⟨rfl, he⟩ := he
     intro j hj
     exact C0b ix (acc ++ [k]) h.2 pre i post he j (by simpa using hj)
def t5a (ix : List Nat) (f : Nat → Bool) : List Nat := ix.filter fun i => !f i
theorem x7b {ix : List Nat} (hnd : ix.Nodup) (f : Nat → Bool) {i : Nat} (hi : i ∈ ix) (hf : f i = false) : ∃ pre post P Q, ix = P ++ i :: Q ∧ t5a ix f = pre ++ i :: post ∧ t5a ix (fun j => f j || j == i) = pre ++ post ∧ ∀ j ∈ pre, j ∈ P ∧ f j = false := by
 obtain ⟨P, Q, rfl⟩ := List.append_of_mem hi
 rw [List.nodup_append] at hnd
 obtain ⟨_, h2, h3⟩ := hnd
 rw [List.nodup_cons] at h2
 refine ⟨P.filter fun j => !f j, Q.filter fun j => !f j, P, Q, rfl, ?_, ?_, ?_⟩
 ·unfold t5a; rw [List.filter_append, List.filter_cons]; simp [hf]
 ·unfold t5a; rw [List.filter_append, List.filter_cons]
  simp only [beq_self_eq_true, Bool.or_true, Bool.not_true, Bool.false_eq_true, if_false]
  congr 1
  ·apply List.filter_congr; intro j hj
   have : (j == i) = false := by simp; exact fun e => h3 j hj i (by simp) e
   simp [this]
  ·apply List.filter_congr; intro j hj
   have : (j == i) = false := by simp; exact fun e => h2.1 (e ▸ hj)
   simp [this]
 ·intro j hj; rw [List.mem_filter] at hj; exact ⟨hj.1, by simpa using hj.2⟩
def r6b : List Nat → Bool
 | [] => true
 | x :: l => !l.contains x && r6b l
theorem L9a : ∀ {l : List Nat}, r6b l = true → l.Nodup
 | [], _ => List.nodup_nil
 | x :: l, h => by
   simp only [r6b, Bool.and_eq_true, Bool.not_eq_true', List.contains_eq_mem, decide_eq_false_iff_not] at h
   exact List.nodup_cons.2 ⟨h.1, L9a h.2⟩
def N5c (n : Nat) (ix : List Nat) : Bool := r6b ix && (List.range n).all (fun i => ix.contains i) && ix.all (fun i => decide (i < n))
def y8c (l : List Oper) (pur : Nat → Bool) (a c : Nat) (ixA ixB : List Nat) : Bool :=
 o4a l && ((List.range l.length).all fun i => (d1a l i).all fun j => decide (j < i)) && N5c l.length ixA && N5c l.length ixB && g5b l pur a c [] ixA && g5b l pur c a [] ixB &&
 ((List.range l.length).all fun i => pur i || i == a || i == c || ((S3a l i).contains a && (S3a l i).contains c)) && !(a == c) && !pur a && !pur c
theorem WN.step {ix : List Nat} {x y : Nat} (hpl : o4a l = true) (hnd : ix.Nodup) (hor : g5b l pur x y [] ix = true) {f : Nat → Bool} (hcl : ∀ i, f i = true → ∀ j ∈ d1a l i, f j = true) {i : Nat} {o : Oper} (hi : i ∈ ix) (ho : l[i]? = some o) (hfi : f i = false)
 (hpr : ∀ j ∈ d1a l i, f j = true) (hxy : i = y → f x = true) {e : Env} {w : World} (hz : ∀ i, N ≤ i → e i = undef) (h : WN P r N l C pur K D (t5a ix f) e w) :
 k5b N o ∧ ((pur i = true ∧ ∃ d v, o.dst = some d ∧ PV P l C o e v ∧ WN P r N l C pur K D (t5a ix (fun j => f j || j == i)) (upd e d v) w) ∨
  (pur i = false ∧ WL P r N l.toArray [o] (fun D' e' w' => D' = D ∧ ∃ v, e' = R1b e o.dst v ∧ WN P r N l C pur K D (t5a ix (fun j => f j || j == i)) e' w') D e w)) := by
 obtain ⟨pre, _, A, B, h1, h2, h3, h4⟩ := x7b hnd f hi hfi
 rw [h2] at h
 have hwt : ∀ j ∈ S3a l i, f j = true := d3a hcl _ _ hpr
 obtain ⟨o', ho', hN, h5⟩ := WN.first hpl pre e w (fun j hj => by
  obtain ⟨h6, h7⟩ := h4 j hj
  rcases C0b ix [] hor A i B h1 j (by simpa using h6) with h | h | ⟨h, h'⟩
  ·have := hwt j h; rw [h7] at this; cases this
  ·exact h
  ·subst h; have := hxy h'; rw [h7] at this; cases this) hz h
 obtain rfl : o' = o := Option.some.inj (ho'.symm.trans ho)
 rw [h3]
 exact ⟨hN, h5⟩
theorem Z7c {id : Nat} {n t : List Deferred → Env → World → Prop} {b : Nat → List Deferred → Env → World → Prop} {e : Env} {w : World} (hm : P.follows .mixedOrders = true) (pur : Nat → Bool) (a c : Nat) (ixA ixB : List Nat)
 (hok : y8c l pur a c ixA ixB = true) (C : World → Prop) (hA : WN P r N l C pur n D ixA e w.drew) (hB : WN P r N l C pur n D ixB e w.drew) : W P r N (.region id l.toArray true) ⟨n, b, t⟩ D e w := by
 unfold y8c N5c at hok
 simp only [Bool.and_eq_true, Bool.not_eq_true', beq_eq_false_iff_ne] at hok
 obtain ⟨⟨⟨⟨⟨⟨⟨⟨⟨hpl, hac⟩, ⟨hndA, hfA⟩, hbA⟩, ⟨hndB, hfB⟩, hbB⟩, hoA⟩, hoB⟩, hlo⟩, hne⟩, _⟩, _⟩ := hok
 have hndA := L9a hndA
 have hndB := L9a hndB
 have inA : ∀ i, i < l.length → i ∈ ixA := fun i hi => by simpa using List.all_eq_true.1 hfA i (List.mem_range.2 hi)
 have inB : ∀ i, i < l.length → i ∈ ixB := fun i hi => by simpa using List.all_eq_true.1 hfB i (List.mem_range.2 hi)
 have hz : (∀ i, N ≤ i → e i = undef) → W P r N (.region id l.toArray true) ⟨n, b, t⟩ D e w := by
  intro hz
  refine j8b hm hac (fun f e w => (∀ i, N ≤ i → e i = undef) ∧ (∀ i, f i = true → ∀ j ∈ d1a l i, f j = true) ∧
   ((f a = false ∧ f c = false ∧ WN P r N l C pur n D (t5a ixA f) e w ∧ WN P r N l C pur n D (t5a ixB f) e w) ∨ (f a = true ∧ WN P r N l C pur n D (t5a ixA f) e w) ∨ (f c = true ∧ WN P r N l C pur n D (t5a ixB f) e w))) ⟨hz, by simp, .inl ⟨rfl, rfl, ?_, ?_⟩⟩ ?_ ?_
  ·have : t5a ixA (fun _ => false) = ixA := by unfold t5a; simp
   rw [this]; exact hA
  ·have : t5a ixB (fun _ => false) = ixB := by unfold t5a; simp
   rw [this]; exact hB
  ·rintro f e w i o ⟨hz, hcl, hM⟩ ho hfi hpr
   have hil : i < l.length := (List.getElem?_eq_some_iff.1 ho).1
   have hcl' : ∀ k, (f k || k == i) = true → ∀ j ∈ d1a l k, (f j || j == i) = true := by
    intro k hk j hj
    simp only [Bool.or_eq_true, beq_iff_eq] at hk ⊢
    rcases hk with hk | rfl
    ·exact .inl (hcl k hk j hj)
    ·exact .inl (hpr j hj)
   have hwt : ∀ j ∈ S3a l i, f j = true := d3a hcl _ _ hpr
   have one : ∀ (ix : List Nat) (x y : Nat) (J : (Nat → Bool) → Env → World → Prop), ix.Nodup → i ∈ ix → g5b l pur x y [] ix = true → (i = y → f x = true) → WN P r N l C pur n D (t5a ix f) e w →
    (∀ e' w', WN P r N l C pur n D (t5a ix (fun j => f j || j == i)) e' w' → J (fun j => f j || j == i) e' w') →
    WL P r N l.toArray [o] (fun D' e' w' => D' = D ∧ (∀ i, N ≤ i → e' i = undef) ∧ (∀ k, (f k || k == i) = true → ∀ j ∈ d1a l k, (f j || j == i) = true) ∧ J (fun j => f j || j == i) e' w') D e w := by
    intro ix x y J hnd hi hor hxy hw hJ
    obtain ⟨hN, h5⟩ := WN.step hpl hnd hor hcl hi ho hfi hpr hxy hz hw
    have hCw := hw.inC
    rcases h5 with ⟨hpi, d, v, hd, hv, h5⟩ | ⟨hpi, h5⟩
    ·rcases hv with ⟨hww, hv⟩ | ⟨hww, rfl⟩
     ·unfold WL; intro a Q hs hD he hK
      simp only [wpListIn]
      have hw' : Region.wanted o (yielded l.toArray a.tmps) = true := by rw [g1a, he]; exact hww
      simp only [hw', if_true]
      refine ⟨u0a _ _ _, ?_⟩
      rw [Oper.semAt_eq _ _ _ (z0a hpl ho).2, c2a, he, hv w hCw, Oper.uponIn_value]
      refine hK _ _ (by rw [V4a, hs]) ⟨by rw [y2a, hD], ?_⟩
      rw [hd, W0a v (by rw [hs]; exact hN d hd), he]
      exact ⟨H1a (hN d hd) hz, hcl', hJ _ _ h5⟩
     ·unfold WL; intro a Q hs hD he hK
      simp only [wpListIn]
      have hw' : Region.wanted o (yielded l.toArray a.tmps) = false := by rw [g1a, he]; exact hww
      simp only [hw']
      refine ⟨u0a _ _ _, ?_⟩
      refine hK _ _ (by rw [V4a, hs]) ⟨by rw [y2a, hD], ?_⟩
      rw [hd, W0a undef (by rw [hs]; exact hN d hd), he]
      exact ⟨H1a (hN d hd) hz, hcl', hJ _ _ h5⟩
    ·unfold WL at *
     refine fun a Q hs hD he hK => h5 a Q hs hD he (fun a' w' hs' hh => hK a' w' hs' ?_)
     obtain ⟨hDD, v, hv, h6⟩ := hh
     exact ⟨hDD, by rw [hv]; exact a8a hN hz, hcl', hJ _ _ h6⟩
   rcases hM with ⟨hfa, hfc, hMA, hMB⟩ | ⟨hfa, hMA⟩ | ⟨hfc, hMB⟩
   ·by_cases hia : i = a
    ·exact one ixA a c (fun f e w => (f a = false ∧ f c = false ∧ WN P r N l C pur n D (t5a ixA f) e w ∧ WN P r N l C pur n D (t5a ixB f) e w) ∨ (f a = true ∧ WN P r N l C pur n D (t5a ixA f) e w) ∨ (f c = true ∧ WN P r N l C pur n D (t5a ixB f) e w)) hndA (inA i hil) hoA (fun h => absurd (hia.symm.trans h) hne) hMA (fun e' w' h => .inr (.inl ⟨by simp [hia], h⟩))
    by_cases hic : i = c
    ·exact one ixB c a (fun f e w => (f a = false ∧ f c = false ∧ WN P r N l C pur n D (t5a ixA f) e w ∧ WN P r N l C pur n D (t5a ixB f) e w) ∨ (f a = true ∧ WN P r N l C pur n D (t5a ixA f) e w) ∨ (f c = true ∧ WN P r N l C pur n D (t5a ixB f) e w)) hndB (inB i hil) hoB (fun h => absurd h hia) hMB (fun e' w' h => .inr (.inr ⟨by simp [hic], h⟩))
    have hpi : pur i = true := by
     have := List.all_eq_true.1 hlo i (List.mem_range.2 hil)
     simp only [Bool.or_eq_true, beq_iff_eq, hia, hic, or_false, Bool.and_eq_true, List.contains_eq_mem, decide_eq_true_eq] at this
     rcases this with h | h
     ·exact h
     ·have := hwt a h.1; rw [hfa] at this; cases this
    obtain ⟨hN, h5⟩ := WN.step hpl hndA hoA hcl (inA i hil) ho hfi hpr (fun h => absurd h hic) hz hMA
    obtain ⟨-, h6⟩ := WN.step hpl hndB hoB hcl (inB i hil) ho hfi hpr (fun h => absurd h hia) hz hMB
    have hCw := hMA.inC
    rcases h5 with ⟨_, d, v, hd, hv, h5⟩ | ⟨hp', _⟩
    rotate_left
    ·rw [hpi] at hp'; cases hp'
    rcases h6 with ⟨_, d', v', hd', hv', h6⟩ | ⟨hp', _⟩
    rotate_left
    ·rw [hpi] at hp'; cases hp'
    obtain rfl : d' = d := Option.some.inj (hd'.symm.trans hd)
    obtain rfl : v' = v := PV.uniq hCw hv' hv
    have hfa' : (f a || a == i) = false := by simp [hfa]; exact fun e => hia e.symm
    have hfc' : (f c || c == i) = false := by simp [hfc]; exact fun e => hic e.symm
    rcases hv with ⟨hww, hv⟩ | ⟨hww, rfl⟩
    ·unfold WL; intro a Q hs hD he hK
     simp only [wpListIn]
     have hw' : Region.wanted o (yielded l.toArray a.tmps) = true := by rw [g1a, he]; exact hww
     simp only [hw', if_true]
     refine ⟨u0a _ _ _, ?_⟩
     rw [Oper.semAt_eq _ _ _ (z0a hpl ho).2, c2a, he, hv w hCw, Oper.uponIn_value]
     refine hK _ _ (by rw [V4a, hs]) ⟨by rw [y2a, hD], ?_⟩
     rw [hd, W0a v' (by rw [hs]; exact hN d' hd), he]
     exact ⟨H1a (hN d' hd) hz, hcl', .inl ⟨hfa', hfc', h5, h6⟩⟩
    ·unfold WL; intro a Q hs hD he hK
     simp only [wpListIn]
     have hw' : Region.wanted o (yielded l.toArray a.tmps) = false := by rw [g1a, he]; exact hww
     simp only [hw']
     refine ⟨u0a _ _ _, ?_⟩
     refine hK _ _ (by rw [V4a, hs]) ⟨by rw [y2a, hD], ?_⟩
     rw [hd, W0a undef (by rw [hs]; exact hN d' hd), he]
     exact ⟨H1a (hN d' hd) hz, hcl', .inl ⟨hfa', hfc', h5, h6⟩⟩
   ·exact one ixA a c (fun f e w => (f a = false ∧ f c = false ∧ WN P r N l C pur n D (t5a ixA f) e w ∧ WN P r N l C pur n D (t5a ixB f) e w) ∨ (f a = true ∧ WN P r N l C pur n D (t5a ixA f) e w) ∨ (f c = true ∧ WN P r N l C pur n D (t5a ixB f) e w)) hndA (inA i hil) hoA (fun _ => hfa) hMA (fun e' w' h => .inr (.inl ⟨by simp [hfa], h⟩))
   ·exact one ixB c a (fun f e w => (f a = false ∧ f c = false ∧ WN P r N l C pur n D (t5a ixA f) e w ∧ WN P r N l C pur n D (t5a ixB f) e w) ∨ (f a = true ∧ WN P r N l C pur n D (t5a ixA f) e w) ∨ (f c = true ∧ WN P r N l C pur n D (t5a ixB f) e w)) hndB (inB i hil) hoB (fun _ => hfc) hMB (fun e' w' h => .inr (.inr ⟨by simp [hfc], h⟩))
  ·rintro f e w ⟨hz, hcl, hM⟩ hall
   have rA : t5a ixA f = [] := by
    unfold t5a; rw [List.filter_eq_nil_iff]; intro j hj; simp [hall j (by simpa using List.all_eq_true.1 hbA j hj)]
   have rB : t5a ixB f = [] := by
    unfold t5a; rw [List.filter_eq_nil_iff]; intro j hj; simp [hall j (by simpa using List.all_eq_true.1 hbB j hj)]
   rw [rA, rB] at hM
   rcases hM with ⟨_, _, h, _⟩ | ⟨_, h⟩ | ⟨_, h⟩
   ·exact h.2
   ·exact h.2
   ·exact h.2
 unfold W at *
 intro a hs hd he
 refine hz (fun i hi => ?_) a hs hd he
 rw [← he]; simp only [P0a, Array.getD_eq_getD_getElem?]; rw [Array.getElem?_eq_none (by omega)]; rfl
variable {e : Env} {w : World}
theorem K5b (hC : C w) (h : K D e w) : WN P r N l C pur K D [] e w := ⟨hC, h⟩
theorem G3a {i : Nat} {rest : List Nat} {o : Oper} (hC : C w) (ho : l[i]? = some o) (hp : pur i = true) (hv : P1c o.op = true) (h : QL P N l.toArray C [o] (fun e' => WN P r N l C pur K D rest e' w) e) : WN P r N l C pur K D (i :: rest) e w := by
 unfold QL at h
 obtain ⟨pa, hl, hq, hk⟩ := h
 obtain ⟨d, v, h1, h2, h3, h4⟩ := hq 0 o rfl
 obtain rfl : pa = [(d, v)] := by
  match pa, hl, h1 with
  | [x], _, h1 => simpa using h1
 refine ⟨hC, o, ho, fun d' hd' => by rw [h2] at hd'; cases hd'; exact h3, .inl ⟨hp, d, v, h2, ?_, hk⟩⟩
 rcases h4 with ⟨h5, h6⟩ | h5
 ·refine .inl ⟨h5, fun w hw => ?_⟩
  rcases h6 w hw with h7 | ⟨f, args, h7, _⟩
  ·exact h7
  ·obtain ⟨_, hv'⟩ := K6a hv h7; cases hv'
 ·exact .inr h5
theorem j6b {i : Nat} {rest : List Nat} {o : Oper} (hC : C w) (ho : l[i]? = some o) (hp : pur i = false) (hN : (o.dst.all fun d => Nat.ble (d + 1) N) = true)
 (h : WL P r N l.toArray [o] (fun D' e' w' => D' = D ∧ WN P r N l C pur K D rest e' w') D e w) : WN P r N l C pur K D (i :: rest) e w :=
 ⟨hC, o, ho, fun d hd => by rw [hd] at hN; exact Nat.le_of_ble_eq_true (by simpa using hN), .inr ⟨hp, h⟩⟩
end
def N5a (M : List Nat) (w : World) (cs : List Value) (x : u2a) : Prop := ∃ ys, cs = ys ++ [.int .i64 x.frm, .int .i64 x.ch.thread, .int .i64 x.ch.step, .int .i64 x.ch.cell] ∧ t0a M w x.conf ys ∧ i64 x.frm ∧ R1a [.int .i64 x.ch.thread, .int .i64 x.ch.step, .int .i64 x.ch.cell] x.ch
theorem N5a.open_ {M : List Nat} {w : World} {cs : List Value} {x : u2a} (h : N5a M w cs x) : ∃ Am nm cm Aa na ca Ab nb cb, cs = [.slice Am nm cm, .slice Aa na ca, .slice Ab nb cb, .int .i64 x.frm, .int .i64 x.ch.thread, .int .i64 x.ch.step, .int .i64 x.ch.cell] ∧ t0a M w x.conf [.slice Am nm cm, .slice Aa na ca, .slice Ab nb cb] ∧ i64 x.frm ∧ R1a [.int .i64 x.ch.thread, .int .i64 x.ch.step, .int .i64 x.ch.cell] x.ch := by
 obtain ⟨_, rfl, h1, h2, h3⟩ := h
 obtain ⟨Am, nm, cm, Aa, na, ca, Ab, nb, cb, rfl, -⟩ := h1.open_
 exact ⟨Am, nm, cm, Aa, na, ca, Ab, nb, cb, rfl, h1, h2, h3⟩
theorem N5a.keep {M : List Nat} {w w' : World} {cs : List Value} {x : u2a} (hk : w0a M w w') (h : N5a M w cs x) : N5a M w' cs x := by
 obtain ⟨ys, h0, h1, h2⟩ := h
 exact ⟨ys, h0, h1.keep hk, h2⟩
theorem N5a.more {M M' : List Nat} {w : World} {cs : List Value} {x : u2a} (hM : ∀ g ∈ M', g ∈ M ∨ w.heap.size ≤ g) (h : N5a M w cs x) : N5a M' w cs x := by
 obtain ⟨ys, h0, h1, h2⟩ := h
 exact ⟨ys, h0, h1.more hM, h2⟩
theorem e1b : a5a N5a 7 where
 len h := by
  obtain ⟨Am, nm, cm, Aa, na, ca, Ab, nb, cb, rfl, -⟩ := h.open_; rfl
 one h u hu := by
  obtain ⟨Am, nm, cm, Aa, na, ca, Ab, nb, cb, rfl, -⟩ := h.open_
  simp at hu; rcases hu with rfl | rfl | rfl | rfl | rfl | rfl | rfl <;> rfl
 keep hk h := h.keep hk
 more hM h := h.more hM
theorem v8a (ns : List Int) : (H3a ns).size = ns.length := by
 show (ns.foldl (fun r n => r.push (UInt8.ofNat n.toNat)) ByteArray.empty).data.size = _
 rw [← Array.length_toList, n4a, List.length_append, List.length_map]
 exact Nat.zero_add _
def r4b (V : List u2a) : List (Value × Value) := V.map fun x => (.string (y7b x.conf), .bool true)
theorem d7b (V : List u2a) (x : u2a) : r4b (V ++ [x]) = r4b V ++ [(.string (y7b x.conf), .bool true)] := by simp [r4b]
theorem b7b {V : List u2a} {k v : Value} (h : (k, v) ∈ r4b V) : v = .bool true := by
 obtain ⟨_, _, he⟩ := List.mem_map.1 h
 exact (Prod.mk.inj he).2.symm
theorem w7b {p : f0a} {V : List u2a} {x : u2a} (hp : b1a p) (hV : ∀ y ∈ V, D3a p y.conf) (hx : D3a p x.conf) {v : Value} (h : (Value.string (y7b x.conf), v) ∈ r4b V) : z2a V x = V := by
 obtain ⟨y, hy, he⟩ := List.mem_map.1 h
 have h1 : y7b y.conf = y7b x.conf := by injection (Prod.mk.inj he).1
 unfold z2a
 rw [if_pos]
 exact List.mem_map.2 ⟨y, hy, S2c hp (hV y hy) hx h1⟩
theorem D7b {V : List u2a} {x : u2a} (h : ∀ y ∈ r4b V, y.1 ≠ Value.string (y7b x.conf)) : z2a V x = V ++ [x] := by
 unfold z2a
 rw [if_neg]
 intro hh
 obtain ⟨y, hy, he⟩ := List.mem_map.1 hh
 refine h _ (List.mem_map.2 ⟨y, hy, rfl⟩) ?_
 show Value.string (y7b y.conf) = _
 rw [he]
theorem St.base (M : List Nat) (w : World) : St M w w [] := ⟨v0a.refl _ _, by simp, by simp⟩
theorem St.pushO {M : List Nat} {w0 w : World} {L : List Ent} (S : St M w0 w L) {G : Option Nat} {t : TypeId} {cs : List Value} (h0 : G = none → cs = []) (hg : ∀ g, G = some g → p0a w (g, t, cs)) (hM : ∀ g, G = some g → g ∈ M) (hne : ∀ g, G = some g → ∀ b ∈ L, b.1 ≠ some g) : St M w0 w ((G, t, cs) :: L) := by
 cases G with
 | none => rw [h0 rfl]; exact S.nilEnt t
 | some g => exact S.push (hg g rfl) (.inr (hM g rfl)) (hne g rfl)
theorem Q1a.grow {α : Type} {R : List Nat → World → List Value → α → Prop} {size : Nat} (hL : a5a R size) {M M' Bs : List Nat} {w w' : World} {G : Option Nat} {cs : List Value} {v : Value} {l : List α} (h : Q1a R size M w G cs v l) (hk : w0a Bs w w') (hB : ∀ g ∈ Bs, g ∈ G.toList ++ M) (hM : ∀ g ∈ M', g ∈ G.toList ++ M ∨ w.heap.size ≤ g) : Q1a R size M' w' G cs v l := by
 obtain ⟨css, q1, q2, q3, q4⟩ := h
 refine ⟨css, q1, q2, q3, fun i x hi => ?_⟩
 obtain ⟨c, h5, h6⟩ := q4 i x hi
 refine ⟨c, h5, ?_⟩
 have h7 : R (Bs ++ (G.toList ++ M')) w c x := hL.more (fun g hg => by
  rcases List.mem_append.1 hg with hg | hg
  ·exact .inl (hB g hg)
  ·rcases List.mem_append.1 hg with hg | hg
   ·exact .inl (List.mem_append_left _ hg)
   ·exact hM g hg) h6
 exact hL.more (fun g hg => .inl (List.mem_append_right _ hg)) (hL.keep (hk.mono (fun g hg => List.mem_append_left _ hg)) h7)
theorem q1a {M : List Nat} {w w' : World} {b : Blk} (hk : w0a M w w') (hm : b.1 ∉ M) (h : p0a w b) : p0a w' b := by
 have := h.lt
 unfold p0a at *; rw [hk.same _ this hm]; exact h
theorem s1b {α : Type} {R : List Nat → World → List Value → α → Prop} {size : Nat} {M : List Nat} {w : World} {cs : List Value} {v : Value} {l : List α} (h : Q1a R size M w none cs v l) : l = [] := by
 obtain ⟨_, _, _, ⟨_, hr⟩, _⟩ := h
 rcases hr with ⟨_, _, h0⟩ | ⟨g, cap, hg, _⟩
 ·exact List.length_eq_zero_iff.1 h0
 ·cases hg
theorem v0a.nilK {M : List Nat} {w w' : World} (h : v0a M w w') (k : w0a [] w w') : v0a [] w w' := ⟨h.os, h.tape, h.output, h.size, k.same⟩
theorem Q1a.rdG {α : Type} {R : List Nat → World → List Value → α → Prop} {size : Nat} {M M' : List Nat} {w0 w : World} {L : List Ent} {k el : Nat} {G : Option Nat} {cs : List Value} {v : Value} {l : List α} (h : Q1a R size M w G cs v l) (S : St M' w0 w L) (hk : L[k]? = some (G, el, cs)) (hM : ∀ g, G = some g → g ∉ M) (hl : l.length ≤ 1000000) : RdS M w size (R (G.toList ++ M) w) v l := by
 obtain ⟨css, h1, h2, ⟨_, hr⟩, h4⟩ := h
 rcases hr with ⟨rfl, rfl, h0⟩ | ⟨g, cap, rfl, rfl, q1, q2, q3, q4⟩
 ·exact ⟨none, 0, 0, rfl, by omega, by omega, by unfold maxLen; omega, by omega, fun h => absurd h (by omega)⟩
 ·refine ⟨_, _, _, rfl, rfl, q1, q2, by omega, fun _ => ⟨g, 0, rfl, hM g rfl, fun i x hi => ?_⟩⟩
  obtain ⟨c, h5, h6⟩ := h4 i x hi
  refine ⟨c, h2 c (List.mem_of_getElem? h5), fun j u hj => ?_, h6⟩
  have hf := T2c css i c h2 h5 j u hj
  have hlt : i * size + j < l.length * size := by
   have := (List.getElem?_eq_some_iff.1 hf).1
   rw [x3a css h2, h1] at this; exact this
  rw [← q4, List.getElem?_take, if_pos hlt] at hf
  have := S.cell k hk hf
  simpa using this
theorem v5a {w : World} {g g' t t' : Nat} {cs cs' : List Value} (h : p0a w (g, t, cs)) (h' : p0a w (g', t', cs')) (ht : t ≠ t') : g ≠ g' := by
 rintro rfl
 unfold p0a at h h'
 rw [h] at h'
 simp only [Option.some.injEq] at h'
 cases h'
 exact ht rfl
structure G7b (m : Int) (gseen gmap gP gY gS l : Nat) (c0 c1 c2 c3 : Value) (Bs M0 : List Nat) (w : World) (V : List u2a) (G : Option Nat) (cs : List Value) (v : Value) : Prop where
 seen : p0a w (gseen, 50, [.map (some gmap)])
 map : w2a Tryz.prog 9 w gmap (r4b V)
 ptr : p0a w (gP, 70, [.pointer (some ⟨gS, 0, none⟩)])
 yld : p0a w (gY, 140, [.func (.yield l) #[] #[]])
 blk : p0a w (gS, 73, [c0, c1, c2, c3, .int .i64 m, v])
 row : Q1a N5a 7 (gS :: gmap :: (Bs ++ M0)) w G cs v V
 rown : G = none → cs = []
 rowb : ∀ g, G = some g → p0a w (g, 107, cs)
 ne : ∀ g ∈ [gseen, gmap, gP, gY, gS] ++ G.toList, g ∉ Bs
section
variable {m : Int} {gseen gmap gP gY gS l : Nat} {c0 c1 c2 c3 : Value} {Bs M0 : List Nat} {w : World} {V : List u2a} {G : Option Nat} {cs : List Value} {v : Value}
theorem G7b.st (h : G7b m gseen gmap gP gY gS l c0 c1 c2 c3 Bs M0 w V G cs v) : St (gS :: gmap :: G.toList) w w [(some gS, 73, [c0, c1, c2, c3, .int .i64 m, v]), (G, 107, cs)] :=
 ((St.base _ w).pushO h.rown h.rowb (fun g hg => by rw [hg]; simp) (fun g hg b hb => by simp at hb)).push h.blk (.inr (by simp)) (fun b hb he => by
   simp only [List.mem_singleton] at hb; subst hb
   exact v5a (h.rowb gS he) h.blk (by decide) rfl)
theorem G7b.lt (h : G7b m gseen gmap gP gY gS l c0 c1 c2 c3 Bs M0 w V G cs v) : ∀ g ∈ [gseen, gmap, gP, gY, gS] ++ G.toList, g < w.heap.size := by
 intro g hg
 simp only [List.mem_append, List.mem_cons, List.not_mem_nil, or_false, Option.mem_toList] at hg
 rcases hg with (rfl | rfl | rfl | rfl | rfl) | hg
 ·exact h.seen.lt
 ·exact h.map.lt
 ·exact h.ptr.lt
 ·exact h.yld.lt
 ·exact h.blk.lt
 ·exact (h.rowb g hg).lt
theorem G7b.keep (h : G7b m gseen gmap gP gY gS l c0 c1 c2 c3 Bs M0 w V G cs v) {Bs' : List Nat} {w' : World} (hk : w0a Bs w w') (hB : ∀ g ∈ Bs', g ∈ Bs ∨ w.heap.size ≤ g) : G7b m gseen gmap gP gY gS l c0 c1 c2 c3 Bs' M0 w' V G cs v where
 seen := q1a hk (h.ne _ (by simp)) h.seen
 map := h.map.keep hk (h.ne _ (by simp))
 ptr := q1a hk (h.ne _ (by simp)) h.ptr
 yld := q1a hk (h.ne _ (by simp)) h.yld
 blk := q1a hk (h.ne _ (by simp)) h.blk
 row := h.row.grow e1b hk (fun g hg => by simp [hg]) (fun g hg => by
  simp only [List.mem_cons, List.mem_append] at hg ⊢
  rcases hg with rfl | rfl | hg | hg
  ·simp
  ·simp
  ·rcases hB g hg with h1 | h1
   ·simp [h1]
   ·exact .inr h1
  ·simp [hg])
 rown := h.rown
 rowb := fun g hg => q1a hk (h.ne _ (by simp [hg])) (h.rowb g hg)
 ne := fun g hg hh => by
  rcases hB g hh with h1 | h1
  ·exact h.ne g hg h1
  ·have := h.lt g hg; omega
end
structure v0c (p : f0a) (m : Int) (l gS : Nat) (c0 c1 c2 c3 : Value) (B : Nat) (M0 : List Nat) (wb : World) (J : Nat → List Nat → List Nat → World → Prop) (Q : World → Prop) : Prop where
 own : ∀ k Bs Ts Ts' w w', J k Bs Ts w → (∀ g ∈ Ts, g ∉ Bs ∧ (g = gS ∨ wb.heap.size ≤ g)) → (∀ g ∈ Ts', g ∈ Ts ∨ w.heap.size ≤ g) → v0a Ts w w' → J k Bs Ts' w'
 lt : ∀ k Bs Ts w, J k Bs Ts w → ∀ g ∈ Bs, g < w.heap.size
 each : ∀ k Bs Ts w V v, J k Bs Ts w → (∀ g ∈ Ts, g ∉ Bs ∧ (g = gS ∨ wb.heap.size ≤ g)) → (∀ g ∈ Ts, g < w.heap.size) → E3a p m V → V.length = k + 1 → p0a w (gS, 73, [c0, c1, c2, c3, .int .i64 m, v]) → gS ∉ Bs → RdS (Bs ++ M0) w 7 (N5a (Ts ++ (Bs ++ M0)) w) v V → wb.heap.size ≤ w.heap.size →
  Yld Tryz.prog l #[.int .i64 k] w fun r w' => (r = .bool true ∧ k < B ∧ ∃ Bs', J (k + 1) Bs' Ts w' ∧ w0a Bs w w' ∧ ∀ g ∈ Bs', g ∈ Bs ∨ w.heap.size ≤ g) ∨ (r = .bool false ∧ Q w')
theorem p1c (p : f0a) (m : Int) (hp : b1a p) (gseen gmap gP gY gS l : Nat) (c0 c1 c2 c3 : Value) (Bs M0 : List Nat) (B : Nat) (hBB : B ≤ 100000) (wb w0 : World) (J : Nat → List Nat → List Nat → World → Prop) (Q : World → Prop) (hJ : v0c p m l gS c0 c1 c2 c3 B M0 wb J Q) (V : List u2a) (G : Option Nat) (cs : List Value) (v : Value) (x : u2a) (xs : List Value)
 (hS : G7b m gseen gmap gP gY gS l c0 c1 c2 c3 Bs M0 w0 V G cs v) (hk : J V.length Bs (gS :: gmap :: G.toList) w0) (hX : N5a (gS :: gmap :: (G.toList ++ (Bs ++ M0))) w0 xs x) (hV : ∀ y ∈ V, D3a p y.conf) (hx : D3a p x.conf) (hvis : E3a p m (z2a V x)) (hB : V.length ≤ B) (hlow : ∀ g ∈ gS :: gmap :: G.toList, g = gS ∨ wb.heap.size ≤ g) (hwb : wb.heap.size ≤ w0.heap.size) (hM0 : ∀ g ∈ M0, g < w0.heap.size ∧ g ∉ G.toList) :
 M0a Tryz.prog 79 #[.agg xs.toArray, .pointer (some ⟨gseen, 0, none⟩), .pointer (some ⟨gP, 0, none⟩), .pointer (some ⟨gY, 0, none⟩)] w0 fun r w' => (r = .bool true ∧ ∃ Bs' G' cs' v', G7b m gseen gmap gP gY gS l c0 c1 c2 c3 Bs' M0 w' (z2a V x) G' cs' v' ∧ J (z2a V x).length Bs' (gS :: gmap :: G'.toList) w' ∧ w0a (gS :: gmap :: (G.toList ++ Bs)) w0 w' ∧ (∀ g ∈ Bs', g ∈ Bs ∨ w0.heap.size ≤ g) ∧ (∀ g ∈ G'.toList, g ∈ G.toList ∨ w0.heap.size ≤ g) ∧ (z2a V x).length ≤ B) ∨ (r = .bool false ∧ Q w') := by
 obtain ⟨_, _, _, _, _, _, _, _, _, rfl, hXc, _, _⟩ := hX.open_
 have S := hS.st
 have k1 := hS.seen.cell (o := 0) rfl
 have k2 := hS.ptr.cell (o := 0) rfl
 have k3 := hS.yld.cell (o := 0) rfl
 have hG : ∀ g, G = some g → g ≠ gseen ∧ g ≠ gP ∧ g ≠ gY := fun g hg => ⟨v5a (hS.rowb g hg) hS.seen (by decide), v5a (hS.rowb g hg) hS.ptr (by decide), v5a (hS.rowb g hg) hS.yld (by decide)⟩
 have hTs : ∀ g ∈ gS :: gmap :: G.toList, g ∉ Bs ∧ (g = gS ∨ wb.heap.size ≤ g) := fun g hg => ⟨hS.ne g (by simp at hg ⊢; grind), hlow g hg⟩
 have nGm : gmap ∉ G.toList := fun hh => by simp only [Option.mem_toList] at hh; exact hS.map.ne (hS.rowb _ hh) rfl
 have n1 : gseen ∉ gS :: gmap :: G.toList := fun hh => by
  simp only [List.mem_cons, Option.mem_toList] at hh
  rcases hh with hh | hh | hh
  ·exact v5a hS.seen hS.blk (by decide) hh
  ·exact hS.map.ne hS.seen hh.symm
  ·exact (hG _ hh).1 rfl
 have n2 : gP ∉ gS :: gmap :: G.toList := fun hh => by
  simp only [List.mem_cons, Option.mem_toList] at hh
  rcases hh with hh | hh | hh
  ·exact v5a hS.ptr hS.blk (by decide) hh
  ·exact hS.map.ne hS.ptr hh.symm
  ·exact (hG _ hh).2.1 rfl
 have n3 : gY ∉ gS :: gmap :: G.toList := fun hh => by
  simp only [List.mem_cons, Option.mem_toList] at hh
  rcases hh with hh | hh | hh
  ·exact v5a hS.yld hS.blk (by decide) hh
  ·exact hS.map.ne hS.yld hh.symm
  ·exact (hG _ hh).2.2 rfl
 refine a0a Tryz.func79 rfl Tryz.ntmps79 rfl ?_
 refine wO0 rfl ⟨⟩ (j0a S (by conv => lhs; whnf) rfl ?_)
 intro g4 w4 S4 X4 G4
 refine lO S4.k [.o 0] rfl ⟨rfl,⟨⟩⟩ ?_
 refine B0a S4 d8c rfl rfl (Z6c p hp x.conf hx _ _ _ (hXc.keep (S4.keepM.mono (fun g hg => by simp at hg ⊢; grind)))) ?_
 rintro v9 w9 ⟨rfl, _⟩ S9 X9
 have hkey : keyOf Tryz.prog 9 (.string (y7b x.conf)) = some (.string (y7b x.conf).data.toList) := Go.WideMaps.keyOf_string_mk Tryz.underlying9 (by unfold y7b; rw [v8a]; unfold maxLen; omega)
 have hmap := (hS.map.keep X4 (by simp)).keep X9 (by simp)
 refine lO0 rfl ⟨⟩ (s0a w8b rfl (by exact S9.oldM n1 k1) rfl ?_)
 refine lO0 rfl ⟨⟩ (d3b (Go.Maps.string_keyed Tryz.underlying9) Tryz.underlying50 d9c hmap rfl rfl hkey rfl (fun v12 hv12 => ?_) (fun hn12 => ?_))
 obtain rfl := b7b hv12
 ·refine lR0 rfl ⟨⟩ (r0a rfl (by conv => lhs; whnf) ?_)
  rw [w7b hp hV hx hv12]
  exact .inl ⟨rfl, Bs, G, cs, v, hS.keep ((X4.trans X9).mono (by simp)) (fun g hg => .inl hg), hJ.own V.length Bs _ _ w0 _ hk hTs (fun g hg => .inl hg) S9.below, (X4.trans X9).mono (by simp), fun g hg => .inl hg, fun g hg => .inl hg, hB⟩
 refine lO0 rfl ⟨⟩ (s0a w8b rfl (by exact S9.oldM n1 k1) rfl ?_)
 refine lO0 rfl ⟨⟩ (e7a S9 (Go.Maps.string_keyed Tryz.underlying9) Tryz.underlying50 hmap rfl rfl rfl hkey hn12 (.inr (by simp)) ?_)
 intro wm Sm Xm Mm
 refine lC0 rfl ⟨⟩ (K0b b0a (fun i => [0, 1, 2, 3, 4, 5, 8, 9].contains i) [0, 1, 2, 3, 4, 5, 6, 7, 8, 9] 10 (by kernel_rfl) (by kernel_rfl) (clF (A := [_, _]) (R := [(G, 107, cs)]) Sm G.toList) _ rfl ?_)
 have SR5 := Sm.drew
 have YR5 : w0a [] wm wm.drew := F2a _ _
 generalize wm.drew = wR5 at SR5 YR5 ⊢
 have XR5 : w0a (G.toList) _ _ := YR5.of_nil
 refine N1a ⟨(St.front (A := [_, _]) SR5), XR5⟩ rfl rfl rfl ?_
 refine h0a p4a rfl (fun w1 hw => by exact hw.1.oldM n2 k2) rfl ?_
 refine d0a ?_
 refine N1a ⟨(St.front (A := [_, _]) SR5), XR5⟩ rfl rfl rfl ?_
 refine h0a p4a rfl (fun w1 hw => by exact hw.1.oldM n2 k2) rfl ?_
 refine d0a ?_
 refine N1a ⟨(St.front (A := [_, _]) SR5), XR5⟩ rfl rfl rfl ?_
 refine U2a rfl rfl ?_
 refine d0a ?_
 refine N1a ⟨(St.front (A := [_, _]) SR5), XR5⟩ rfl rfl rfl ?_
 refine F0a e4b rfl rfl ?_
 refine d0a ?_
 refine N1a ⟨(St.front (A := [_, _]) SR5), XR5⟩ rfl rfl rfl ?_
 refine h0a g7a rfl (fun w1 hw => by exact hw.1.cell 1 rfl rfl) rfl ?_
 refine d0a ?_
 refine N1a ⟨(St.front (A := [_, _]) SR5), XR5⟩ rfl rfl rfl ?_
 refine I1a O5b rfl (fun w1 hw => hw.1.cells 0 rfl) rfl rfl ?_
 refine d0a ?_
 refine T9a ⟨(St.front (A := [_, _]) SR5), XR5⟩ rfl rfl rfl rfl ?_
 refine E0a SR5 A8b (vs := [.agg _]) (cs := [_, _, _, _, _, _, _]) (by rfl) rfl rfl rfl rfl rfl rfl ?_
 intro g21 w21 S21 X21 G21
 have XCw21 := XR5.trans (X21.mono (by simp))
 refine S0a ⟨rfl, ?_⟩
 refine T9a ⟨(St.front (A := [_, _, _]) S21).tail, XCw21⟩ rfl rfl rfl rfl ?_
 have Mm1 := Mm.keep XCw21 nGm
 have hrow := hS.row.keep e1b (S21.keepM.mono (fun g hg => by simp at hg ⊢; grind))
 have hXv := (hX.more (M' := G.toList ++ (gS :: gmap :: (Bs ++ M0))) (fun g hg => by simp at hg ⊢; grind)).keep (S21.keepM.mono (fun g hg => by simp at hg ⊢; grind))
 refine C1a e1b (k := 3) (M2 := gS :: gmap :: (Bs ++ M0)) (e1 := x) S21 A8b (by decide) rfl hrow rfl rfl (S21.cells 0 rfl) hXv (by omega) rfl ?_
 intro v22 G22 cs22 w22 S22' hrow22 X22 F22
 have S22 := S22'.tail
 have XC22 := XCw21.trans X22
 have Mm2 := Mm1.keep X22 (fun hh => by simp only [Option.mem_toList] at hh; exact hS.map.ne (hS.rowb _ hh) rfl)
 have z21 := XCw21.size
 have z22 := X22.size
 obtain ⟨A22, c22, rfl⟩ := hrow22.form
 refine S0a ⟨rfl, ?_⟩
 refine N1a ⟨(St.front (A := [_, _]) S22), XC22⟩ rfl rfl rfl ?_
 refine U2a rfl rfl ?_
 refine d0a ?_
 refine N1a ⟨(St.front (A := [_, _]) S22), XC22⟩ rfl rfl rfl ?_
 refine F0a e4b rfl rfl ?_
 refine d0a ?_
 refine W5a ⟨(St.front (A := [_, _]) S22), XC22⟩ ?_
 refine I0a (kk := 1) S22 o9c rfl (by conv => lhs; whnf) rfl rfl (by exact Nat.le_of_ble_eq_true rfl) ?_
 intro w5_10 S5_10 X5_10
 refine S0a ⟨rfl, ?_⟩
 have zl : (V ++ [x]).length ≤ 100001 := by simp; omega
 have e1 : (((V ++ [x]).length : Nat) : Int) - 1 = (V.length : Nat) := by simp
 refine fC0 rfl ⟨⟩ (D0a b0a [0, 1, 2, 3, 4, 5, 6] [] [7, 8] (by kernel_rfl) rfl (Cl _ _ _ _) (Cl.start S5_10) ?_)
 refine h0a q9a rfl (fun w1 hw => by exact hw.1.oldM n3 k3) rfl ?_
 refine h0a p4a rfl (fun w1 hw => by exact hw.1.oldM n2 k2) rfl ?_
 refine qO0 rfl ⟨⟩ (h0a g7a rfl (fun w1 hw => by exact hw.1.cell 1 rfl rfl) rfl ?_)
 refine qD rfl ⟨by omega,⟨⟩⟩ ?_
 rintro wR6 ⟨SR6, XR6⟩
 have eV := D7b hn12
 rw [eV] at hvis ⊢
 have Mm3 := (Mm2.keep X5_10 (fun hh => by rw [List.mem_singleton] at hh; exact hS.map.ne hS.blk hh)).keep XR6 (by simp)
 have hrw := hrow22.keep e1b ((X5_10.trans XR6.of_nil).mono (fun g hg => by simp at hg ⊢; grind))
 have hG22 : ∀ g ∈ G22.toList, g ∈ G.toList ∨ w0.heap.size ≤ g := fun g hg => by
  rcases F22 g hg with h | h
  ·exact .inl h
  ·right; have := Sm.size; omega
 have hS32 : G7b m gseen gmap gP gY gS l c0 c1 c2 c3 Bs M0 wR6 (V ++ [x]) G22 cs22 (.slice A22 (V ++ [x]).length c22) := by
  refine ⟨q1a SR6.keepM n1 hS.seen, by rw [d7b]; exact Mm3, q1a SR6.keepM n2 hS.ptr, q1a SR6.keepM n3 hS.yld, SR6.blk 1 rfl, hrw, ?_, fun g hg => SR6.blk 2 (by rw [hg]; rfl), fun g hg hh => ?_⟩
  ·rintro rfl
   exact absurd (s1b hrw) (by simp)
  ·simp only [List.mem_append, Option.mem_toList] at hg
   rcases hg with hg | hg
   ·exact hS.ne g (List.mem_append_left _ hg) hh
   ·rcases hG22 g (by simpa using hg) with h | h
    ·exact hS.ne g (List.mem_append_right _ h) hh
    ·have := hJ.lt _ _ _ _ hk g hh; omega
 have hJ32 := hJ.own V.length Bs (gS :: gmap :: G.toList) (gS :: gmap :: G22.toList) w0 wR6 hk hTs (fun g hg => by
  simp only [List.mem_cons] at hg ⊢
  rcases hg with rfl | rfl | hg
  ·simp
  ·simp
  ·rcases hG22 g hg with h | h
   ·simp [h]
   ·exact .inr h) SR6.below
 have hrd : RdS (Bs ++ M0) wR6 7 (N5a ((gS :: gmap :: G22.toList) ++ (Bs ++ M0)) wR6) (.slice A22 (V ++ [x]).length c22) (V ++ [x]) := by
  have hM22 : ∀ g, G22 = some g → g ∉ gS :: gmap :: (Bs ++ M0) := fun g hg hh => by
   have hg2 := hS32.rowb g hg
   simp only [List.mem_cons, List.mem_append] at hh
   rcases hh with rfl | rfl | hh | hh
   ·exact v5a hg2 hS32.blk (by decide) rfl
   ·exact hS32.map.ne hg2 rfl
   ·exact hS32.ne g (by simp [hg]) hh
   ·rcases hG22 g (by simp [hg]) with h | h
    ·exact (hM0 g hh).2 h
    ·have := (hM0 g hh).1; omega
  exact RdS.lessW (hrw.rdG SR6 (k := 2) rfl hM22 (by simp; omega)) (fun g hg => by simp at hg ⊢; grind) (fun _ _ => N5a.more (fun g hg => .inl (by simp at hg ⊢; grind)))
 have hY := hJ.each V.length Bs _ wR6 (V ++ [x]) _ hJ32 (fun g hg => ⟨hS32.ne g (by simp at hg ⊢; grind), by
  simp only [List.mem_cons] at hg
  rcases hg with rfl | rfl | hg
  ·exact .inl rfl
  ·exact hlow _ (by simp)
  ·rcases hG22 g hg with h | h
   ·exact hlow g (by simp only [List.mem_cons]; exact .inr (.inr h))
   ·right; omega⟩) (fun g hg => hS32.lt g (by simp at hg ⊢; grind)) hvis (by simp) hS32.blk (hS.ne _ (by simp)) hrd (Nat.le_trans hwb SR6.size)
 rw [← e1] at hY
 refine M3b rfl rfl rfl hY ?_
 rintro v32 w32 (⟨rfl, hlt, Bs', hJ', hK', hF'⟩ | ⟨rfl, hQ⟩)
 ·refine lR0 rfl ⟨⟩ (r0a rfl (by conv => lhs; whnf) ?_)
  refine .inl ⟨rfl, Bs', G22, cs22, _, hS32.keep hK' hF', by simpa using hJ', ?_, fun g hg => ?_, hG22, by simp; omega⟩
  ·exact ((SR6.keepM.mono (fun g hg => by simp at hg ⊢; grind)).trans (hK'.mono (fun g hg => by simp [hg])))
  ·rcases hF' g hg with h | h
   ·exact .inl h
   ·right; have := SR6.size; omega
 refine lR0 rfl ⟨⟩ (r0a rfl (by conv => lhs; whnf) ?_)
 exact .inr ⟨rfl, hQ⟩
theorem t7c {P : Program} {r : Option Nat} {N : Nat} {D : List Deferred} {e : Env} {w : World} {ops : Array Oper} {rest : List Oper} {K : List Deferred → Env → World → Prop} {d : Nat} {t xt yt : TypeId} {p : String} {af : Array Edge} {x y : Operand} {a : Int} {kd : IntKind} {n : Nat} (hx : ev e x = .int .i64 a) (hy : ev e y = .int kd (n : Int)) (hn : n ≤ 62) (hd : Nat.ble (d + 1) N = true) (h : WL P r N ops rest K D (upd e d (.int .i64 (a / ((2 ^ n : Nat) : Int)))) w) :
 WL P r N ops (⟨some d, .binOp .shr xt x y yt, t, p, af, none⟩ :: rest) K D e w :=
 c1a rfl rfl hd (by simp) (by
  have h3 : min n IntKind.i64.bits = n := by simp [IntKind.bits]; omega
  have h6 : ¬ ((n : Int) < 0) := by omega
  have h7 : a.fdiv (2 ^ n) = a / ((2 ^ n : Nat) : Int) := by
   rw [Int.fdiv_eq_ediv_of_nonneg]
   ·simp
   ·exact Int.le_of_lt (Int.pow_pos (by omega))
  simp only [execOp, hx, hy, eqGuard_shr, binOp_shr, Op.shift, h6, if_false, Int.toNat_natCast, h3, h7, Sem.run_bind, Sem.run_pure, Result.andThen_ok]) h
theorem St.callRow {M : List Nat} {w0 w w' : World} {L : List Ent} (S : St M w0 w L) {k t : Nat} {G G' : Option Nat} {cs cs' : List Value} (hk : L[k]? = some (G, t, cs)) (hB : v0a G.toList w w') (hb : ∀ g, G' = some g → p0a w' (g, t, cs')) (hf : ∀ g ∈ G'.toList, g ∈ G.toList ∨ w.heap.size ≤ g) : St M w0 w' (L.set k (G', t, cs')) := by
 have hg : ∀ g ∈ G.toList, w0.heap.size ≤ g ∨ g ∈ M := fun g hg => (S.own _ (List.mem_of_getElem? hk) g (by simpa using hg)).1
 refine S.replace k hk ⟨hB.os.trans S.below.os, hB.tape.trans S.below.tape, hB.output.trans S.below.output, Nat.le_trans S.below.size hB.size, fun i hi hm => ?_⟩ (fun b hb' hne => hB.block b hb' (fun hh => hne (by simpa using hh))) (fun g he => ⟨?_, hb g he, ?_⟩)
 ·exact (hB.block i (Nat.lt_of_lt_of_le hi S.below.size) (fun hh => (hg i hh).elim (fun h => by omega) hm)).trans (S.below.block i hi hm)
 ·rcases hf g (by simp only [Option.mem_toList]; exact he) with h | h
  ·exact hg g h
  ·exact .inl (Nat.le_trans S.size h)
 ·rcases hf g (by simp only [Option.mem_toList]; exact he) with h | h
  ·exact .inl (by simpa using h)
  ·exact .inr h
theorem X6a (a b : List Int) (M : List Nat) (w0 : World) (va vb : Value) (hA : RdI M w0 va a) (hB : RdI M w0 vb b) :
 M0a Tryz.prog 37 #[va, vb] w0 fun v w' => v = .bool (decide (a = b)) ∧ Below w0.heap.size w0 w' := by
 obtain ⟨Aa, na, ca, rfl⟩ := hA.form
 obtain ⟨_, -, _⟩ := hA.len
 obtain ⟨Ab, nb, cb, rfl⟩ := hB.form
 obtain ⟨_, -, _⟩ := hB.len
 have S := St.refl w0
 refine a0a Tryz.func37 rfl Tryz.ntmps37 rfl ?_
 refine wB0 rfl ⟨⟩ (fun h10 => ?_) fun h10 => ?_
 ·refine lR0 rfl ⟨⟩ (r0a rfl (by conv => lhs; whnf) ?_)
  exact ⟨by rw [decide_eq_false (x8b (by omega))], S.fin⟩
 refine lC0 rfl ⟨⟩ (wL (fun μk D ε w => D = [] ∧ ∃ k : Nat, (k + μk = (a.length)) ∧ (N6b a b k) ∧ St [] w0 w [] ∧ Sl ε [(0, .slice Aa na ca), (1, .slice Ab nb cb), (5, .int .i64 k)]) (μ := (a.length)) ⟨rfl, 0, by omega, N6b.zero, S, rfl⟩ ?_)
 rintro μk D ε w ⟨rfl, k, _, he, S, eZ⟩
 refine wK eZ (wB0 rfl ⟨⟩ (fun h14 => ?_) fun h14 => ?_)
 ·refine lC0 rfl ⟨⟩ (D0a b0a [0, 1, 2, 3, 4, 5, 6, 7, 8] [] [] (by kernel_rfl) rfl (Cl _ _ _ _) (Cl.start S) ?_)
  obtain ⟨x, b19, p19, _, hxx, hA19, _, _, hc19, hr19⟩ := RdS.get (hA) (k) (by omega)
  obtain ⟨rfl, _⟩ := id hr19
  obtain ⟨_, b23, p23, _, hxy, hA23, _, _, hc23, hr23⟩ := RdS.get (hB) (k) (by omega)
  obtain ⟨rfl, _⟩ := id hr23
  refine qB ((S.q.a hc23).a hc19) [.x b19 p19,.f 0 0,.x b23 p23,.f 1 0] rfl ⟨rfl,⟨hA23,by omega⟩,rfl,⟨hA19,by omega⟩,⟨⟩⟩ (fun h25 => ?_) fun h25 => ?_
  ·refine qD rfl ⟨⟩ ?_
   rintro wR6 ⟨SR6, XR6⟩
   refine lR0 rfl ⟨⟩ (r0a rfl (by conv => lhs; whnf) ?_)
   exact ⟨by rw [decide_eq_false (E6b hxx hxy h25)], SR6.fin⟩
  refine qD rfl ⟨⟩ ?_
  rintro wR6 ⟨SR6, XR6⟩
  refine lP0 rfl ⟨by omega,⟨⟩⟩ ⟨μk - 1, by omega, rfl, (k + 1), (by omega), (he.succ hxx hxy h25), SR6, rfl⟩
 refine lR0 rfl ⟨⟩ (r0a rfl (by conv => lhs; whnf) ?_)
 exact ⟨by rw [decide_eq_true (he.all (by omega) (by omega))], S.fin⟩
theorem Z0b (c d : q0a) (M : List Nat) (w0 : World) (xs ys : List Value) (hX : t0a M w0 c xs) (hY : t0a M w0 d ys) :
 M0a Tryz.prog 12 #[.agg xs.toArray, .agg ys.toArray] w0 fun v w' => v = .bool (decide (c = d)) ∧ Below w0.heap.size w0 w' := by
 obtain ⟨Xm, xm, ym, Xa, xa, ya, Xb, xb, yb, rfl, hMem, hAt, hBuf, _, _, _, _, _, _⟩ := hX.open_
 obtain ⟨Zm, zm, um, Za, za, ua, Zb, zb, ub, rfl, kMem, kAt, kBuf, _, _, _, _, _, _⟩ := hY.open_
 have S := St.refl w0
 refine a0a Tryz.func12 rfl Tryz.ntmps12 rfl ?_
 refine wO0 rfl ⟨⟩ (j0a S (by conv => lhs; whnf) rfl ?_)
 intro g2 w2 S2 X2 G2
 refine j0a S2 (by conv => lhs; whnf) rfl ?_
 intro g3 w3 S3 X3 G3
 refine lO S3.k [.o 1,.o 0] rfl ⟨rfl,rfl,⟨⟩⟩ (y0a S3 h6b rfl rfl (X6a c.mem d.mem M _ _ _ (hMem.keep (S3.keep0 M)) (kMem.keep (S3.keep0 M))) (fun h11 w11 S11 X11 => ?_) (fun h11 w11 S11 X11 => ?_))
 ·refine lO S11.k [.o 1,.o 0] rfl ⟨rfl,rfl,⟨⟩⟩ (y0a S11 h6b rfl rfl (X6a c.at_ d.at_ M _ _ _ (hAt.keep (S11.keep0 M)) (kAt.keep (S11.keep0 M))) (fun h18 w18 S18 X18 => ?_) (fun h18 w18 S18 X18 => ?_))
  ·refine lB S18.k [.o 1,.o 0] rfl ⟨rfl,rfl,⟨⟩⟩ (fun h28 => ?_) fun h28 => ?_
   ·refine lR0 rfl ⟨⟩ (r0a rfl (by conv => lhs; whnf) ?_)
    exact ⟨by rw [decide_eq_false (fun e : c = d => x8b (a := c.buf) (b := d.buf) (by omega) (by rw [e]))], S18.fin⟩
   refine lC0 rfl ⟨⟩ (wL (fun μk D ε w => D = [] ∧ ∃ k : Nat, (k + μk = (c.buf.length)) ∧ (N6b c.buf d.buf k) ∧ St [] w0 w [(some g3, 38, [.slice Zm zm um, .slice Za za ua, .slice Zb zb ub]), (some g2, 38, [.slice Xm xm ym, .slice Xa xa ya, .slice Xb xb yb])] ∧ Sl ε [(2, .pointer (some ⟨g2, 0, none⟩)), (3, .pointer (some ⟨g3, 0, none⟩)), (5, .int .i64 k)]) (μ := (c.buf.length)) ⟨rfl, 0, by omega, N6b.zero, S18, rfl⟩ ?_)
   rintro μk D ε w ⟨rfl, k, _, he, S, eZ⟩
   refine wK eZ (wB S.k [.o 1] rfl ⟨rfl,⟨⟩⟩ (fun h34 => ?_) fun h34 => ?_)
   ·refine lC0 rfl ⟨⟩ (D0a b0a [0, 1, 2, 3, 4, 5, 6, 7, 8, 9, 10, 11, 12] [] [] (by kernel_rfl) rfl (Cl _ _ _ _) (Cl.start S) ?_)
    obtain ⟨b, b40, p40, _, hxb, hA40, _, _, hc40, hr40⟩ := RdS.get (hBuf) (k) (by omega)
    obtain ⟨_, _, _, rfl, _, _, _⟩ := s5a.open_ hr40
    obtain ⟨b', b46, p46, _, hxb', hA46, _, _, hc46, hr46⟩ := RdS.get (kBuf) (k) (by omega)
    obtain ⟨_, _, _, rfl, _, _, _⟩ := s5a.open_ hr46
    refine qB ((S.q.a hc46).a hc40) [.o 1,.x b40 p40,.f 0 0,.o 0,.x b46 p46,.f 1 0] rfl ⟨rfl,⟨hA46,by omega⟩,rfl,rfl,⟨hA40,by omega⟩,rfl,⟨⟩⟩ (fun h49 => ?_) fun h49 => ?_
    ·refine qD rfl ⟨⟩ ?_
     rintro wR6 ⟨SR6, XR6⟩
     refine lR0 rfl ⟨⟩ (r0a rfl (by conv => lhs; whnf) ?_)
     exact ⟨by rw [decide_eq_false (fun e : c = d => E6b hxb hxb' (x8b (by omega)) (by rw [e]))], SR6.fin⟩
    refine qD rfl ⟨⟩ ?_
    rintro wR6 ⟨SR6, XR6⟩
    refine lC0 rfl ⟨⟩ (wL (fun μj D ε w => D = [] ∧ ∃ j : Nat, (j + μj = (b.length)) ∧ (N6b b b' j) ∧ St [] w0 w [(some g3, 38, [.slice Zm zm um, .slice Za za ua, .slice Zb zb ub]), (some g2, 38, [.slice Xm xm ym, .slice Xa xa ya, .slice Xb xb yb])] ∧ Sl ε [(2, .pointer (some ⟨g2, 0, none⟩)), (3, .pointer (some ⟨g3, 0, none⟩)), (5, .int .i64 k), (6, .int .i64 j)]) (μ := (b.length)) ⟨rfl, 0, by omega, N6b.zero, SR6, rfl⟩ ?_)
    rintro μj D ε w ⟨rfl, j, _, hj2, S, eZ⟩
    refine wK eZ ?_
    obtain ⟨_, b54, p54, _, hx54, hA54, _, _, hc54, hr54⟩ := RdS.get (hBuf) (k) (by omega)
    obtain rfl := Option.some.inj (hxb.symm.trans hx54)
    obtain ⟨_, _, _, rfl, _, _, _⟩ := s5a.open_ hr54
    refine wB (S.k.a hc54) [.o 1,.x b54 p54,.f 0 0] rfl ⟨rfl,⟨hA54,by omega⟩,rfl,⟨⟩⟩ (fun h57 => ?_) fun h57 => ?_
    ·refine lC0 rfl ⟨⟩ (D0a b0a [0, 1, 2, 3, 4, 5, 6, 7, 8, 9, 10, 11, 12, 13, 14, 15, 16, 17, 18, 19, 20, 21, 22, 23, 24, 25, 26, 27, 28, 29, 30, 31, 32, 33, 34, 35, 36, 37, 38, 39, 40, 41] [] [] (by kernel_rfl) rfl (Cl _ _ _ _) (Cl.start S) ?_)
     obtain ⟨_, b63, p63, _, hx63, hA63, _, _, hc63, hr63⟩ := RdS.get (hBuf) (k) (by omega)
     obtain rfl := Option.some.inj (hxb.symm.trans hx63)
     obtain ⟨_, _, _, rfl, hBu63, _, _⟩ := s5a.open_ hr63
     obtain ⟨en, b66, p66, _, hxen, hA66, _, _, hc66, hr66⟩ := RdS.get (hBu63) (j) (by omega)
     obtain ⟨_, _, _, _, _, _, rfl, hCe66, _, _, _, _, _⟩ := V0a.open_ hr66
     obtain ⟨_, b72, p72, _, hx72, hA72, _, _, hc72, hr72⟩ := RdS.get (kBuf) (k) (by omega)
     obtain rfl := Option.some.inj (hxb'.symm.trans hx72)
     obtain ⟨_, _, _, rfl, hBu72, _, _⟩ := s5a.open_ hr72
     obtain ⟨en', b75, p75, _, hxen', hA75, _, _, hc75, hr75⟩ := RdS.get (hBu72) (j) (by omega)
     obtain ⟨_, _, _, _, _, _, rfl, hCe75, _, _, _, _, _⟩ := V0a.open_ hr75
     refine qO ((((S.q.a hc75).a hc72).a hc66).a hc63) [.o 1,.x b63 p63,.f 0 0,.x b66 p66,.f 1 0,.o 0,.x b72 p72,.f 2 0,.x b75 p75,.f 3 0] rfl ⟨rfl,⟨hA75,by omega⟩,rfl,⟨hA72,by omega⟩,rfl,rfl,⟨hA66,by omega⟩,rfl,⟨hA63,by omega⟩,rfl,⟨⟩⟩ (W1a h6b rfl rfl (fun w1 S1 X1 => X6a en.cells en'.cells M _ _ _ (hCe66.keep (S1.keep0 M)) (hCe75.keep (S1.keep0 M))) (fun h78 => ?_) fun h78 => ?_)
     ·obtain ⟨_, b84, p84, _, hx84, hA84, _, _, hc84, hr84⟩ := RdS.get (hBuf) (k) (by omega)
      obtain rfl := Option.some.inj (hxb.symm.trans hx84)
      obtain ⟨_, _, _, rfl, hBu84, _, _⟩ := s5a.open_ hr84
      obtain ⟨_, b87, p87, _, hx87, hA87, _, _, hc87, hr87⟩ := RdS.get (hBu84) (j) (by omega)
      obtain rfl := Option.some.inj (hxen.symm.trans hx87)
      obtain ⟨_, _, _, _, _, _, rfl, _, hVa87, _, _, _, _⟩ := V0a.open_ hr87
      obtain ⟨_, b93, p93, _, hx93, hA93, _, _, hc93, hr93⟩ := RdS.get (kBuf) (k) (by omega)
      obtain rfl := Option.some.inj (hxb'.symm.trans hx93)
      obtain ⟨_, _, _, rfl, hBu93, _, _⟩ := s5a.open_ hr93
      obtain ⟨_, b96, p96, _, hx96, hA96, _, _, hc96, hr96⟩ := RdS.get (hBu93) (j) (by omega)
      obtain rfl := Option.some.inj (hxen'.symm.trans hx96)
      obtain ⟨_, _, _, _, _, _, rfl, _, hVa96, _, _, _, _⟩ := V0a.open_ hr96
      refine qO ((((S.q.a hc96).a hc93).a hc87).a hc84) [.o 1,.x b84 p84,.f 0 0,.x b87 p87,.f 1 1,.o 0,.x b93 p93,.f 2 0,.x b96 p96,.f 3 1] rfl ⟨rfl,⟨hA96,by omega⟩,rfl,⟨hA93,by omega⟩,rfl,rfl,⟨hA87,by omega⟩,rfl,⟨hA84,by omega⟩,rfl,⟨⟩⟩ (W1a h6b rfl rfl (fun w1 S1 X1 => X6a en.values en'.values M _ _ _ (hVa87.keep (S1.keep0 M)) (hVa96.keep (S1.keep0 M))) (fun h99 => ?_) fun h99 => ?_)
      ·refine qD rfl ⟨⟩ ?_
       rintro wR11 ⟨SR11, XR11⟩
       refine lP0 rfl ⟨by omega,⟨⟩⟩ ⟨μj - 1, by omega, rfl, (j + 1), (by omega), (hj2.succ hxen hxen' (G0a.ext' (of_decide_eq_true h78) (of_decide_eq_true h99))), SR11, rfl⟩
      refine qD rfl ⟨⟩ ?_
      rintro wR11 ⟨SR11, XR11⟩
      refine lR0 rfl ⟨⟩ (r0a rfl (by conv => lhs; whnf) ?_)
      exact ⟨by rw [decide_eq_false (fun e : c = d => E6b hxb hxb' (E6b hxen hxen' (fun e' => of_decide_eq_false h99 (by rw [e']))) (by rw [e]))], SR11.fin⟩
     refine qD rfl ⟨⟩ ?_
     rintro wR11 ⟨SR11, XR11⟩
     refine lR0 rfl ⟨⟩ (r0a rfl (by conv => lhs; whnf) ?_)
     exact ⟨by rw [decide_eq_false (fun e : c = d => E6b hxb hxb' (E6b hxen hxen' (fun e' => of_decide_eq_false h78 (by rw [e']))) (by rw [e]))], SR11.fin⟩
    refine lP0 rfl ⟨by omega,⟨⟩⟩ ⟨μk - 1, by omega, rfl, (k + 1), (by omega), (he.succ hxb hxb' (hj2.all (by omega) (by omega))), S, rfl⟩
   refine lR0 rfl ⟨⟩ (r0a rfl (by conv => lhs; whnf) ?_)
   exact ⟨by rw [decide_eq_true (q0a.ext' (of_decide_eq_true h11) (of_decide_eq_true h18) (he.all (by omega) (by omega)))], S.fin⟩
  refine lR0 rfl ⟨⟩ (r0a rfl (by conv => lhs; whnf) ?_)
  exact ⟨by rw [decide_eq_false (fun e => of_decide_eq_false h18 (by rw [e]))], S18.fin⟩
 refine lR0 rfl ⟨⟩ (r0a rfl (by conv => lhs; whnf) ?_)
 exact ⟨by rw [decide_eq_false (fun e => of_decide_eq_false h11 (by rw [e]))], S11.fin⟩
theorem I4a (n : Int) (w0 : World) (G : Option Nat) (cs : List Value) (v : Value) (l : List Int) (hrow : s7b w0 G cs v l) (h0 : G = none → cs = []) (hbG : ∀ g, G = some g → p0a w0 (g, 5, cs)) (hl : l.length ≤ 100000) :
 M0a Tryz.prog 27 #[v, .int .i64 n] w0 fun r w' => ∃ G' cs', s7b w' G' cs' r (l ++ two n) ∧ (G' = none → cs' = []) ∧ (∀ g, G' = some g → p0a w' (g, 5, cs')) ∧ v0a G.toList w0 w' ∧ ∀ g ∈ G'.toList, g ∈ G.toList ∨ w0.heap.size ≤ g := by
 have S : St G.toList w0 w0 [(G, 5, cs)] := (St.base _ w0).pushO h0 hbG (fun g hg => by rw [hg]; simp) (fun g hg b hb => by simp at hb)
 obtain ⟨_, _, rfl⟩ := hrow.form
 have m1 : 0 ≤ n % 256 ∧ n % 256 ≤ 255 := by omega
 have m2 : 0 ≤ n / 256 % 256 ∧ n / 256 % 256 ≤ 255 := by omega
 have b1 : D4b n 255 = n % 256 := by simpa [Y4a] using v9a n 8 (by omega)
 have b2 : D4b (n / ((2 ^ 8 : Nat) : Int)) 255 = n / 256 % 256 := by simpa [Y4a] using v9a (n / 256) 8 (by omega)
 refine a0a Tryz.func27 rfl Tryz.ntmps27 rfl ?_
 refine wO0 rfl ⟨⟩ ?_
 rw [b1]
 refine I5a Tryz.underlying3 Tryz.underlying5 rfl (a := n % 256) m1 rfl ?_
 refine lO0 rfl ⟨⟩ (t7c (n := 8) rfl rfl (by omega) rfl ?_)
 refine lO0 rfl ⟨⟩ ?_
 rw [b2]
 refine I5a Tryz.underlying3 Tryz.underlying5 rfl (a := n / 256 % 256) m2 rfl ?_
 refine E0a S T4a (vs := [.int .u8 _, .int .u8 _]) (cs := [_, _]) (by rfl) rfl rfl rfl rfl rfl rfl ?_
 intro g13 w13 S13 X13 G13
 have z14 := S13.size
 refine V8a o9a (k := 1) (M2 := []) (e1 := n % 256) (e2 := n / 256 % 256) S13 T4a (by decide) rfl (hrow.keep o9a (S13.keepM.mono (fun g hg => by simpa using hg))) rfl rfl (S13.cells 0 rfl) rfl rfl (by omega) rfl ?_
 intro v14 G14 cs14 w14 S14 hrow14 X14 F14
 obtain ⟨_, _, rfl⟩ := hrow14.form
 refine lT rfl ⟨⟩ rfl ?_
 exact ⟨G14, cs14, hrow14, fun h => by subst h; exact absurd (s1b hrow14) (by simp), fun g hg => S14.blk 1 (by rw [hg]; rfl), S14.below, fun g hg => (F14 g hg).imp id (fun h => by omega)⟩
theorem I7b (p : f0a) (hp : b1a p) (c : q0a) (hf : D3a p c) (M : List Nat) (w0 : World) (ys : List Value) (hX : t0a M w0 c ys) :
 M0a Tryz.prog 9 #[.agg ys.toArray] w0 fun v w' => (v = .string (F7b c) ∧ (h5b c).length ≤ 20000) ∧ Below w0.heap.size w0 w' := by
 obtain ⟨Xm, xm, ym, Xa, xa, ya, Xb, xb, yb, rfl, hMem, hAt, hBuf, _, _, _, _, _, _⟩ := hX.open_
 have n1 := hp.ncells
 have n2 := hp.nthreads
 have f1 := hf.mem.len
 have f2 := hf.nat
 have f3 := hf.nbuf
 have S := (St.refl w0).nilEnt 5
 refine a0a Tryz.func9 rfl Tryz.ntmps9 rfl ?_
 refine wO0 rfl ⟨⟩ (j0a S (by conv => lhs; whnf) rfl ?_)
 intro g1 w1 S1 X1 G1
 refine lC0 rfl ⟨⟩ (wL (fun μk D ε w => D = [] ∧ ∃ k : Nat, ∃ G : Option Nat, ∃ cs' : List Value, ∃ v : Value, ∃ l : List Int, (k + μk = (c.mem.length)) ∧ (l.length ≤ 2 * k) ∧ (l = (c.mem.take k).flatMap two) ∧ (s7b w0 G cs' v l) ∧ (G = none → cs' = []) ∧ St [] w0 w [(some g1, 38, [.slice Xm xm ym, .slice Xa xa ya, .slice Xb xb yb]), (G, 5, cs')] ∧ Sl ε [(1, .pointer (some ⟨g1, 0, none⟩)), (3, v), (4, .int .i64 k)]) (μ := (c.mem.length)) ⟨rfl, 0, none, [], .slice none 0 0, [], by omega, by simp, by simp, Q1a.nil, fun _ => rfl, S1, rfl⟩ ?_)
 rintro μk D ε w ⟨rfl, k, G, cs', v, l, hk, _, hq, hrow, h0, S, eZ⟩
 refine wK eZ (wB S.k [.o 0] rfl ⟨rfl,⟨⟩⟩ (fun h14 => ?_) fun h14 => ?_)
 ·refine lOn 8 S.k [] rfl ⟨⟩ (m1a (by conv => lhs; whnf) rfl ?_)
  obtain ⟨n, b21, p21, _, hxn, hA21, _, _, hc21, hr21⟩ := RdS.get (hMem) (k) (by omega)
  obtain ⟨rfl, _⟩ := id hr21
  refine lO (S.k.a hc21) [.o 0,.x b21 p21,.f 0 0] rfl ⟨rfl,⟨hA21,by omega⟩,rfl,⟨⟩⟩ ?_
  refine e2a n0b rfl rfl (I4a n _ _ _ _ _ hrow h0 (fun g hg => S.blk 1 (by rw [hg]; rfl)) (by omega)) ?_
  rintro v23 w23 ⟨_, _, hrow23, h023, hb23, B23, F23⟩
  have S23 := S.callRow (k := 1) rfl B23 hb23 F23
  refine T0a (by conv => lhs; whnf) rfl ?_
  refine lP0 rfl ⟨by omega,⟨⟩⟩ ?_
  refine ⟨μk - 1, by omega, rfl, (k + 1), (_), (_), (_), (l ++ two n), (by omega), (by simp [two]; omega), (by rw [hq, J0a hxn]; simp), (hrow23), (h023), S23, rfl⟩
 have hq0 : l = c.mem.flatMap two := by rw [hq, List.take_of_length_le (by omega)]
 clear hq
 refine lC0 rfl ⟨⟩ (wL (fun μk D ε w => D = [] ∧ ∃ k : Nat, ∃ G : Option Nat, ∃ cs' : List Value, ∃ v : Value, ∃ l2 : List Int, (k + μk = (c.at_.length)) ∧ (l2.length ≤ 80 + 2 * k) ∧ (l2 = (c.mem ++ c.at_.take k).flatMap two) ∧ (s7b w0 G cs' v l2) ∧ (G = none → cs' = []) ∧ St [] w0 w [(some g1, 38, [.slice Xm xm ym, .slice Xa xa ya, .slice Xb xb yb]), (G, 5, cs')] ∧ Sl ε [(1, .pointer (some ⟨g1, 0, none⟩)), (3, v), (5, .int .i64 k)]) (μ := (c.at_.length)) ⟨rfl, 0, G, cs', v, l, by omega, by omega, by simp [hq0], hrow, h0, S, rfl⟩ ?_)
 rintro μk D ε w ⟨rfl, k, G, cs', v, l2, hk, _, hq, hrow, h0, S, eZ⟩
 refine wK eZ (wB S.k [.o 0] rfl ⟨rfl,⟨⟩⟩ (fun h28 => ?_) fun h28 => ?_)
 ·refine lOn 8 S.k [] rfl ⟨⟩ (m1a (by conv => lhs; whnf) rfl ?_)
  obtain ⟨n, b35, p35, _, hxn, hA35, _, _, hc35, hr35⟩ := RdS.get (hAt) (k) (by omega)
  obtain ⟨rfl, _⟩ := id hr35
  refine lO (S.k.a hc35) [.o 0,.x b35 p35,.f 0 0] rfl ⟨rfl,⟨hA35,by omega⟩,rfl,⟨⟩⟩ ?_
  refine e2a n0b rfl rfl (I4a n _ _ _ _ _ hrow h0 (fun g hg => S.blk 1 (by rw [hg]; rfl)) (by omega)) ?_
  rintro v37 w37 ⟨_, _, hrow37, h037, hb37, B37, F37⟩
  have S37 := S.callRow (k := 1) rfl B37 hb37 F37
  refine T0a (by conv => lhs; whnf) rfl ?_
  refine lP0 rfl ⟨by omega,⟨⟩⟩ ?_
  refine ⟨μk - 1, by omega, rfl, (k + 1), (_), (_), (_), (l2 ++ two n), (by omega), (by simp [two]; omega), (by rw [hq, J0a hxn]; simp), (hrow37), (h037), S37, rfl⟩
 have hq0 : l2 = (c.mem ++ c.at_).flatMap two := by rw [hq, List.take_of_length_le (by omega)]
 clear hq
 refine lC0 rfl ⟨⟩ (wL (fun μk D ε w => D = [] ∧ ∃ k : Nat, ∃ G : Option Nat, ∃ cs' : List Value, ∃ v : Value, ∃ l3 : List Int, (k + μk = (c.buf.length)) ∧ (l3.length ≤ 200 + 4000 * k) ∧ (l3 = (c.mem ++ (c.at_ ++ (c.buf.take k).flatMap E2a)).flatMap two) ∧ (s7b w0 G cs' v l3) ∧ (G = none → cs' = []) ∧ St [] w0 w [(some g1, 38, [.slice Xm xm ym, .slice Xa xa ya, .slice Xb xb yb]), (G, 5, cs')] ∧ Sl ε [(1, .pointer (some ⟨g1, 0, none⟩)), (3, v), (6, .int .i64 k)]) (μ := (c.buf.length)) ⟨rfl, 0, G, cs', v, l2, by omega, by omega, by simp [hq0], hrow, h0, S, rfl⟩ ?_)
 rintro μk D ε w ⟨rfl, k, G, cs', v, l3, hk, _, hq, hrow, h0, S, eZ⟩
 refine wK eZ (wB S.k [.o 0] rfl ⟨rfl,⟨⟩⟩ (fun h42 => ?_) fun h42 => ?_)
 ·refine lOn 9 S.k [] rfl ⟨⟩ (m1a (by conv => lhs; whnf) rfl ?_)
  obtain ⟨b, b49, p49, _, hxb, hA49, _, _, hc49, hr49⟩ := RdS.get (hBuf) (k) (by omega)
  obtain ⟨_, nb49, _, rfl, _, _, _⟩ := s5a.open_ hr49
  have q3 := hf.bufs k b hxb
  refine lO (S.k.a hc49) [.o 0,.x b49 p49,.f 0 0] rfl ⟨rfl,⟨hA49,by omega⟩,rfl,⟨⟩⟩ ?_
  refine e2a n0b rfl rfl (I4a (nb49 : Int) _ _ _ _ _ hrow h0 (fun g hg => S.blk 1 (by rw [hg]; rfl)) (by omega)) ?_
  rintro v52 w52 ⟨G52, cs52, hrow52, h052, hb52, B52, F52⟩
  have S52 := S.callRow (k := 1) rfl B52 hb52 F52
  refine T0a (by conv => lhs; whnf) rfl ?_
  refine lC0 rfl ⟨⟩ ?_
  refine wL (fun μj D ε w => D = [] ∧ ∃ j : Nat, ∃ G4 : Option Nat, ∃ cs4 : List Value, ∃ v4 : Value, ∃ l4 : List Int, (j + μj = (b.length)) ∧ (l4.length ≤ 202 + 4000 * k + 130 * j) ∧ (l4 = l3 ++ ((b.length : Int) :: (b.take j).flatMap z4a).flatMap two) ∧ (s7b w0 G4 cs4 v4 l4) ∧ (G4 = none → cs4 = []) ∧ St [] w0 w [(some g1, 38, [.slice Xm xm ym, .slice Xa xa ya, .slice Xb xb yb]), (G4, 5, cs4)] ∧ Sl ε [(1, .pointer (some ⟨g1, 0, none⟩)), (3, v4), (6, .int .i64 k), (7, .int .i64 j)]) (μ := (b.length)) ⟨rfl, 0, G52, cs52, v52, l3 ++ two (nb49 : Int), by omega, by simp [two]; omega, by rw [show (b.length : Int) = nb49 by omega]; simp, hrow52, h052, S52, rfl⟩ ?_
  rintro μj D ε w ⟨rfl, j, G4, cs4, v4, l4, _, _, hq4, hrow4, h04, S, eZ⟩
  refine wK eZ ?_
  obtain ⟨_, b57, p57, _, hx57, hA57, _, _, hc57, hr57⟩ := RdS.get (hBuf) (k) (by omega)
  obtain rfl := Option.some.inj (hxb.symm.trans hx57)
  obtain ⟨_, _, _, rfl, _, _, _⟩ := s5a.open_ hr57
  refine wB (S.k.a hc57) [.o 0,.x b57 p57,.f 0 0] rfl ⟨rfl,⟨hA57,by omega⟩,rfl,⟨⟩⟩ (fun h60 => ?_) fun h60 => ?_
  ·obtain ⟨_, b66, p66, _, hx66, hA66, _, _, hc66, hr66⟩ := RdS.get (hBuf) (k) (by omega)
   obtain rfl := Option.some.inj (hxb.symm.trans hx66)
   obtain ⟨_, _, _, rfl, hBu66, _, _⟩ := s5a.open_ hr66
   obtain ⟨en, b69, p69, _, hxen, hA69, _, hl69, hc69, hr69⟩ := RdS.get (hBu66) (j) (by omega)
   obtain ⟨Ac69, nc69, cc69, Av69, nv69, cv69, rfl, hCe69, hVa69, _, _, _, _⟩ := V0a.open_ hr69
   refine lO ((S.k.a hc69).a hc66) [.o 0,.x b66 p66,.f 0 0,.x b69 p69,.v 1] rfl ⟨⟨rfl,hl69⟩,⟨hA69,by omega⟩,rfl,⟨hA66,by omega⟩,rfl,⟨⟩⟩ (n0a S n9a rfl rfl ?_)
   intro g8 w8 S8 X8 G8
   refine e0a (kk := 0) (vs := [_, _]) S8 Z9a rfl rfl rfl rfl rfl rfl rfl ?_
   intro w17_9 S17_9 X17_9
   dsimp only [k0a, List.set] at S17_9
   refine lOn 4 S17_9.k [] rfl ⟨⟩ (m1a (by conv => lhs; whnf) rfl ?_)
   have q4 := q3.2.1 en (c0a hxen)
   have q5 := q4.len
   have q6 : en.values.length = en.cells.length := q4.even
   refine lO S17_9.k [.o 0] rfl ⟨rfl,⟨⟩⟩ ?_
   refine e2a n0b rfl rfl (I4a (nc69 : Int) _ _ _ _ _ hrow4 h04 (fun g hg => S17_9.blk 2 (by rw [hg]; rfl)) (by omega)) ?_
   rintro v75 w75 ⟨G75, cs75, hrow75, h075, hb75, B75, F75⟩
   have S75 := S17_9.callRow (k := 2) rfl B75 hb75 F75
   refine T0a (by conv => lhs; whnf) rfl ?_
   refine lC0 rfl ⟨⟩ ?_
   refine wL (fun μi D ε w => D = [] ∧ ∃ i : Nat, ∃ G5 : Option Nat, ∃ cs5 : List Value, ∃ v5 : Value, ∃ l5 : List Int, (i + μi = (en.cells.length)) ∧ (l5.length ≤ 204 + 4000 * k + 130 * j + 4 * i) ∧ (l5 = l4 ++ ((en.cells.length : Int) :: ((en.cells.zip en.values).take i).flatMap fun x => [x.1, x.2]).flatMap two) ∧ (s7b w0 G5 cs5 v5 l5) ∧ (G5 = none → cs5 = []) ∧ St [] w0 w [(some g8, 81, [.slice Ac69 nc69 cc69, .slice Av69 nv69 cv69]), (some g1, 38, [.slice Xm xm ym, .slice Xa xa ya, .slice Xb xb yb]), (G5, 5, cs5)] ∧ Sl ε [(1, .pointer (some ⟨g1, 0, none⟩)), (3, v5), (6, .int .i64 k), (7, .int .i64 j), (8, .pointer (some ⟨g8, 0, none⟩)), (9, .int .i64 i)]) (μ := (en.cells.length)) ⟨rfl, 0, G75, cs75, v75, l4 ++ two (nc69 : Int), by omega, by simp [two]; omega, by rw [show (en.cells.length : Int) = nc69 by omega]; simp, hrow75, h075, S75, rfl⟩ ?_
   rintro μi D ε w ⟨rfl, i, G5, cs5, v5, l5, _, _, hq5, hrow5, h05, S, eZ⟩
   refine wK eZ (wB S.k [.o 0] rfl ⟨rfl,⟨⟩⟩ (fun h80 => ?_) fun h80 => ?_)
   ·refine lB S.k [.o 0] rfl ⟨rfl,⟨⟩⟩ (fun h86 => ?_) (fun h86 => by exfalso; omega)
    refine lOn 10 S.k [] rfl ⟨⟩ (m1a (by conv => lhs; whnf) rfl ?_)
    obtain ⟨n, b94, p94, _, hxn, hA94, _, _, hc94, hr94⟩ := RdS.get (hCe69) (i) (by omega)
    obtain ⟨rfl, _⟩ := id hr94
    refine lO (S.k.a hc94) [.o 0,.x b94 p94,.f 0 0] rfl ⟨rfl,⟨hA94,by omega⟩,rfl,⟨⟩⟩ ?_
    refine e2a n0b rfl rfl (I4a n _ _ _ _ _ hrow5 h05 (fun g hg => S.blk 2 (by rw [hg]; rfl)) (by omega)) ?_
    rintro v96 w96 ⟨_, _, hrow96, h096, hb96, B96, F96⟩
    have S96 := S.callRow (k := 2) rfl B96 hb96 F96
    refine T0a (by conv => lhs; whnf) rfl ?_
    refine lOn 3 S96.k [] rfl ⟨⟩ ?_
    obtain ⟨u, hxu⟩ : ∃ u, en.values[i]? = some u := ⟨en.values[i]'(by omega), List.getElem?_eq_getElem _⟩
    refine m1a (by conv => lhs; whnf) rfl ?_
    obtain ⟨_, b101, p101, _, hx101, hA101, _, _, hc101, hr101⟩ := RdS.get (hVa69) (i) (by omega)
    obtain rfl := Option.some.inj (hxu.symm.trans hx101)
    obtain ⟨rfl, _⟩ := id hr101
    refine lO (S96.k.a hc101) [.o 0,.x b101 p101,.f 0 0] rfl ⟨rfl,⟨hA101,by omega⟩,rfl,⟨⟩⟩ ?_
    refine e2a n0b rfl rfl (I4a u _ _ _ _ _ hrow96 h096 (fun g hg => S96.blk 2 (by rw [hg]; rfl)) (by simp [two]; omega)) ?_
    rintro v103 w103 ⟨_, _, hrow103, h0103, hb103, B103, F103⟩
    have S103 := S96.callRow (k := 2) rfl B103 hb103 F103
    refine T0a (by conv => lhs; whnf) rfl ?_
    refine lP0 rfl ⟨by omega,⟨⟩⟩ ?_
    refine ⟨μi - 1, by omega, rfl, (i + 1), (_), (_), (_), ((l5 ++ two n) ++ two u), (by omega), (by simp [two]; omega), (by rw [hq5, J0a (T1b hxn hxu)]; simp), (hrow103), (h0103), S103, rfl⟩
   refine lP0 rfl ⟨by omega,⟨⟩⟩ ?_
   refine ⟨μj - 1, by omega, rfl, (j + 1), (_), (_), (_), (l5), (by omega), (by omega), (by rw [hq5, List.take_of_length_le (show (en.cells.zip en.values).length ≤ i by simp; omega), hq4, J0a hxen]; simp [z4a]), (hrow5), (h05), S.tail, rfl⟩
  refine lP0 rfl ⟨by omega,⟨⟩⟩ ?_
  refine ⟨μk - 1, by omega, rfl, (k + 1), (_), (_), (_), (l4), (by omega), (by omega), (by rw [hq4, List.take_of_length_le (show b.length ≤ j by omega), hq, J0a hxb]; simp [E2a]), (hrow4), (h04), S, rfl⟩
 refine lOn 7 S.k [] rfl ⟨⟩ (m1a (by conv => lhs; whnf) rfl ?_)
 refine q9b S (k := 1) Tryz.underlying77 Tryz.underlying5 Tryz.underlying9 rfl hrow rfl rfl ?_
 refine lR0 rfl ⟨⟩ (r0a rfl (by conv => lhs; whnf) ?_)
 rw [List.take_of_length_le (by omega)] at hq
 have hq' : l3 = h5b c := hq
 refine ⟨⟨?_, ?_⟩, S.fin⟩
 ·rw [hq']; rfl
 ·rw [← hq']; omega
theorem InP.grow {p : f0a} {Bs0 M0 N : List Nat} {w0 w : World} {cs : List Value} (h : InP p (Bs0 ++ M0) w0 cs) (hK : w0a Bs0 w0 w) (hN : ∀ g ∈ N, g ∈ Bs0 ++ M0 ∨ w0.heap.size ≤ g) (hlt : ∀ g ∈ N, g < w.heap.size) : InP p N w cs := by
 have hm : ∀ g ∈ Bs0 ++ N, g ∈ Bs0 ++ M0 ∨ w0.heap.size ≤ g := fun g hg => by
  rcases List.mem_append.1 hg with h | h
  ·exact .inl (List.mem_append_left _ h)
  ·exact hN g h
 have hk : w0a (Bs0 ++ N) w0 w := hK.mono fun g hg => List.mem_append_left _ hg
 exact ⟨((h.rd.more hm).keep hk).less fun g hg => List.mem_append_right _ hg, h.ok, ⟨fun hh => ((h.msk.more hm).keep hk).1 (List.mem_append_right _ hh), ((h.msk.more hm).keep hk).2⟩, hlt⟩
theorem e5b {p : f0a} {m : Int} {c : q0a} (h : L3a (E5a p m) (X0a p) c) (h0 : m = 0) : Q3a c := by
 subst h0
 intro b hb
 obtain ⟨_, h2⟩ := X8b h
 obtain ⟨t, ht, rfl⟩ := List.getElem_of_mem hb
 have := h2 t
 rwa [List.getD_eq_getElem?_getD, List.getElem?_eq_getElem ht] at this
theorem M6a {p : f0a} {m : Int} {c : q0a} (hm : m = 0 ∨ m = 1 ∨ m = 2) (h : L3a (E5a p m) (X0a p) c) : (m = 0 ∧ Q3a c) ∨ m = 1 ∨ m = 2 := by
 rcases hm with h0 | h0 | h0
 ·exact .inl ⟨h0, e5b h h0⟩
 ·exact .inr (.inl h0)
 ·exact .inr (.inr h0)
theorem C5b {A A' M0 : List Nat} {n : Nat} (hA : ∀ g ∈ A', g ∈ A ∨ n ≤ g) : ∀ g ∈ A ++ (A' ++ M0), g ∈ A ++ M0 ∨ n ≤ g := fun g hg => by
 rcases List.mem_append.1 hg with h | h
 ·exact .inl (List.mem_append_left _ h)
 ·rcases List.mem_append.1 h with h | h
  ·rcases hA g h with h | h
   ·exact .inl (List.mem_append_left _ h)
   ·exact .inr h
  ·exact .inl (List.mem_append_right _ h)
theorem t0a.wide {A A' M0 : List Nat} {w w' : World} {c : q0a} {ys : List Value} (h : t0a (A ++ M0) w c ys) (hk : w0a A w w') (hA : ∀ g ∈ A', g ∈ A ∨ w.heap.size ≤ g) : t0a (A' ++ M0) w' c ys :=
 ((h.more (C5b hA)).keep (hk.mono (fun _ hg => List.mem_append_left _ hg))).less (fun _ hg => List.mem_append_right _ hg)
theorem g2c.wide {A A' M0 : List Nat} {w w' : World} {l : List A0a} {v : Value} (h : g2c (A ++ M0) w v l) (hk : w0a A w w') (hA : ∀ g ∈ A', g ∈ A ∨ w.heap.size ≤ g) : g2c (A' ++ M0) w' v l :=
 ((RdS.more h (by omega) (C5b hA)).keep (hk.mono (fun _ hg => List.mem_append_left _ hg))).less (fun _ hg => List.mem_append_right _ hg)
theorem InP.wide {p : f0a} {A A' M0 : List Nat} {w w' : World} {cs : List Value} (h : InP p (A ++ M0) w cs) (hk : w0a A w w') (hA : ∀ g ∈ A', g ∈ A ∨ w.heap.size ≤ g) (hlt : ∀ g ∈ A', g < w'.heap.size) : InP p (A' ++ M0) w' cs :=
 h.grow hk (fun g hg => by
  rcases List.mem_append.1 hg with h | h
  ·rcases hA g h with h | h
   ·exact .inl (List.mem_append_left _ h)
   ·exact .inr h
  ·exact .inl (List.mem_append_right _ h)) (fun g hg => by
  rcases List.mem_append.1 hg with h1 | h1
  ·exact hlt g h1
  ·exact Nat.lt_of_lt_of_le (h.lt g (List.mem_append_right _ h1)) hk.size)
abbrev H8a (gS gmap : Nat) (G : Option Nat) (Bs : List Nat) : List Nat := gS :: gmap :: (G.toList ++ Bs)
structure m2b (p : f0a) (m : Int) (gseen gmap gP gY gS l : Nat) (c0 c1 c2 c3 : Value) (Bs0 M0 : List Nat) (B : Nat) (w0 : World) (J : Nat → List Nat → List Nat → World → Prop) (V : List u2a) (Bs : List Nat) (G : Option Nat) (cs : List Value) (v : Value) (w : World) : Prop where
 srch : G7b m gseen gmap gP gY gS l c0 c1 c2 c3 Bs M0 w V G cs v
 j : J V.length Bs (gS :: gmap :: G.toList) w
 le : V.length ≤ B
 gnew : ∀ g ∈ gmap :: G.toList, w0.heap.size ≤ g
 bnew : ∀ g ∈ Bs, g ∈ Bs0 ∨ w0.heap.size ≤ g
 prog : InP p (H8a gS gmap G Bs ++ M0) w [c0, c1, c2, c3]
 vis : E3a p m V
 old : w0.heap.size ≤ w.heap.size
 m0 : ∀ g ∈ M0, g < w0.heap.size
section
variable {p : f0a} {m : Int} {gseen gmap gP gY gS l : Nat} {c0 c1 c2 c3 : Value} {Bs0 M0 : List Nat} {B : Nat} {w0 : World} {J : Nat → List Nat → List Nat → World → Prop} {Q : World → Prop} {V : List u2a} {Bs : List Nat} {G : Option Nat} {cs : List Value} {v : Value} {w w' : World}
theorem m2b.ts (h : m2b p m gseen gmap gP gY gS l c0 c1 c2 c3 Bs0 M0 B w0 J V Bs G cs v w) : ∀ g ∈ gS :: gmap :: G.toList, g ∉ Bs ∧ (g = gS ∨ w0.heap.size ≤ g) := fun g hg => ⟨h.srch.ne g (by simp at hg ⊢; grind), by
 rcases List.mem_cons.1 hg with rfl | hg
 ·exact .inl rfl
 ·exact .inr (h.gnew g hg)⟩
theorem m2b.later (h : m2b p m gseen gmap gP gY gS l c0 c1 c2 c3 Bs0 M0 B w0 J V Bs G cs v w) (hJ : v0c p m l gS c0 c1 c2 c3 B M0 w0 J Q) (hB : v0a [] w w') : m2b p m gseen gmap gP gY gS l c0 c1 c2 c3 Bs0 M0 B w0 J V Bs G cs v w' :=
 have hk : w0a [] w w' := ⟨hB.size, hB.block⟩
 ⟨h.srch.keep hk.of_nil (fun _ hg => .inl hg), hJ.own _ _ _ _ _ _ h.j h.ts (fun _ hg => .inl hg) ⟨hB.os, hB.tape, hB.output, hB.size, fun k hk' _ => hB.block k hk' (by simp)⟩, h.le, h.gnew, h.bnew, h.prog.keep hk.of_nil, h.vis, Nat.le_trans h.old hB.size, h.m0⟩
theorem m2b.good (h : m2b p m gseen gmap gP gY gS l c0 c1 c2 c3 Bs0 M0 B w0 J V Bs G cs v w) : ∀ y ∈ V, D3a p y.conf := fun _ hy => i4a h.prog.ok (Y6a h.vis hy)
theorem m2b.rd (h : m2b p m gseen gmap gP gY gS l c0 c1 c2 c3 Bs0 M0 B w0 J V Bs G cs v w) (hB : B ≤ 100000) : RdS (gS :: gmap :: (Bs ++ M0)) w 7 (N5a (H8a gS gmap G Bs ++ M0) w) v V := by
 refine (fun hh : RdS (gS :: gmap :: (Bs ++ M0)) w 7 (N5a (G.toList ++ (gS :: gmap :: (Bs ++ M0))) w) v V => hh.mono fun _ _ hr => hr.more (fun g hg => .inl (by simp only [H8a, List.mem_cons, List.mem_append] at hg ⊢; grind))) ?_
 refine Q1a.rdG h.srch.row h.srch.st (k := 1) rfl (fun g hg hh => ?_) (by have := h.le; omega)
 have hb := h.srch.rowb g hg
 simp only [List.mem_cons, List.mem_append] at hh
 rcases hh with rfl | rfl | hh | hh
 ·exact v5a hb h.srch.blk (by decide) rfl
 ·exact h.srch.map.ne hb rfl
 ·exact h.srch.ne g (by simp [hg]) hh
 ·have h1 := h.m0 g hh
  have h2 := h.gnew g (by simp [hg])
  omega
theorem a6b {Bs' : List Nat} {G' : Option Nat} {n : Nat} (hB : ∀ g ∈ Bs', g ∈ Bs ∨ n ≤ g) (hG : ∀ g ∈ G'.toList, g ∈ G.toList ∨ n ≤ g) : ∀ g ∈ H8a gS gmap G' Bs', g ∈ H8a gS gmap G Bs ∨ n ≤ g := fun g hg => by
 simp only [H8a, List.mem_cons, List.mem_append] at hg ⊢
 rcases hg with rfl | rfl | hg | hg
 ·simp
 ·simp
 ·rcases hG g hg with h | h
  ·simp [h]
  ·exact .inr h
 ·rcases hB g hg with h | h
  ·simp [h]
  ·exact .inr h
theorem m2b.next (h : m2b p m gseen gmap gP gY gS l c0 c1 c2 c3 Bs0 M0 B w0 J V Bs G cs v w) (hJ : v0c p m l gS c0 c1 c2 c3 B M0 w0 J Q) {V' : List u2a} {Bs' : List Nat} {G' : Option Nat} {cs' : List Value} {v' : Value} (hS : G7b m gseen gmap gP gY gS l c0 c1 c2 c3 Bs' M0 w' V' G' cs' v') (hj : J V'.length Bs' (gS :: gmap :: G'.toList) w') (hK : w0a (H8a gS gmap G Bs) w w') (hB : ∀ g ∈ Bs', g ∈ Bs ∨ w.heap.size ≤ g) (hG : ∀ g ∈ G'.toList, g ∈ G.toList ∨ w.heap.size ≤ g) (hle : V'.length ≤ B) (hv : E3a p m V') :
 m2b p m gseen gmap gP gY gS l c0 c1 c2 c3 Bs0 M0 B w0 J V' Bs' G' cs' v' w' where
 srch := hS
 j := hj
 le := hle
 gnew := fun g hg => by
  rcases List.mem_cons.1 hg with rfl | hg
  ·exact h.gnew _ (by simp)
  ·rcases hG g hg with h1 | h1
   ·exact h.gnew g (List.mem_cons_of_mem _ h1)
   ·exact Nat.le_trans h.old h1
 bnew := fun g hg => by
  rcases hB g hg with h1 | h1
  ·exact h.bnew g h1
  ·exact .inr (Nat.le_trans h.old h1)
 prog := h.prog.wide hK (a6b hB hG) (fun g hg => by
  simp only [H8a, List.mem_cons, List.mem_append] at hg
  rcases hg with rfl | rfl | hg | hg
  ·exact hS.lt _ (by simp)
  ·exact hS.lt _ (by simp)
  ·exact hS.lt _ (by simp only [List.mem_append]; exact .inr hg)
  ·exact hJ.lt _ _ _ _ hj g hg)
 vis := hv
 old := Nat.le_trans h.old hK.size
 m0 := h.m0
theorem m2b.found (h : m2b p m gseen gmap gP gY gS l c0 c1 c2 c3 Bs0 M0 B w0 J V Bs G cs v w) (hJ : v0c p m l gS c0 c1 c2 c3 B M0 w0 J Q) (hBB : B ≤ 100000) {x : u2a} {xs : List Value} (hX : N5a (H8a gS gmap G Bs ++ M0) w xs x) (hx : D3a p x.conf) (hv : E3a p m (z2a V x)) :
 M0a Tryz.prog 79 #[.agg xs.toArray, .pointer (some ⟨gseen, 0, none⟩), .pointer (some ⟨gP, 0, none⟩), .pointer (some ⟨gY, 0, none⟩)] w fun r w' => (r = .bool true ∧ ∃ Bs' G' cs' v', m2b p m gseen gmap gP gY gS l c0 c1 c2 c3 Bs0 M0 B w0 J (z2a V x) Bs' G' cs' v' w' ∧ w0a (H8a gS gmap G Bs) w w' ∧ ∀ g ∈ H8a gS gmap G' Bs', g ∈ H8a gS gmap G Bs ∨ w.heap.size ≤ g) ∨ (r = .bool false ∧ Q w') :=
 (p1c p m h.prog.ok gseen gmap gP gY gS l c0 c1 c2 c3 Bs M0 B hBB w0 w J Q hJ V G cs v x xs h.srch h.j (hX.more (fun g hg => .inl (by simpa [H8a, List.append_assoc] using hg))) h.good hx hv h.le (fun g hg => by
   rcases List.mem_cons.1 hg with rfl | hg
   ·exact .inl rfl
   ·exact .inr (h.gnew g hg)) h.old (fun g hg => ⟨Nat.lt_of_lt_of_le (h.m0 g hg) h.old, fun hh => by have h1 := h.m0 g hg; have h2 := h.gnew g (by simp [hh]); omega⟩)).mono fun r w' hr => by
   rcases hr with ⟨rfl, Bs', G', cs', v', h1, h2, h3, h4, h5, h6⟩ | hr
   ·exact .inl ⟨rfl, Bs', G', cs', v', h.next hJ h1 h2 h3 h4 h5 h6 hv, h3, a6b h4 h5⟩
   ·exact .inr hr
end
theorem M7a {w : World} {gS : Nat} {c0 c1 c2 c3 u v : Value} (h : p0a w (gS, 73, [c0, c1, c2, c3, u, v])) : k1a w gS 0 [c0, c1, c2, c3] := fun j v hj => by
 rw [Nat.zero_add]
 refine h.cell (o := j) ?_
 match j, hj with
 | 0, hj => exact hj
 | 1, hj => exact hj
 | 2, hj => exact hj
 | 3, hj => exact hj
 | j + 4, hj => simp at hj
theorem m9a (p : f0a) (c : q0a) (m : Int) (x : A0a) (hm : (m = 0 ∧ Q3a c) ∨ m = 1 ∨ m = 2) (hx : x ∈ H0a p m c) (M : List Nat) (w0 : World) (cs xs : List Value) (hI : InP p M w0 cs) (hX : t0a M w0 c xs) (hf : D3a p c) :
 M0a Tryz.prog 83 #[.agg cs.toArray, .int .i64 m, .agg xs.toArray, .agg #[.int .i64 x.thread, .int .i64 x.step, .int .i64 x.cell]] w0 fun v w' => (∃ ys, v = .tuple #[.agg ys.toArray, .int .i64 0] ∧ t0a M w' (doC p m c x) ys) ∧ Below w0.heap.size w0 w' := by
 have := A6b p c m x hm M w0 cs xs hI hX hf
 rw [R8a hx] at this; exact this
theorem U3c (p : f0a) (m : Int) (hm : m = 0 ∨ m = 1 ∨ m = 2) (gP gS l : Nat) (c0 c1 c2 c3 : Value) (Bs0 M0 : List Nat) (B : Nat) (hBB : B ≤ 100000) (w0 : World) (J : Nat → List Nat → List Nat → World → Prop) (Q : World → Prop) (hI : InP p (gS :: (Bs0 ++ M0)) w0 [c0, c1, c2, c3])
 (hptr : p0a w0 (gP, 70, [.pointer (some ⟨gS, 0, none⟩)])) (hblk : p0a w0 (gS, 73, [c0, c1, c2, c3, .int .i64 m, .slice none 0 0])) (hgP : gP ∉ Bs0) (hgS : gS ∉ Bs0) (hJ : v0c p m l gS c0 c1 c2 c3 B M0 w0 J Q) (hJ0 : J 0 Bs0 [gS] w0) :
 M0a Tryz.prog 78 #[.func (.yield l) #[] #[], .pointer (some ⟨gP, 0, none⟩)] w0 fun _ w' => (∃ N Bs, (P2a p m N).length ≤ N ∧ (P2a p m N).length ≤ B ∧ ∃ Ts, (∀ g ∈ Ts, g ∉ Bs ∧ (g = gS ∨ w0.heap.size ≤ g)) ∧ J (P2a p m N).length Bs Ts w') ∨ Q w' := by
 have S := St.refl w0
 have hp := hI.ok
 have k1 := hptr.cell (o := 0) rfl
 have hc4 := M7a hblk
 have hA0 : ∀ g ∈ Bs0, g < w0.heap.size := hJ.lt _ _ _ _ hJ0
 refine a0a Tryz.func78 rfl Tryz.ntmps78 rfl ?_
 refine wO0 rfl ⟨⟩ (s6a S (v := .func _ _ _) rfl rfl rfl ?_)
 intro g2 w2 S2 X2 G2
 refine lO0 rfl ⟨⟩ (e4a (k := 9) S2 rfl ?_)
 intro g11 w11 S11 X11 G11 Mp11
 refine n0a S11 D9c rfl rfl ?_
 intro g3 w3 S3 X3 G3
 replace Mp11 := Mp11.keep X3 (List.not_mem_nil)
 refine I0a (kk := 0) S3 N9c rfl (by conv => lhs; whnf) rfl rfl (by exact Nat.le_of_ble_eq_true rfl) ?_
 intro w1_2 S1_2 X1_2
 replace Mp11 := Mp11.keep X1_2 (fun hh => by rw [List.mem_singleton] at hh; exact Mp11.ne (S3.blk 0 rfl) hh)
 refine lO0 rfl ⟨⟩ (E1a rfl rfl ?_)
 refine lO0 rfl ⟨⟩ (s0a p4a rfl (by exact S1_2.old k1) rfl ?_)
 refine lO0 rfl ⟨⟩ (w1a r4a rfl (hc4.keep (S1_2.keep0 []) (by simp)) (by rfl) rfl ?_)
 have nG11 : w0.heap.size ≤ g11 := Nat.le_trans S2.size G11
 have hI1 : InP p (H8a gS g11 none Bs0 ++ M0) w1_2 [c0, c1, c2, c3] := InP.grow (Bs0 := []) (M0 := gS :: (Bs0 ++ M0)) hI (S1_2.keep0 []) (fun g hg => by
  simp only [H8a, Option.toList_none, List.nil_append, List.cons_append, List.mem_cons] at hg ⊢
  rcases hg with rfl | rfl | hg
  ·simp
  ·exact .inr nG11
  ·exact .inl (.inr hg)) (fun g hg => by
  simp only [H8a, Option.toList_none, List.nil_append, List.cons_append, List.mem_cons] at hg
  have := S1_2.size
  rcases hg with rfl | rfl | hg
  ·have := hblk.lt; simp at this; omega
  ·exact Mp11.lt
  ·have := hI.lt g (List.mem_cons_of_mem _ hg); omega)
 refine B0a S1_2 M6c rfl rfl (n3b p _ _ _ hI1) ?_
 rintro v18 w18 ⟨xs, rfl, hx⟩ S18 X18
 replace Mp11 := Mp11.keep X18 (List.not_mem_nil)
 obtain ⟨Ym, ym', zm, Ya, ya', za, Yb, yb', zb, rfl, -⟩ := hx.open_
 refine i1a I8b (vs := [(0, .agg _), (1, .int .i64 _)]) (cs := [_, _, _, _, _, _, _]) rfl rfl rfl rfl ?_
 have O1 : m2b p m g3 g11 gP g2 gS l c0 c1 c2 c3 Bs0 M0 B w0 J [] Bs0 none [] (.slice none 0 0) w18 := by
  refine ⟨⟨S18.blk 0 rfl, Mp11, q1a (S18.keep0 []) (by simp) hptr, S18.blk 1 rfl, q1a (S18.keep0 []) (by simp) hblk, Q1a.nil, fun _ => rfl, fun g hg => (by cases hg), fun g hg hh => ?_⟩, hJ.own 0 Bs0 [gS] _ w0 _ hJ0 (fun g hg => by rw [List.mem_singleton] at hg; subst hg; exact ⟨hgS, .inl rfl⟩) (fun g hg => by simp only [Option.toList_none, List.mem_cons, List.not_mem_nil, or_false] at hg ⊢; rcases hg with rfl | rfl; exact .inl rfl; exact .inr nG11) ⟨S18.below.os, S18.below.tape, S18.below.output, S18.below.size, fun k hk _ => S18.below.block k hk (by simp)⟩, Nat.zero_le _, fun g hg => ?_, fun g hg => .inl hg, hI1.keep (X18.of_nil), ⟨0, List.nil_prefix⟩, S18.size, fun g hg => hI.lt g (by simp [hg])⟩
  ·have h1 := hA0 g hh
   have h2 : w0.heap.size ≤ g3 := by simpa using S18.new 0 rfl
   have h3 : w0.heap.size ≤ g2 := by simpa using S18.new 1 rfl
   simp only [List.mem_append, List.mem_cons, List.not_mem_nil, or_false, Option.toList_none] at hg
   rcases hg with rfl | rfl | rfl | rfl | rfl
   ·omega
   ·omega
   ·exact hgP hh
   ·omega
   ·exact hgS hh
  ·simp only [Option.toList_none, List.mem_cons, List.not_mem_nil, or_false] at hg
   subst hg; exact nG11
 have hv0 : z2a [] (⟨X0a p, -1, ⟨0, 0, 0⟩⟩ : u2a) = P2a p m 0 := by simp [z2a, P2a, J8c]
 have i0 : i64 0 := by unfold i64; omega
 refine w4a m3c rfl rfl rfl (O1.found hJ hBB (x := ⟨X0a p, -1, ⟨0, 0, 0⟩⟩) (xs := [.slice Ym ym' zm, .slice Ya ya' za, .slice Yb yb' zb, .int .i64 (-1), .int .i64 0, .int .i64 0, .int .i64 0]) ⟨_, rfl, hx, by unfold i64; simp only; omega, R1a.of i0 i0 i0⟩ (U5a hp) (by rw [hv0]; exact ⟨0, List.prefix_refl _⟩)) ?_
 rw [hv0]
 rintro v20 w20 (⟨rfl, Bs1, G1, cs1, v1, O2, K2, F2⟩ | ⟨rfl, hQ20⟩)
 ·refine lC0 rfl ⟨⟩ (wL (fun μo D ε w => D = [] ∧ ∃ i : Nat, ∃ V : List u2a, ∃ Bs : List Nat, ∃ G : Option Nat, ∃ cs : List Value, ∃ v : Value, (i + μo = B) ∧ (V = P2a p m i) ∧ (m2b p m g3 g11 gP g2 gS l c0 c1 c2 c3 Bs0 M0 B w0 J V Bs G cs v w) ∧ ε 1 = .pointer (some ⟨gP, 0, none⟩) ∧ ε 4 = .func (.func 79) #[] #[.pointer (some ⟨g3, 0, none⟩), .pointer (some ⟨gP, 0, none⟩), .pointer (some ⟨g2, 0, none⟩)] ∧ ε 5 = .int .i64 i) (μ := B) ⟨rfl, 0, _, Bs1, G1, cs1, v1, by omega, rfl, O2, rfl, rfl, rfl⟩ ?_)
  rintro μo D ε w ⟨rfl, i, V, Bs, G, cs, v, _, hV, hO, e1, e4, e5⟩
  refine o0a 1 e1 (o0a 4 e4 (o0a 5 e5 ?_))
  clear e1 e4 e5
  replace S := St.refl w
  obtain ⟨_, _, rfl⟩ := hO.srch.row.form
  have nP : gP ∉ ([] : List Nat) := by simp
  have nS : gS ∉ ([] : List Nat) := by simp
  have cP := hO.srch.ptr.cell (o := 0) rfl
  have cM := hO.srch.blk.cell (o := 4) rfl
  have cV := hO.srch.blk.cell (o := 5) rfl
  have cR : k1a w gS 0 [c0, c1, c2, c3] := M7a hO.srch.blk
  have hle := hO.le
  refine wO0 rfl ⟨⟩ (s0a p4a rfl (by exact S.oldM nP cP) rfl ?_)
  refine lO0 rfl ⟨⟩ (s0a g7a rfl (by exact S.oldM nS cV) rfl ?_)
  refine lB0 rfl ⟨⟩ (fun h28 => ?_) fun h28 => ?_
  ·refine lO0 rfl ⟨⟩ (s0a p4a rfl (by exact S.oldM nP cP) rfl ?_)
   refine lO0 rfl ⟨⟩ (s0a g7a rfl (by exact S.oldM nS cV) rfl ?_)
   obtain ⟨y, b36, p36, _, hxy, hA36, _, _, hc36, hr36⟩ := RdS.get ((hO.rd hBB)) (i) (by omega)
   obtain ⟨_, rfl, hX36, -, -⟩ := hr36
   obtain ⟨Xm, xm, ym, Xa, xa, ya, Xb, xb, yb, rfl, -⟩ := hX36.open_
   refine lO S.k [.x b36 p36] rfl ⟨⟨hA36,by omega⟩,⟨⟩⟩ (w1a p1a rfl (k1a.sub hc36 0 3) rfl rfl ?_)
   refine n0a S C5a rfl rfl ?_
   intro g6 w6 S6 X6 G6
   first | refine e0a (kk := 0) (vs := [_, _, _]) S6 R2a rfl rfl rfl rfl rfl rfl rfl ?_
   intro w7_9 S7_9 X7_9
   dsimp only [k0a, List.set] at S7_9
   refine lC0 rfl ⟨⟩ (f0c b0a (fun i => [0, 1, 2, 3, 4, 5, 6, 7, 8, 11].contains i) [0, 1, 2, 3, 4, 5, 6, 7, 8, 9, 10, 11] (by kernel_rfl) (by kernel_rfl) (Cl _ _ _ _) (Cl.start S7_9) ?_)
   rintro wR8 ⟨SR8, XR8⟩
   refine N1a ⟨SR8, XR8⟩ rfl rfl rfl ?_
   refine h0a p4a rfl (fun w1 hw => by exact hw.1.oldM nP cP) rfl ?_
   refine d0a ?_
   refine N1a ⟨SR8, XR8⟩ rfl rfl rfl ?_
   refine U2a rfl rfl ?_
   refine d0a ?_
   refine N1a ⟨SR8, XR8⟩ rfl rfl rfl ?_
   refine F0a N1b rfl rfl ?_
   refine d0a ?_
   refine N1a ⟨SR8, XR8⟩ rfl rfl rfl ?_
   refine I1a r4a rfl (fun w1 hw => cR.keep hw.1.keepM (by simp)) (by rfl) rfl ?_
   refine d0a ?_
   refine N1a ⟨SR8, XR8⟩ rfl rfl rfl ?_
   refine h0a p4a rfl (fun w1 hw => by exact hw.1.oldM nP cP) rfl ?_
   refine d0a ?_
   refine N1a ⟨SR8, XR8⟩ rfl rfl rfl ?_
   refine U2a rfl rfl ?_
   refine d0a ?_
   refine N1a ⟨SR8, XR8⟩ rfl rfl rfl ?_
   refine F0a c1b rfl rfl ?_
   refine d0a ?_
   refine N1a ⟨SR8, XR8⟩ rfl rfl rfl ?_
   refine h0a C0a rfl (fun w1 hw => by exact hw.1.oldM nS cM) rfl ?_
   refine d0a ?_
   refine N1a ⟨SR8, XR8⟩ rfl rfl rfl ?_
   refine I1a p1a rfl (fun w1 hw => hw.1.cells 0 rfl) rfl rfl ?_
   refine d0a ?_
   refine T9a ⟨SR8, XR8⟩ rfl rfl rfl rfl ?_
   have hRy := Y6a hO.vis (c0a hxy)
   refine B0a SR8 h8c rfl rfl (D8a p y.conf m (M6a hm hRy) (H8a gS g11 G Bs ++ M0) _ _ _ (hO.prog.keep (SR8.keep0 _)) (hX36.keep (SR8.keep0 _)) (i4a hp hRy)) ?_
   rintro v48 w48 hE S48 X48
   have XCw48 := XR8.trans X48
   obtain ⟨Ae, ne, ce, rfl⟩ := hE.form
   obtain ⟨_, -, _⟩ := hE.len
   refine S0a ⟨rfl, ?_⟩
   refine T9a ⟨S48, XCw48⟩ rfl rfl rfl rfl ?_
   refine v8c o3a.slT rfl rfl ?_
   refine S0a ⟨rfl, ?_⟩
   refine N1a ⟨S48, XCw48⟩ rfl rfl rfl ?_
   refine e1a (v := .int .i64 _) rfl rfl ?_
   refine d0a ?_
   refine W5a ⟨S48, XCw48⟩ ?_
   refine fC0 rfl ⟨⟩ ?_
   refine wL (fun μ D ε w => D = [] ∧ ∃ j : Nat, ∃ V2 : List u2a, ∃ Bs2 : List Nat, ∃ G2 : Option Nat, ∃ cs2 : List Value, ∃ v2 : Value, (j + μ = (H0a p m y.conf).length) ∧ (V2 = m0b p m i y.conf V ((H0a p m y.conf).take j)) ∧ (m2b p m g3 g11 gP g2 gS l c0 c1 c2 c3 Bs0 M0 B w0 J V2 Bs2 G2 cs2 v2 w) ∧ (p0a w (g6, 38, [.slice Xm xm ym, .slice Xa xa ya, .slice Xb xb yb])) ∧ (g6 ∉ H8a gS g11 G2 Bs2) ∧ (t0a (H8a gS g11 G2 Bs2 ++ M0) w y.conf [.slice Xm xm ym, .slice Xa xa ya, .slice Xb xb yb]) ∧ (g2c (H8a gS g11 G2 Bs2 ++ M0) w (.slice Ae ne ce) (H0a p m y.conf)) ∧ ε 1 = .pointer (some ⟨gP, 0, none⟩) ∧ ε 4 = .func (.func 79) #[] #[.pointer (some ⟨g3, 0, none⟩), .pointer (some ⟨gP, 0, none⟩), .pointer (some ⟨g2, 0, none⟩)] ∧ ε 5 = .int .i64 i ∧ ε 6 = .pointer (some ⟨g6, 0, none⟩) ∧ ε 48 = .slice Ae ne ce ∧ ε 49 = .int .i64 ne ∧ ε 50 = .int .i64 j) (μ := (H0a p m y.conf).length) ⟨rfl, 0, _, Bs, G, cs, _, by omega, rfl, hO.later hJ S48.below, S48.blk 0 rfl, fun hh => (by have := hO.prog.lt g6 (List.mem_append_left _ hh); omega), hX36.keep (S48.keep0 _), hE, rfl, rfl, rfl, rfl, rfl, rfl, rfl⟩ ?_
   rintro μ D ε w ⟨rfl, j, V2, Bs2, G2, cs2, v2, _, hV2, hO2, hb6, n6, hX2, hC2, e1, e4, e5, e6, e48, e49, e50⟩
   refine o0a 1 e1 (o0a 4 e4 (o0a 5 e5 (o0a 6 e6 (o0a 48 e48 (o0a 49 e49 (o0a 50 e50 ?_))))))
   clear e1 e4 e5 e6 e48 e49 e50
   obtain ⟨wb, hwb⟩ : ∃ wb, wb = w := ⟨_, rfl⟩
   subst hwb
   replace S48 : St [g6] wb wb [(some g6, 38, [.slice Xm xm ym, .slice Xa xa ya, .slice Xb xb yb])] := St.borrow1 hb6
   have nP2 : gP ∉ [g6] := fun hh => v5a hO2.srch.ptr hb6 (by decide) (List.mem_singleton.1 hh)
   have nS2 : gS ∉ [g6] := fun hh => v5a hO2.srch.blk hb6 (by decide) (List.mem_singleton.1 hh)
   have cP2 := hO2.srch.ptr.cell (o := 0) rfl
   have cM2 := hO2.srch.blk.cell (o := 4) rfl
   have cR2 := M7a hO2.srch.blk
   have KW := w0a.refl [] wb
   have hlt2 : ∀ g ∈ H8a gS g11 G2 Bs2 ++ M0, g < wb.heap.size := hO2.prog.lt
   refine wB0 rfl ⟨⟩ (fun h51 => ?_) fun h51 => ?_
   ·obtain ⟨x, b52, p52, _, hxx, hA52, _, hl52, hc52, hr52⟩ := RdS.get ((RdS.keepW hC2 (KW.mono (by simp)) (fun _ _ h => h))) (j) (by omega)
    obtain ⟨rfl, ih1, ih2, ih3⟩ := hr52
    refine lO (S48.k.b hc52) [.x b52 p52,.v 0] rfl ⟨⟨rfl,hl52⟩,⟨hA52,by omega⟩,⟨⟩⟩ (n0a S48 X5c rfl rfl ?_)
    intro g8 w8 S8 X8 G8
    have GKW8 := Nat.le_trans KW.size G8
    replace KW := KW.trans X8
    refine e0a (kk := 0) (vs := [_, _, _]) S8 f4b rfl rfl rfl rfl rfl rfl rfl ?_
    intro w10_3 S10_3 X10_3
    dsimp only [k0a, List.set] at S10_3
    replace KW := KW.fresh X10_3 (by first | exact GKW8)
    refine lCn 2 S10_3.k [] rfl ⟨⟩ (wX (fun D ε w => D = [] ∧ ∃ g9 : Nat, ∃ g8 : Nat, ∃ zs : List Value, ∃ x : A0a, (w0a [] wb w) ∧ ((H0a p m y.conf)[j]? = some x) ∧ (t0a (H8a gS g11 G2 Bs2 ++ M0) w (doC p m y.conf x) zs) ∧ (i64 x.thread ∧ i64 x.step ∧ i64 x.cell) ∧ St [g6] wb w [(some g9, 38, zs), (some g8, 44, [.int .i64 x.thread, .int .i64 x.step, .int .i64 x.cell]), (some g6, 38, [.slice Xm xm ym, .slice Xa xa ya, .slice Xb xb yb])] ∧ Sl ε [(1, .pointer (some ⟨gP, 0, none⟩)), (4, .func (.func 79) #[] #[.pointer (some ⟨g3, 0, none⟩), .pointer (some ⟨gP, 0, none⟩), .pointer (some ⟨g2, 0, none⟩)]), (5, .int .i64 i), (6, .pointer (some ⟨g6, 0, none⟩)), (8, .pointer (some ⟨g8, 0, none⟩)), (9, .pointer (some ⟨g9, 0, none⟩)), (10, .int .i64 0), (48, .slice Ae ne ce), (49, .int .i64 ne), (50, .int .i64 j)]) ?_ ?_)
    ·have hin := c0a hxx
     refine Z7c b0a (fun i => [0, 1, 2, 3, 4, 5, 6, 7, 8, 9, 11, 12, 13, 16].contains i) 14 10 [14, 0, 1, 2, 3, 4, 5, 6, 7, 8, 9, 10, 11, 12, 13, 15, 16] [0, 1, 2, 3, 4, 5, 6, 7, 8, 9, 10, 14, 11, 12, 13, 15, 16] (by kernel_rfl) (S9c S10_3) ?_ ?_
     ·have SR11 := S10_3.drew
      have XR11 : w0a [] w10_3 w10_3.drew := F2a _ _
      generalize w10_3.drew = wR11 at SR11 XR11 ⊢
      replace KW := KW.trans XR11
      have XTR11 := XR11
      refine j6b ⟨SR11, XTR11⟩ rfl rfl rfl ?_
      refine n0a SR11 C5a rfl rfl ?_
      intro g9 w9 S9 X9 G9
      have GKW9 := Nat.le_trans KW.size G9
      have GXTR119 := Nat.le_trans XTR11.size G9
      replace KW := KW.trans X9
      replace XTR11 := XTR11.trans X9
      refine S0a ⟨rfl, ?_⟩
      refine G3a ⟨S9.tail, XTR11⟩ rfl rfl rfl ?_
      refine h0a p4a rfl (fun w1 hw => by exact hw.1.oldM nP2 cP2) rfl ?_
      refine d0a ?_
      refine G3a ⟨S9.tail, XTR11⟩ rfl rfl rfl ?_
      refine U2a rfl rfl ?_
      refine d0a ?_
      refine G3a ⟨S9.tail, XTR11⟩ rfl rfl rfl ?_
      refine F0a N1b rfl rfl ?_
      refine d0a ?_
      refine G3a ⟨S9.tail, XTR11⟩ rfl rfl rfl ?_
      refine I1a r4a rfl (fun w1 hw => cR2.keep hw.1.keepM nS2) (by rfl) rfl ?_
      refine d0a ?_
      refine G3a ⟨S9.tail, XTR11⟩ rfl rfl rfl ?_
      refine h0a p4a rfl (fun w1 hw => by exact hw.1.oldM nP2 cP2) rfl ?_
      refine d0a ?_
      refine G3a ⟨S9.tail, XTR11⟩ rfl rfl rfl ?_
      refine U2a rfl rfl ?_
      refine d0a ?_
      refine G3a ⟨S9.tail, XTR11⟩ rfl rfl rfl ?_
      refine F0a c1b rfl rfl ?_
      refine d0a ?_
      refine G3a ⟨S9.tail, XTR11⟩ rfl rfl rfl ?_
      refine h0a C0a rfl (fun w1 hw => by exact hw.1.oldM nS2 cM2) rfl ?_
      refine d0a ?_
      refine G3a ⟨S9.tail, XTR11⟩ rfl rfl rfl ?_
      refine I1a p1a rfl (fun w1 hw => hw.1.cells 1 rfl) rfl rfl ?_
      refine d0a ?_
      refine G3a ⟨S9.tail, XTR11⟩ rfl rfl rfl ?_
      refine I1a D5a rfl (fun w1 hw => hw.1.cells 0 rfl) rfl rfl ?_
      refine d0a ?_
      refine j6b ⟨S9.tail, XTR11⟩ rfl rfl rfl ?_
      refine B0a S9 W2c rfl rfl (m9a p y.conf m x (M6a hm hRy) hin (g9 :: (H8a gS g11 G2 Bs2 ++ M0)) _ _ _ (InP.grow (Bs0 := []) hO2.prog KW (fun g hg => by rcases List.mem_cons.1 hg with rfl | hg; exact .inr GKW9; exact .inl hg) (fun g hg => by rcases List.mem_cons.1 hg with rfl | hg; exact S9.lt 0 rfl; have := hlt2 g hg; have := KW.size; omega)) ((hX2.more (fun g hg => by rcases List.mem_cons.1 hg with rfl | hg; exact .inr GKW9; exact .inl hg)).keep KW.of_nil) (i4a hp hRy)) ?_
      rintro v65 w65 ⟨zs, rfl, hz⟩ S65 X65
      replace KW := KW.trans X65
      replace XTR11 := XTR11.trans X65
      obtain ⟨Ua, ua, va, Ub, ub, vb, Uc, uc, vc, rfl, -⟩ := hz.open_
      refine S0a ⟨rfl, ?_⟩
      refine G3a ⟨S65.tail, XTR11⟩ rfl rfl rfl ?_
      refine e1a (v := .tuple _) rfl rfl ?_
      refine d0a ?_
      refine G3a ⟨S65.tail, XTR11⟩ rfl rfl rfl ?_
      refine n2a rfl rfl rfl ?_
      refine d0a ?_
      refine G3a ⟨S65.tail, XTR11⟩ rfl rfl rfl ?_
      refine n2a rfl rfl rfl ?_
      refine d0a ?_
      refine j6b ⟨S65.tail, XTR11⟩ rfl rfl rfl ?_
      refine e0a (kk := 0) (vs := [_, _, _]) S65 R2a rfl rfl rfl rfl rfl rfl rfl ?_
      intro w11_15 S11_15 X11_15
      dsimp only [k0a, List.set] at S11_15
      replace KW := KW.fresh X11_15 (by exact GKW9)
      replace XTR11 := XTR11.fresh X11_15 (by exact GXTR119)
      replace hz := hz.keep (X11_15.mono (by simp))
      refine S0a ⟨rfl, ?_⟩
      refine G3a ⟨S11_15.tail, XTR11⟩ rfl rfl rfl ?_
      refine e3a (v := .int .i64 _) rfl rfl ?_
      refine d0a ?_
      refine K5b ⟨S11_15.tail, XTR11⟩ ?_
      refine fP0 rfl ⟨⟩ ⟨rfl, (g9), (g8), (_), (x), (KW), (hxx), ((by exact hz.less (fun _ hg => List.mem_cons_of_mem _ hg))), (⟨ih1, ih2, ih3⟩), S11_15, rfl⟩
     have SR11 := S10_3.drew
     have XR11 : w0a [] w10_3 w10_3.drew := F2a _ _
     generalize w10_3.drew = wR11 at SR11 XR11 ⊢
     replace KW := KW.trans XR11
     have XTR11 := XR11
     refine G3a ⟨SR11, XTR11⟩ rfl rfl rfl ?_
     refine h0a p4a rfl (fun w1 hw => by exact hw.1.oldM nP2 cP2) rfl ?_
     refine d0a ?_
     refine G3a ⟨SR11, XTR11⟩ rfl rfl rfl ?_
     refine U2a rfl rfl ?_
     refine d0a ?_
     refine G3a ⟨SR11, XTR11⟩ rfl rfl rfl ?_
     refine F0a N1b rfl rfl ?_
     refine d0a ?_
     refine G3a ⟨SR11, XTR11⟩ rfl rfl rfl ?_
     refine I1a r4a rfl (fun w1 hw => cR2.keep hw.1.keepM nS2) (by rfl) rfl ?_
     refine d0a ?_
     refine G3a ⟨SR11, XTR11⟩ rfl rfl rfl ?_
     refine h0a p4a rfl (fun w1 hw => by exact hw.1.oldM nP2 cP2) rfl ?_
     refine d0a ?_
     refine G3a ⟨SR11, XTR11⟩ rfl rfl rfl ?_
     refine U2a rfl rfl ?_
     refine d0a ?_
     refine G3a ⟨SR11, XTR11⟩ rfl rfl rfl ?_
     refine F0a c1b rfl rfl ?_
     refine d0a ?_
     refine G3a ⟨SR11, XTR11⟩ rfl rfl rfl ?_
     refine h0a C0a rfl (fun w1 hw => by exact hw.1.oldM nS2 cM2) rfl ?_
     refine d0a ?_
     refine G3a ⟨SR11, XTR11⟩ rfl rfl rfl ?_
     refine I1a p1a rfl (fun w1 hw => hw.1.cells 1 rfl) rfl rfl ?_
     refine d0a ?_
     refine G3a ⟨SR11, XTR11⟩ rfl rfl rfl ?_
     refine I1a D5a rfl (fun w1 hw => hw.1.cells 0 rfl) rfl rfl ?_
     refine d0a ?_
     refine j6b ⟨SR11, XTR11⟩ rfl rfl rfl ?_
     refine B0a SR11 W2c rfl rfl (m9a p y.conf m x (M6a hm hRy) hin (H8a gS g11 G2 Bs2 ++ M0) _ _ _ (hO2.prog.keep (KW.mono (by simp))) (hX2.keep (KW.mono (by simp))) (i4a hp hRy)) ?_
     rintro v65 w65 ⟨zs, rfl, hz⟩ S65 X65
     replace KW := KW.trans X65
     replace XTR11 := XTR11.trans X65
     obtain ⟨Ua, ua, va, Ub, ub, vb, Uc, uc, vc, rfl, -⟩ := hz.open_
     have KZ := w0a.refl [] w65
     refine S0a ⟨rfl, ?_⟩
     refine j6b ⟨S65, XTR11⟩ rfl rfl rfl ?_
     refine n0a S65 C5a rfl rfl ?_
     intro g9 w9 S9 X9 G9
     have GKW9 := Nat.le_trans KW.size G9
     have GXTR119 := Nat.le_trans XTR11.size G9
     have GKZ9 := Nat.le_trans KZ.size G9
     replace KW := KW.trans X9
     replace XTR11 := XTR11.trans X9
     replace KZ := KZ.trans X9
     refine S0a ⟨rfl, ?_⟩
     refine G3a ⟨S9.tail, XTR11⟩ rfl rfl rfl ?_
     refine e1a (v := .tuple _) rfl rfl ?_
     refine d0a ?_
     refine G3a ⟨S9.tail, XTR11⟩ rfl rfl rfl ?_
     refine n2a rfl rfl rfl ?_
     refine d0a ?_
     refine G3a ⟨S9.tail, XTR11⟩ rfl rfl rfl ?_
     refine n2a rfl rfl rfl ?_
     refine d0a ?_
     refine j6b ⟨S9.tail, XTR11⟩ rfl rfl rfl ?_
     refine e0a (kk := 0) (vs := [_, _, _]) S9 R2a rfl rfl rfl rfl rfl rfl rfl ?_
     intro w11_15 S11_15 X11_15
     dsimp only [k0a, List.set] at S11_15
     replace KW := KW.fresh X11_15 (by exact GKW9)
     replace XTR11 := XTR11.fresh X11_15 (by exact GXTR119)
     replace KZ := KZ.fresh X11_15 (by exact GKZ9)
     refine S0a ⟨rfl, ?_⟩
     refine G3a ⟨S11_15.tail, XTR11⟩ rfl rfl rfl ?_
     refine e3a (v := .int .i64 _) rfl rfl ?_
     refine d0a ?_
     refine K5b ⟨S11_15.tail, XTR11⟩ ?_
     refine fP0 rfl ⟨⟩ ⟨rfl, (g9), (g8), (_), (x), (KW), (hxx), ((by exact hz.keep KZ.of_nil)), (⟨ih1, ih2, ih3⟩), S11_15, rfl⟩
    rintro D ε w ⟨rfl, g9, g8, zs, x, KW, hxx, hz, ih, S, eZ⟩
    refine wK eZ ?_
    obtain ⟨Ua, ua, va, Ub, ub, vb, Uc, uc, vc, rfl, -⟩ := hz.open_
    refine wB0 rfl ⟨⟩ (fun h69 => ?_) (fun h69 => by exact absurd rfl h69)
    refine lO S.k [.w 0,.w 1] rfl ⟨⟨rfl,rfl⟩,⟨rfl,by rfl⟩,⟨⟩⟩ (i1a I8b (vs := [(0, .agg _), (1, .int .i64 _), (2, .agg _)]) (cs := [_, _, _, _, _, _, _]) rfl rfl rfl rfl ?_)
    refine lO0 rfl ⟨⟩ ?_
    have hin2 := c0a hxx
    have hjl := (List.getElem?_eq_some_iff.1 hxx).1
    have O3 := hO2.later hJ (S.below.nilK KW)
    have hbs := hV ▸ hxy
    have hv2 : z2a V2 ⟨doC p m y.conf x, i, x⟩ = m0b p m i y.conf V ((H0a p m y.conf).take (j + 1)) := by rw [J0a hxx, Z7b, hV2]
    have hvv : E3a p m (z2a V2 ⟨doC p m y.conf x, i, x⟩) := ⟨i + 1, by rw [hv2, hV]; exact D9b hbs (j + 1)⟩
    have Zb := KW.size
    refine w4a m3c rfl rfl rfl (O3.found hJ hBB (x := ⟨doC p m y.conf x, i, x⟩) (xs := [.slice Ua ua va, .slice Ub ub vb, .slice Uc uc vc, .int .i64 i, .int .i64 x.thread, .int .i64 x.step, .int .i64 x.cell]) ⟨_, rfl, hz, by unfold i64; simp only; omega, R1a.of ih.1 ih.2.1 ih.2.2⟩ (U5b hp (i4a hp hRy) hin2) hvv) ?_
    rintro v76 w76 (⟨rfl, Bs4, G4, cs4, v4, O4, K4, F4⟩ | ⟨rfl, hQ76⟩)
    ·refine lP0 rfl ⟨by omega,⟨⟩⟩ ?_
     have hC76 := g2c.wide (RdS.keep hC2 (KW.mono (by simp))) K4 F4
     have hX76 := (hX2.keep (KW.mono (by simp))).wide K4 F4
     exact ⟨μ - 1, by omega, rfl, j + 1, _, Bs4, G4, cs4, v4, by omega, hv2, O4, q1a K4 n6 (S.blk 2 rfl), fun hh => (by
      rcases F4 g6 hh with h | h
      ·exact n6 h
      ·have := S.lt 2 rfl; omega), hX76, hC76, rfl, rfl, rfl, rfl, rfl, rfl, rfl⟩
    refine lR0 rfl ⟨⟩ (K1a rfl ?_)
    exact .inr hQ76
   refine lP0 rfl ⟨by omega,⟨⟩⟩ ⟨μo - 1, by omega, rfl, i + 1, V2, Bs2, G2, cs2, v2, by omega, ?_, hO2, rfl, rfl, rfl⟩
   rw [hV2, List.take_of_length_le (by omega), hV, j3b (hV ▸ hxy)]
  refine lF0 rfl ⟨⟩ (K1a rfl ?_)
  exact .inl ⟨i, Bs, by rw [← hV]; omega, by rw [← hV]; exact hle, _, hO.ts, by rw [← hV]; exact hO.j⟩
 refine lR0 rfl ⟨⟩ (K1a rfl ?_)
 exact .inr hQ20
section
variable {P : Program} {r : Option Nat} {N : Nat} {D : List Deferred} {e : Env} {w : World}
theorem f4c {l p N : Nat} {rc : Loop} {x : Value} {assign body : Code} {R : Value → World → Prop} (hl : w.heap[l]? = some (.loop rc)) (hr : rc.state = .ready) (hN : rc.tmps.size = N) (he0 : P0a { tmps := rc.tmps, defers := [] } = e) (hps : rc.params = #[p]) (has : rc.assign = assign) (hbo : rc.body = body) (hp : Nat.ble (p + 1) N = true)
 (h : W P (some l) N assign ⟨fun D e w1 => w1.heap[l]? = some (.loop rc) ∧
   W P (some l) N body ⟨fun _ _ w3 => J4a l none R w3, fun id _ _ w3 => J4a l (some (.exit id)) R w3, fun _ _ w3 => J4a l (some .ret) R w3⟩ D e (w1.putObj l (.loop { rc with state := .busy })),
   fun _ _ _ _ => False, fun _ _ _ => False⟩ [] (upd e p x) w) : Yld P l #[x] w R := by
 subst he0 has hbo
 have hp' := Nat.le_of_ble_eq_true hp
 refine ⟨rc, hl, by simp [hps], ?_⟩
 have hz : (rc.params.zip #[x]).foldl (fun tmps (t, a) => tmps.setIfInBounds t a) rc.tmps = rc.tmps.setIfInBounds p x := by rw [hps]; simp
 rw [hz]
 refine roundIn_of_wpIn (F := Fence.wide) trivial ?_
 unfold W at h
 have he : P0a { tmps := rc.tmps.setIfInBounds p x, defers := [] } = upd (P0a { tmps := rc.tmps, defers := [] }) p x := by
  have h1 := W0a (a := { tmps := rc.tmps, defers := [] }) (d := p) x (by simp; omega)
  simp only [Act.put] at h1
  rw [← h1]
 refine wpIn_mono (h { tmps := rc.tmps.setIfInBounds p x, defers := [] } (by simp [hN]) rfl he) fun ex a w1 hq => ?_
 cases ex with
 | normal =>
   obtain ⟨hs, hl1, hb⟩ := hq
   refine ⟨_, run_beginRound hl1 hr, wpIn_mono (hb a hs rfl rfl) fun ex a w3 hq => ?_⟩
   cases ex with
   | normal => obtain ⟨_, rc3, h3, hR⟩ := hq; exact ⟨_, _, run_endRound none h3, _, rfl, hR⟩
   | ret => obtain ⟨_, rc3, h3, hR⟩ := hq; exact ⟨_, _, run_endRound (some .ret) h3, _, rfl, hR⟩
   | exit id => obtain ⟨_, rc3, h3, hR⟩ := hq; exact ⟨_, _, run_endRound (some (.exit id)) h3, _, rfl, hR⟩
   | goto l => exact hq.elim
   | panic c => exact hq.elim
   | outgrown => exact hq.elim
 | exit id => exact hq.2
 | ret => exact hq.2
 | goto l => exact hq.elim
 | panic c => exact hq.elim
 | outgrown => exact hq.elim
end
theorem v0a.stepM {M Ms : List Nat} {w0 w w' : World} (h : v0a M w0 w) (k : v0a Ms w w') (hM : ∀ g ∈ Ms, w0.heap.size ≤ g) : v0a M w0 w' :=
 ⟨k.os.trans h.os, k.tape.trans h.tape, k.output.trans h.output, Nat.le_trans h.size k.size, fun i hi hm => (k.block i (Nat.lt_of_lt_of_le hi h.size) (fun hh => by have := hM i hh; omega)).trans (h.block i hi hm)⟩
theorem Y6b {A N M : List Nat} {w w' : World} {v : Value} {V : List u2a} (h : RdS (A ++ M) w 7 (N5a (A ++ M) w) v V) (hk : w0a A w w') (hN : ∀ g ∈ N, g ∈ A ++ M ∨ w.heap.size ≤ g) : RdS N w' 7 (N5a N w') v V := by
 have hm : ∀ g ∈ A ++ N, g ∈ A ++ M ∨ w.heap.size ≤ g := fun g hg => by
  rcases List.mem_append.1 hg with h | h
  ·exact .inl (List.mem_append_left _ h)
  ·exact hN g h
 have hk2 : w0a (A ++ N) w w' := hk.mono (fun g hg => List.mem_append_left _ hg)
 have h1 : RdS (A ++ N) w 7 (N5a (A ++ N) w) v V := RdS.moreW h (by omega) hm (fun _ _ => N5a.more hm)
 have h2 : RdS (A ++ N) w' 7 (N5a (A ++ N) w') v V := RdS.keepW h1 hk2 (fun _ _ => N5a.keep hk2)
 exact RdS.lessW h2 (fun g hg => List.mem_append_right _ hg) (fun _ _ => N5a.more (fun g hg => .inl (List.mem_append_right _ hg)))
theorem NC.keepW {w w' : World} {rs : List (Nat × Obj)} (h : NC w rs) {Gs : List Nat} (k : w0a Gs w w') (hg : ∀ x ∈ rs, x.1 ∉ Gs) : NC w' rs := fun x hx =>
 ⟨(k.same x.1 (h.lt x hx) (hg x hx)).trans (h x hx).1, (h x hx).2⟩
theorem St.keepsW {M : List Nat} {w0 w w' : World} {L : List Ent} (S : St M w0 w L) {Ws : List Nat} (hB : v0a Ws w w') (h1 : ∀ g ∈ Ws, g < w0.heap.size → g ∈ M) (h2 : ∀ b ∈ L, ∀ g, b.1 = some g → g ∉ Ws) : St M w0 w' L :=
 S.keeps ⟨hB.os.trans S.below.os, hB.tape.trans S.below.tape, hB.output.trans S.below.output, Nat.le_trans S.below.size hB.size, fun k hk hm => (hB.block k (Nat.lt_of_lt_of_le hk S.below.size) (fun hh => hm (h1 k hh hk))).trans (S.below.block k hk hm)⟩
  (fun b hb g hg => hB.block g (S.own b hb g hg).2.lt (h2 b hb g hg))
section
variable {P : Program} {fn : Func} {R : Value → World → Prop} {D : List Deferred} {e : Env} {w : World}
theorem z9a {a1 t1 a2 t2 g1 g2 : Nat} {v1 v2 : Value} (h : fn.results = #[.cell a1 t1, .cell a2 t2]) (o1 : One P t1) (o2 : One P t2) (e1 : e a1 = .pointer (some ⟨g1, 0, none⟩)) (e2 : e a2 = .pointer (some ⟨g2, 0, none⟩))
 (rs : List Nat) (hD : D = rs.map W6a) (hn : rs.Nodup) (hO : NC w (d7a rs)) (hc1 : w.cell? ⟨g1, 0, none⟩ = some v1) (hc2 : w.cell? ⟨g2, 0, none⟩ = some v2) (hg1 : g1 ∉ rs) (hg2 : g2 ∉ rs) (hR : ∀ w', v0a rs w w' → R (.tuple #[v1, v2]) w') : Z5a P fn R D e w :=
 ⟨rs, hD, hn, hO, fun w' hb _ tmps he => by
  have hk : w0a rs w w' := ⟨hb.size, hb.block⟩
  have c1 := hk.cell (a := ⟨g1, 0, none⟩) hg1 hc1
  have c2 := hk.cell (a := ⟨g2, 0, none⟩) hg2 hc2
  subst he
  simp only [P0a, Array.getD_eq_getD_getElem?] at e1 e2
  have h1 : (loadVar t1 ⟨g1, 0, none⟩).run P w' = .ok v1 w' := by rw [o1 w']; simp [load, Sem.run, c1]
  have h2 : (loadVar t2 ⟨g2, 0, none⟩).run P w' = .ok v2 w' := by rw [o2 w']; simp [load, Sem.run, c2]
  exact ⟨_, by simp [results, h, asAddr, e1, e2, h1, h2], hR w' hb⟩⟩
end
theorem V7c (gS : Nat) (w0 : World) :
 M0a Tryz.prog 54 #[.pointer (some ⟨gS, 0, none⟩)] w0 fun v w' => (∃ gP, v = .func (.func 78) #[] #[.pointer (some ⟨gP, 0, none⟩)] ∧ w0.heap.size ≤ gP ∧ p0a w' (gP, 70, [.pointer (some ⟨gS, 0, none⟩)])) ∧ Below w0.heap.size w0 w' := by
 have S := St.refl w0
 refine a0a Tryz.func54 rfl Tryz.ntmps54 rfl ?_
 refine wO0 rfl ⟨⟩ (s6a S (v := .pointer _) rfl rfl rfl ?_)
 intro g1 w1 S1 X1 G1
 refine lO0 rfl ⟨⟩ (E1a rfl rfl ?_)
 exact lT rfl ⟨⟩ rfl ⟨⟨g1, rfl, by simpa using S1.new 0 rfl, S1.blk 0 rfl⟩, S1.fin⟩
structure Acc (p : f0a) (m : Int) (gS : Nat) (f : FuncId) (caps : List Value) (Bs0 M0 : List Nat) (wf : World) (acc : q0a → Bool) (J0 : Nat → List Nat → List Nat → World → Prop) : Prop where
 has : Has Tryz.prog f
 start : J0 0 Bs0 [gS] wf
 own : ∀ k Bs Ts Ts' w w', J0 k Bs Ts w → (∀ g ∈ Ts, g ∉ Bs ∧ (g = gS ∨ wf.heap.size ≤ g)) → (∀ g ∈ Ts', g ∈ Ts ∨ w.heap.size ≤ g) → w0a Ts w w' → J0 k Bs Ts' w'
 lt : ∀ k Bs Ts w, J0 k Bs Ts w → ∀ g ∈ Bs, g < w.heap.size
 call : ∀ k Bs Ts w V y ys, J0 k Bs Ts w → (∀ g ∈ Ts, g ∉ Bs ∧ (g = gS ∨ wf.heap.size ≤ g)) → E3a p m V → V.length = k + 1 → V[k]? = some y → t0a (Ts ++ (Bs ++ M0)) w y.conf ys → wf.heap.size ≤ w.heap.size → k < 100000 →
  M0a Tryz.prog f (Value.agg ys.toArray :: caps).toArray w fun r w' => r = .bool (acc y.conf) ∧ ∃ Bs', J0 (k + 1) Bs' Ts w' ∧ v0a Bs w w' ∧ ∀ g ∈ Bs', g ∈ Bs ∨ w.heap.size ≤ g
structure Q8c (gS : Nat) (wf : World) (Bs N Ts : List Nat) : Prop where
 sub : ∀ g ∈ N, g ∈ Ts
 ok : ∀ g ∈ Ts, g ∉ Bs ∧ (g = gS ∨ wf.heap.size ≤ g)
def r6a (p : f0a) (m : Int) (limit gS : Nat) (c0 c1 c2 c3 : Value) (N M : List Nat) (wf : World) (acc : q0a → Bool) (J0 : Nat → List Nat → List Nat → World → Prop) (w : World) (i err : Int) : Prop :=
 (err = 0 ∧ ∃ (k : Nat) (V : List u2a) (v : Value) (Bs Ts : List Nat), i = k ∧ E3a p m V ∧ V.length = k + 1 ∧ k < limit ∧ (∀ j y, j < k → V[j]? = some y → acc y.conf = false) ∧ (∃ y, V[k]? = some y ∧ acc y.conf = true) ∧ Q8c gS wf Bs N Ts ∧
   p0a w (gS, 73, [c0, c1, c2, c3, .int .i64 m, v]) ∧ RdS (Bs ++ M) w 7 (N5a (Bs ++ M) w) v V ∧ J0 (k + 1) Bs Ts w) ∨
 (err = 2 ∧ ∃ V, E3a p m V ∧ V.length = limit + 1 ∧ ∀ j y, j < limit → V[j]? = some y → acc y.conf = false) ∨
 (err = 4 ∧ ∃ n Bs Ts, (P2a p m n).length ≤ n ∧ (P2a p m n).length ≤ limit ∧ (∀ y ∈ P2a p m n, acc y.conf = false) ∧ Q8c gS wf Bs N Ts ∧ J0 (P2a p m n).length Bs Ts w)
theorem r6a.keep {p : f0a} {m : Int} {limit gS : Nat} {c0 c1 c2 c3 : Value} {N A M Bs0 M0 : List Nat} {acc : q0a → Bool} {J0 : Nat → List Nat → List Nat → World → Prop} {w w' wf : World} {i err : Int} {f : FuncId} {caps : List Value} (hA : Acc p m gS f caps Bs0 M0 wf acc J0)
 (h : r6a p m limit gS c0 c1 c2 c3 N M wf acc J0 w i err) (hk : w0a A w w') (h1 : ∀ g ∈ A, g ∈ N ∧ g ∈ M) (h2 : gS ∉ A) : r6a p m limit gS c0 c1 c2 c3 N M wf acc J0 w' i err := by
 rcases h with ⟨he, k, V, v, Bs, Ts, q1, q2, q3, q4, q5, q6, q7, q8, q9, q10⟩ | h | ⟨he, n, Bs, Ts, q1, q2, q3, q4, q5⟩
 ·have hk2 : w0a (Bs ++ M) w w' := hk.mono (fun g hg => List.mem_append_right _ (h1 g hg).2)
  exact .inl ⟨he, k, V, v, Bs, Ts, q1, q2, q3, q4, q5, q6, q7, q1a hk h2 q8, RdS.keepW q9 hk2 (fun _ _ => N5a.keep hk2), hA.own _ _ Ts Ts _ _ q10 q7.ok (fun g hg => .inl hg) (hk.mono fun g hg => q7.sub g (h1 g hg).1)⟩
 ·exact .inr (.inl h)
 ·exact .inr (.inr ⟨he, n, Bs, Ts, q1, q2, q3, q4, hA.own _ _ Ts Ts _ _ q5 q4.ok (fun g hg => .inl hg) (hk.mono fun g hg => q4.sub g (h1 g hg).1)⟩)
theorem r6a.less {p : f0a} {m : Int} {limit gS : Nat} {c0 c1 c2 c3 : Value} {N N' M M' : List Nat} {acc : q0a → Bool} {J0 : Nat → List Nat → List Nat → World → Prop} {w wf : World} {i err : Int}
 (h : r6a p m limit gS c0 c1 c2 c3 N M wf acc J0 w i err) (hN : ∀ g ∈ N', g ∈ N) (hM : ∀ g ∈ M', g ∈ M) : r6a p m limit gS c0 c1 c2 c3 N' M' wf acc J0 w i err := by
 rcases h with ⟨he, k, V, v, Bs, Ts, q1, q2, q3, q4, q5, q6, q7, q8, q9, q10⟩ | h | ⟨he, n, Bs, Ts, q1, q2, q3, q4, q5⟩
 ·have hB : ∀ g ∈ Bs ++ M', g ∈ Bs ++ M := fun g hg => by
   rcases List.mem_append.1 hg with h | h
   ·exact List.mem_append_left _ h
   ·exact List.mem_append_right _ (hM g h)
  exact .inl ⟨he, k, V, v, Bs, Ts, q1, q2, q3, q4, q5, q6, ⟨fun g hg => q7.sub g (hN g hg), q7.ok⟩, q8, RdS.lessW q9 hB (fun _ _ => N5a.more (fun g hg => .inl (hB g hg))), q10⟩
 ·exact .inr (.inl h)
 ·exact .inr (.inr ⟨he, n, Bs, Ts, q1, q2, q3, ⟨fun g hg => q4.sub g (hN g hg), q4.ok⟩, q5⟩)
theorem x6b (p : f0a) (m : Int) (hm : m = 0 ∨ m = 1 ∨ m = 2) (limit gS : Nat) (hlim : limit ≤ 100000) (c0 c1 c2 c3 : Value) (f : FuncId) (caps : List Value) (Bs0 M0 : List Nat) (w0 : World) (acc : q0a → Bool) (J0 : Nat → List Nat → List Nat → World → Prop) (hI : InP p (gS :: (Bs0 ++ M0)) w0 [c0, c1, c2, c3])
 (hblk : p0a w0 (gS, 73, [c0, c1, c2, c3, .int .i64 m, .slice none 0 0])) (hgS : gS ∉ Bs0) (hA : Acc p m gS f caps Bs0 M0 w0 acc J0) :
 M0a Tryz.prog 25 #[.pointer (some ⟨gS, 0, none⟩), .int .i64 limit, .func (.func f) #[] caps.toArray] w0 fun v w' => (∃ i err, v = .tuple #[.int .i64 i, .int .i64 err] ∧ r6a p m limit gS c0 c1 c2 c3 [] M0 w0 acc J0 w' i err) ∧ v0a (gS :: Bs0) w0 w' := by
 have S := St.base (gS :: Bs0) w0
 have K0 := w0a.refl [] w0
 have hp := hI.ok
 refine J6a Tryz.func25 rfl Tryz.ntmps25 rfl (wI ?_)
 refine wO0 rfl ⟨⟩ (s6a S (v := .pointer _) rfl rfl rfl ?_)
 intro g3 w3 S3 X3 G3
 replace K0 := K0.trans X3
 refine s6a S3 (v := .int .i64 _) rfl rfl rfl ?_
 intro g4 w4 S4 X4 G4
 replace K0 := K0.trans X4
 refine s6a S4 (v := .func _ _ _) rfl rfl rfl ?_
 intro g5 w5 S5 X5 G5
 replace K0 := K0.trans X5
 refine n0a S5 K9c rfl rfl ?_
 intro g6 w6 S6 X6 G6
 replace K0 := K0.trans X6
 refine n0a S6 k8c rfl rfl ?_
 intro g7 w7 S7 X7 G7
 replace K0 := K0.trans X7
 refine lO S7.k [.o 4] rfl ⟨rfl,⟨⟩⟩ (B0a S7 p7c rfl rfl (V7c gS _) ?_)
 rintro v10 w10 ⟨gP, rfl, GgP, hbP⟩ S10 X10
 replace K0 := K0.trans X10
 have zgP : w0.heap.size ≤ gP := Nat.le_trans S7.size GgP
 have zg6 : w0.heap.size ≤ g6 ∧ g6 < w10.heap.size := ⟨by have := S5.size; omega, S10.lt 1 rfl⟩
 have zg7 : w0.heap.size ≤ g7 ∧ g7 < w10.heap.size := ⟨by have := S6.size; omega, S10.lt 0 rfl⟩
 have zg5 : w0.heap.size ≤ g5 ∧ g5 < w10.heap.size := ⟨by have := S4.size; omega, S10.lt 2 rfl⟩
 have zg4 : w0.heap.size ≤ g4 ∧ g4 < w10.heap.size := ⟨by have := S3.size; omega, S10.lt 3 rfl⟩
 have zg3 : w0.heap.size ≤ g3 ∧ g3 < w10.heap.size := ⟨by omega, S10.lt 4 rfl⟩
 refine lC0 rfl ⟨⟩ (wJ ?_)
 have hSw : p0a w10 (gS, 73, [c0, c1, c2, c3, .int .i64 m, .slice none 0 0]) := q1a K0 (by simp) hblk
 have Zw := S10.size
 have lS := hblk.lt
 simp only at lS
 refine t6a (vs := fun y => #[y, _]) U7c rfl (fun _ => rfl) (fun rc wi hst hpe htm henv hps has hbo hdr hl hB hsz => ?_)
 obtain ⟨l, hl'⟩ : ∃ l, l = w10.heap.size + 1 := ⟨_, rfl⟩
 obtain ⟨mk, hmk⟩ : ∃ mk, mk = w10.heap.size := ⟨_, rfl⟩
 have hO1 := G6a (NC.nil (w := w10)) hdr hl hB
 rw [← hl', ← hmk] at hO1
 rw [← hl'] at hl ⊢
 have Si := S10.later hB
 have Ki : w0a [] w10 wi := w0a.of_below hB
 have K0i := K0.trans Ki
 have hB0 : ∀ g ∈ Bs0, g < w0.heap.size := hA.lt _ _ _ _ hA.start
 have hSi := q1a Ki (by simp) hSw
 have hPi := q1a Ki (by simp) hbP
 have hlne : ∀ x ∈ [(mk, Obj.deferred (some []))], x.1 ≠ l := fun x hx => by
  rw [List.mem_singleton] at hx; subst hx; show mk ≠ l; omega
 have hTl : ∀ g ∈ l :: mk :: g6 :: [g7], w0.heap.size ≤ g ∧ g < wi.heap.size := fun g hg => by
  simp only [List.mem_cons, List.not_mem_nil, or_false] at hg
  rcases hg with rfl | rfl | rfl | rfl <;> omega
 have hTs0 : ∀ (Ba Ts : List Nat), (∀ g ∈ Ba, g ∈ Bs0 ∨ wi.heap.size ≤ g) → (∀ g ∈ Ts, g ∉ l :: mk :: Ba ∧ (g = gS ∨ wi.heap.size ≤ g)) → ∀ g ∈ l :: mk :: g6 :: g7 :: Ts, g ∉ Ba ∧ (g = gS ∨ w0.heap.size ≤ g) := fun Ba Ts hBa hT g hg => by
  by_cases hh : g ∈ l :: mk :: g6 :: [g7]
  ·have h1 := hTl g hh
   refine ⟨fun h2 => ?_, .inr h1.1⟩
   rcases hBa g h2 with h | h
   ·have := hB0 g h; omega
   ·omega
  ·have h1 := hT g (by simp only [List.mem_cons, List.not_mem_nil, or_false] at hg hh; grind)
   exact ⟨fun h2 => h1.1 (by simp [h2]), h1.2.imp id (fun h => by omega)⟩
 have hJi : J0 0 Bs0 (l :: mk :: g6 :: g7 :: [gS]) wi := hA.own 0 Bs0 [gS] _ w0 wi hA.start (fun g hg => by rw [List.mem_singleton] at hg; subst hg; exact ⟨hgS, .inl rfl⟩) (fun g hg => by
  simp only [List.mem_cons, List.not_mem_nil, or_false] at hg ⊢
  rcases hg with rfl | rfl | rfl | rfl | rfl
  ·right; omega
  ·right; omega
  ·right; omega
  ·right; omega
  ·left; rfl) K0i.of_nil
 have hIi : InP p (gS :: ((l :: mk :: Bs0) ++ ([g6, g7] ++ M0))) wi [c0, c1, c2, c3] := InP.grow (Bs0 := []) hI K0i (fun g hg => by
  simp only [List.cons_append, List.nil_append, List.mem_cons, List.mem_append] at hg ⊢
  rcases hg with rfl | rfl | rfl | hg | rfl | rfl | hg
  ·simp
  ·right; omega
  ·right; omega
  ·simp [hg]
  ·right; omega
  ·right; omega
  ·simp [hg]) (fun g hg => by
  simp only [List.cons_append, List.nil_append, List.mem_cons, List.mem_append] at hg
  rcases hg with rfl | rfl | rfl | hg | rfl | rfl | hg
  ·omega
  ·omega
  ·omega
  ·have := hB0 g hg; omega
  ·omega
  ·omega
  ·have := hI.lt g (by simp [hg]); omega)
 have hEnt : ∀ b ∈ ([(some g7, 31, [.int .i64 0]), (some g6, 3, [.int .i64 0]), (some g5, 76, [.func (.func f) #[] caps.toArray]), (some g4, 3, [.int .i64 limit]), (some g3, 70, [.pointer (some ⟨gS, 0, none⟩)])] : List Ent), ∀ g, b.1 = some g → ∀ Ws : List Nat, (∀ g ∈ Ws, g = gS ∨ wi.heap.size ≤ g) → g ∉ Ws := fun b hb g hg Ws hW hh => by
  have h1 := (Si.own b hb g hg).2
  rcases hW g hh with rfl | h2
  ·simp only [List.mem_cons, List.not_mem_nil, or_false] at hb
   rcases hb with rfl | rfl | rfl | rfl | rfl <;> exact v5a h1 hSi (by decide) rfl
  ·have := h1.lt; simp at this; omega
 have hEnt2 : ∀ b ∈ ([(some g7, 31, [.int .i64 0]), (some g6, 3, [.int .i64 0]), (some g5, 76, [.func (.func f) #[] caps.toArray]), (some g4, 3, [.int .i64 limit]), (some g3, 70, [.pointer (some ⟨gS, 0, none⟩)])] : List Ent), ∀ g, b.1 = some g → w0.heap.size ≤ g ∧ g < wi.heap.size := fun b hb g hg => by
  simp only [List.mem_cons, List.not_mem_nil, or_false] at hb
  rcases hb with rfl | rfl | rfl | rfl | rfl <;> (simp only [Option.some.injEq] at hg; subst hg; omega)
 refine M0a.mono (U3c p m hm gP gS l c0 c1 c2 c3 (l :: mk :: Bs0) ([g6, g7] ++ M0) limit hlim wi (fun k Bs Ts w => ∃ Ba, Bs = l :: mk :: Ba ∧ k ≤ limit ∧ J0 k Ba (l :: mk :: g6 :: g7 :: Ts) w ∧ NC w [(l, .loop rc), (mk, .deferred (some []))] ∧ St (gS :: Bs0) w0 w [(some g7, 31, [.int .i64 0]), (some g6, 3, [.int .i64 0]), (some g5, 76, [.func (.func f) #[] caps.toArray]), (some g4, 3, [.int .i64 limit]), (some g3, 70, [.pointer (some ⟨gS, 0, none⟩)])] ∧ (∀ g ∈ Ba, g ∈ Bs0 ∨ wi.heap.size ≤ g) ∧ ∀ V, E3a p m V → ∀ j y, j < k → V[j]? = some y → acc y.conf = false) (fun w => ∃ i err, NC w [(l, .loop { rc with state := .done, pending := some .ret }), (mk, .deferred (some []))] ∧ St (gS :: Bs0) w0 w [(some g7, 31, [.int .i64 err]), (some g6, 3, [.int .i64 i]), (some g5, 76, [.func (.func f) #[] caps.toArray]), (some g4, 3, [.int .i64 limit]), (some g3, 70, [.pointer (some ⟨gS, 0, none⟩)])] ∧ r6a p m limit gS c0 c1 c2 c3 [l, mk, g6, g7] ([l, mk, g6, g7] ++ M0) w0 acc J0 w i err) hIi hPi hSi (fun hh => ?_) (fun hh => ?_) ⟨?_, ?_, fun k Bs Ts w V v hJ hTs hTw hvis hlen hblk2 hgS2 hrd hwb => ?_⟩ ⟨Bs0, rfl, Nat.zero_le _, hJi, hO1, Si, fun g hg => .inl hg, fun V _ j y hj => absurd hj (by omega)⟩) ?_
 ·simp only [List.mem_cons] at hh
  have := hPi.lt
  rcases hh with rfl | rfl | hh
  ·have h1 := (hO1 (gP, .loop rc) (by simp)).1
   unfold p0a at hPi; rw [hPi] at h1; cases h1
  ·have h1 := (hO1 (gP, .deferred (some [])) (by simp)).1
   unfold p0a at hPi; rw [hPi] at h1; cases h1
  ·have := hB0 gP hh; omega
 ·simp only [List.mem_cons] at hh
  rcases hh with hh | hh | hh
  ·omega
  ·omega
  ·exact hgS hh
 ·rintro k Bs Ws Ws' w w' ⟨Ba, rfl, hk, hj, hO, S3, hBa, hno⟩ hW hW' hBW
  have hWi : ∀ g ∈ Ws, g = gS ∨ wi.heap.size ≤ g := fun g hg => (hW g hg).2
  exact ⟨Ba, rfl, hk, hA.own k Ba _ _ w w' hj (hTs0 Ba Ws hBa hW) (fun g hg => by
   simp only [List.mem_cons] at hg ⊢
   rcases hg with rfl | rfl | rfl | rfl | hg
   ·simp
   ·simp
   ·simp
   ·simp
   ·rcases hW' g hg with h | h
    ·simp [h]
    ·exact .inr h) ((w0a.of_belowM hBW).mono (fun g hg => by simp [hg])), hO.keepW (w0a.of_belowM hBW) (fun x hx hh => by
   simp only [List.mem_cons, List.not_mem_nil, or_false] at hx
   rcases hx with rfl | rfl
   ·exact (hW _ hh).1 (by simp)
   ·exact (hW _ hh).1 (by simp)), S3.keepsW hBW (fun g hg hlt => (hWi g hg).elim (fun h => by simp [h]) (fun h => by omega)) (fun b hb g hg => hEnt b hb g hg Ws hWi), hBa, hno⟩
 ·rintro k Bs Ts w ⟨Ba, rfl, hk, hj, hO, S3, hBa, hno⟩ g hg
  simp only [List.mem_cons] at hg
  rcases hg with rfl | rfl | hg
  ·exact hO.lt (g, .loop rc) (by simp)
  ·exact hO.lt (g, .deferred (some [])) (by simp)
  ·exact hA.lt k Ba _ w hj g hg
 ·obtain ⟨Ba, rfl, hk, hj, hO3, S3, hBa, hno⟩ := hJ
  have z3 := S3.size
  have nBa : ∀ g, w0.heap.size ≤ g → g < wi.heap.size → g ∉ Ba := fun g h1 h2 hh => by
   rcases hBa g hh with h | h
   ·have := hB0 g h; omega
   ·omega
  refine f4c (hO3 (l, .loop rc) (by simp)).1 hst htm henv hps has hbo rfl ?_
  refine wI ?_
  refine wF0 rfl ⟨⟩ ?_
  refine ⟨(hO3 (l, .loop rc) (by simp)).1, ?_⟩
  have Sb := S3.putObj (.loop { rc with state := .busy }) hO3 (List.mem_cons_self) (.inl (by omega))
  have hOb := hO3.put (o' := .loop { rc with state := .busy }) hlne (by simp)
  have Kw : w0a [l] w (w.putObj l (.loop { rc with state := .busy })) := M1a w l (.loop { rc with state := .busy })
  generalize w.putObj l (.loop { rc with state := .busy }) = wb at Sb hOb Kw ⊢
  have hSb := q1a Kw (by simp; omega) hblk2
  have hrb : RdS (l :: mk :: (Ba ++ ([g6, g7] ++ M0))) wb 7 (N5a (Ts ++ (l :: mk :: (Ba ++ ([g6, g7] ++ M0)))) wb) v V := RdS.keepW hrd (Kw.mono (by simp)) (fun _ _ => N5a.keep (Kw.mono (by simp)))
  have hT3 := hTs0 Ba Ts hBa hTs
  have hjb := hA.own k Ba _ _ w wb hj hT3 (fun g hg => .inl hg) (Kw.mono (by simp))
  obtain ⟨Av, nv, cv, rfl⟩ := hrb.form
  obtain ⟨_, -, _⟩ := hrb.len
  have cV := hSb.cell (o := 5) rfl
  refine wI ?_
  refine wO0 rfl ⟨⟩ (s0a C0a rfl (by exact Sb.cell 3 rfl rfl) rfl ?_)
  refine lB0 rfl ⟨⟩ (fun h14 => ?_) fun h14 => ?_
  ·refine lO0 rfl ⟨⟩ (I0a (kk := 1) Sb V0b rfl (by conv => lhs; whnf) rfl rfl (by exact Nat.le_of_ble_eq_true rfl) ?_)
   intro w4_0 S4_0 X4_0
   replace hOb := by exact hOb.keepS X4_0 (Sb.blk 1 rfl)
   refine I0a (kk := 0) S4_0 w7a rfl (by conv => lhs; whnf) rfl rfl (by exact Nat.le_of_ble_eq_true rfl) ?_
   intro w4_1 S4_1 X4_1
   replace hOb := by exact hOb.keepS X4_1 (S4_0.blk 0 rfl)
   refine lR0 rfl ⟨⟩ ?_
   refine ⟨{ rc with state := .busy }, (hOb (l, _) (by simp)).1, .inr ⟨rfl, ?_⟩⟩
   have hOn := hOb.put (o' := .loop { rc with state := .done, pending := some .ret }) hlne (by simp)
   have Sn := S4_1.putObj (.loop { rc with state := .done, pending := some .ret }) hOb (List.mem_cons_self) (.inl (by omega))
   have Kx := M1a w4_1 l (.loop { rc with state := .done, pending := some .ret })
   exact ⟨_, _, hOn, Sn, .inr (.inl ⟨rfl, V, hvis, by omega, fun j y hj hy => hno V hvis j y (by omega) hy⟩)⟩
  refine lC0 rfl ⟨⟩ (D0a b0a [0, 1, 2, 3, 4, 5, 6, 7, 8] [] [9] (by kernel_rfl) rfl (Cl _ _ _ _) (Cl.start Sb) ?_)
  refine h0a p3c rfl (fun w1 hw => by exact hw.1.cell 2 rfl rfl) rfl ?_
  refine h0a p4a rfl (fun w1 hw => by exact hw.1.cell 4 rfl rfl) rfl ?_
  refine qO0 rfl ⟨⟩ (h0a g7a rfl (fun w1 hw => by exact hw.2.cell List.not_mem_nil cV) rfl ?_)
  obtain ⟨y, b21, p21, _, hxy, hA21, _, _, hc21, hr21⟩ := RdS.get (hrb) (k) (by omega)
  obtain ⟨_, rfl, hX21, -, -⟩ := hr21
  obtain ⟨Xm, xm, ym, Xa, xa, ya, Xb, xb, yb, rfl, -⟩ := hX21.open_
  refine qO Sb.q [.x b21 p21] rfl ⟨⟨hA21,by omega⟩,⟨⟩⟩ (I1a p1a rfl (fun w1 hw => (show k1a wb b21 (p21 + k * 7) [.slice Xm xm ym, .slice Xa xa ya, .slice Xb xb yb] from k1a.sub hc21 0 3).keep hw.2 List.not_mem_nil) rfl rfl ?_)
  refine qD rfl ⟨⟩ ?_
  rintro wR5 ⟨SR5, XR5⟩
  replace hOb := hOb.keep XR5
  have hcall := hA.call k Ba _ wR5 V y _ (hA.own k Ba _ _ _ _ hjb hT3 (fun g hg => .inl hg) XR5.of_nil) hT3 hvis hlen hxy ((hX21.more (fun g hg => by simp only [List.mem_append, List.mem_cons] at hg ⊢; grind)).keep XR5.of_nil) (by have := SR5.size; omega) (by omega)
  refine w4a hA.has rfl rfl rfl hcall ?_
  rintro v24 w24 ⟨rfl, Ba', hj', hBB, hF'⟩
  have Wz := hBB.size
  have Wx := XR5.size
  have Ww := Kw.size
  replace hOb := hOb.keepW (w0a.of_belowM hBB) (fun x hx hh => by
   simp only [List.mem_cons, List.not_mem_nil, or_false] at hx
   rcases hx with rfl | rfl
   ·exact nBa l (by omega) (by omega) hh
   ·exact nBa mk (by omega) (by omega) hh)
  have S24 := SR5.keepsW hBB (fun g hg hlt => (hBa g hg).elim (fun h => by simp [h]) (fun h => by omega)) (fun b hb g hg hh => nBa g (hEnt2 b hb g hg).1 (hEnt2 b hb g hg).2 hh)
  have hBa' : ∀ g ∈ Ba', g ∈ Bs0 ∨ wi.heap.size ≤ g := fun g hg => by
   rcases hF' g hg with h | h
   ·exact hBa g h
   ·right; omega
  have nB2 : ∀ g, w0.heap.size ≤ g → g < wi.heap.size → g ∉ Ba' := fun g h1 h2 hh => by
   rcases hBa' g hh with h | h
   ·have := hB0 g h; omega
   ·omega
  have hT4 := hTs0 Ba' Ts hBa' (fun g hg => ⟨fun hh => by
   simp only [List.mem_cons] at hh
   rcases hh with hh | hh | hh
   ·exact (hTs g hg).1 (by simp [hh])
   ·exact (hTs g hg).1 (by simp [hh])
   ·rcases hF' g hh with h | h
    ·exact (hTs g hg).1 (by simp [h])
    ·have := hTw g hg; omega, (hTs g hg).2⟩)
  have hT5 : Q8c gS w0 Ba' [l, mk, g6, g7] (l :: mk :: g6 :: g7 :: Ts) := ⟨fun g hg => by simp at hg ⊢; grind, hT4⟩
  have KR := w0a.refl [g6, g7] w24
  cases hacc : acc y.conf
  ·refine lF0 rfl ⟨⟩ ?_
   refine ⟨{ rc with state := .busy }, (hOb (l, _) (by simp)).1, .inl ⟨rfl, ?_⟩⟩
   have hOn := hOb.put (o' := .loop rc) hlne (by simp)
   have Sn := S24.putObj (.loop rc) hOb (List.mem_cons_self) (.inl (by omega))
   have Kn := M1a w24 l (.loop rc)
   rw [O1b hst hpe]
   refine ⟨by omega, l :: mk :: Ba', ⟨Ba', rfl, by omega, hA.own _ _ _ _ _ _ hj' hT4 (fun g hg => .inl hg) (Kn.mono (by simp)), hOn, Sn, hBa', fun V' hV' j y' hj hy' => ?_⟩, ?_, fun g hg => ?_⟩
   ·by_cases hjk : j < k
    ·exact hno V' hV' j y' hjk hy'
    ·obtain rfl : j = k := by omega
     have hl := (List.getElem?_eq_some_iff.1 hy').1
     obtain rfl := Option.some.inj ((x6a (hvis.cmp hV' (by omega)) hxy).symm.trans hy')
     exact hacc
   ·exact (((Kw.mono (by simp)).trans XR5.of_nil).trans ((w0a.of_belowM hBB).mono (fun g hg => by simp [hg]))).trans (Kn.mono (by simp))
   ·simp only [List.mem_cons] at hg ⊢
    rcases hg with rfl | rfl | hg
    ·exact .inl (.inl rfl)
    ·exact .inl (.inr (.inl rfl))
    ·rcases hF' g hg with h | h
     ·exact .inl (.inr (.inr h))
     ·right; omega
  refine lO0 rfl ⟨⟩ (I0a (kk := 1) S24 V0b rfl (by conv => lhs; whnf) rfl rfl (by exact Nat.le_of_ble_eq_true rfl) ?_)
  intro w6_1 S6_1 X6_1
  replace KR := KR.fresh2 X6_1 (by exact .inr (by simp))
  replace hOb := by exact hOb.keepS X6_1 (S24.blk 1 rfl)
  refine I0a (kk := 0) S6_1 w7a rfl (by conv => lhs; whnf) rfl rfl (by exact Nat.le_of_ble_eq_true rfl) ?_
  intro w6_2 S6_2 X6_2
  replace KR := KR.fresh2 X6_2 (by exact .inr (by simp))
  replace hOb := by exact hOb.keepS X6_2 (S6_1.blk 0 rfl)
  refine lR0 rfl ⟨⟩ ?_
  refine ⟨{ rc with state := .busy }, (hOb (l, _) (by simp)).1, .inr ⟨rfl, ?_⟩⟩
  have hOn := hOb.put (o' := .loop { rc with state := .done, pending := some .ret }) hlne (by simp)
  have Sn := S6_2.putObj (.loop { rc with state := .done, pending := some .ret }) hOb (List.mem_cons_self) (.inl (by omega))
  have Kx := M1a w6_2 l (.loop { rc with state := .done, pending := some .ret })
  have hS24 : p0a w24 (gS, 73, [c0, c1, c2, c3, .int .i64 m, .slice Av nv cv]) := q1a (w0a.of_belowM hBB) (fun hh => hgS2 (by simp only [List.mem_cons]; exact .inr (.inr hh))) (q1a XR5 (by simp) hSb)
  have hk24 : w0a (l :: mk :: (Ba ++ ([g6, g7] ++ M0))) wb w24 := (XR5.of_nil).trans ((w0a.of_belowM hBB).mono (fun g hg => by simp [hg]))
  have hrb' : RdS ((l :: mk :: Ba) ++ ([g6, g7] ++ M0)) wb 7 (N5a ((l :: mk :: Ba) ++ ([g6, g7] ++ M0)) wb) (.slice Av nv cv) V := RdS.mono (show RdS ((l :: mk :: Ba) ++ ([g6, g7] ++ M0)) wb 7 (N5a (Ts ++ (l :: mk :: (Ba ++ ([g6, g7] ++ M0)))) wb) (.slice Av nv cv) V from hrb) (fun _ _ hr => N5a.more (fun g hg => .inl (by simp at hg ⊢; grind)) hr)
  have hr24 : RdS (Ba' ++ ([l, mk, g6, g7] ++ M0)) w24 7 (N5a (Ba' ++ ([l, mk, g6, g7] ++ M0)) w24) (.slice Av nv cv) V := Y6b (A := l :: mk :: Ba) hrb' ((XR5.of_nil).trans ((w0a.of_belowM hBB).mono (fun g hg => by simp [hg]))) (fun g hg => ?_)
  ·exact ⟨_, _, hOn, Sn, r6a.keep hA (A := [l, g6, g7]) (w := w24) (.inl ⟨rfl, k, V, _, Ba', l :: mk :: g6 :: g7 :: Ts, rfl, hvis, hlen, by omega, fun j y hj hy => hno V hvis j y hj hy, ⟨y, hxy, hacc⟩, hT5, hS24, hr24, hj'⟩) ((KR.mono (by simp)).trans (Kx.mono (by simp))) (fun g hg => by simp only [List.mem_cons, List.not_mem_nil, or_false] at hg; rcases hg with rfl | rfl | rfl <;> exact ⟨by simp, by simp⟩) (by simp; omega)⟩
  ·simp only [List.mem_append, List.mem_cons, List.not_mem_nil, or_false] at hg ⊢
   rcases hg with hg | (rfl | rfl | rfl | rfl) | hg
   ·rcases hF' g hg with h | h
    ·simp [h]
    ·right; have := XR5.size; omega
   ·simp
   ·simp
   ·simp
   ·simp
   ·simp [hg]
 rintro v w3 (⟨N3, Bs3, hN3, hN4, Ts, hT3, Ba, rfl, hk, hj, hO3, S3, hBa, hno⟩ | ⟨i, err, hO3, S3, hF⟩)
 rotate_left
 ·refine ⟨{ rc with state := .done, pending := some .ret }, (hO3 (l, _) List.mem_cons_self).1, by simp, .inr ⟨rfl, ?_⟩⟩
  have Sa := S3.putObj (.loop { rc with state := .exhausted, pending := some .ret }) hO3 (List.mem_cons_self) (.inl (by omega))
  have hOa := (hO3.put (o' := .loop { rc with state := .exhausted, pending := some .ret }) hlne (by simp)).tail
  have Ka := M1a w3 l (.loop { rc with state := .exhausted, pending := some .ret })
  have hFa := hF.keep hA (A := [l]) Ka (fun g hg => by rw [List.mem_singleton] at hg; subst hg; exact ⟨by simp, by simp⟩) (by simp; omega)
  exact z9a rfl C0a U8b rfl rfl [mk] (by rw [hmk]; rfl) (by simp) hOa (Sa.cell 1 rfl rfl) (Sa.cell 0 rfl rfl) (by simp; omega) (by simp; omega) (fun w' hb => ⟨⟨i, err, rfl, (hFa.keep hA (A := [mk]) (w0a.of_belowM hb) (fun g hg => by rw [List.mem_singleton] at hg; subst hg; exact ⟨by simp, by simp⟩) (by simp; omega)).less (by simp) (fun g hg => by simp [hg])⟩, v0a.stepM Sa.below hb (fun g hg => by rw [List.mem_singleton] at hg; omega)⟩)
 refine ⟨rc, (hO3 (l, .loop rc) (by simp)).1, by rw [hst]; simp, .inl ⟨hpe, ?_⟩⟩
 have Sa := S3.putObj (.loop { rc with state := .exhausted }) hO3 (List.mem_cons_self) (.inl (by omega))
 have hOa := (hO3.put (o' := .loop { rc with state := .exhausted }) hlne (by simp)).tail
 have Ka := M1a w3 l (.loop { rc with state := .exhausted })
 have hF3 : r6a p m limit gS c0 c1 c2 c3 [l, mk, g6, g7] ([l, mk, g6, g7] ++ M0) w0 acc J0 w3 0 4 := .inr (.inr ⟨rfl, N3, Ba, l :: mk :: g6 :: g7 :: Ts, hN3, hN4, fun y hy => by
  obtain ⟨j, hj2, rfl⟩ := List.getElem_of_mem hy
  exact hno _ ⟨N3, List.prefix_refl _⟩ j _ hj2 (List.getElem?_eq_getElem hj2), ⟨fun g hg => by simp at hg ⊢; grind, hTs0 Ba Ts hBa hT3⟩, hj⟩)
 have hFa := hF3.keep hA (A := [l]) Ka (fun g hg => by rw [List.mem_singleton] at hg; subst hg; exact ⟨by simp, by simp⟩) (by simp; omega)
 generalize w3.putObj l (.loop { rc with state := .exhausted }) = wa at Sa hOa hFa ⊢
 have KA := w0a.refl [g6, g7] wa
 refine fO0 rfl ⟨⟩ (I0a (kk := 1) Sa V0b rfl (by conv => lhs; whnf) rfl rfl (by exact Nat.le_of_ble_eq_true rfl) ?_)
 intro w7_0 S7_0 X7_0
 replace KA := KA.fresh2 X7_0 (by exact .inr (by simp))
 replace hOa := by exact hOa.keepS X7_0 (Sa.blk 1 rfl)
 refine I0a (kk := 0) S7_0 w7a rfl (by conv => lhs; whnf) rfl rfl (by exact Nat.le_of_ble_eq_true rfl) ?_
 intro w7_1 S7_1 X7_1
 replace KA := KA.fresh2 X7_1 (by exact .inr (by simp))
 replace hOa := by exact hOa.keepS X7_1 (S7_0.blk 0 rfl)
 refine lR0 rfl ⟨⟩ ?_
 exact z9a rfl C0a U8b rfl rfl [mk] (by rw [hmk]; rfl) (by simp) hOa (S7_1.cell 1 rfl rfl) (S7_1.cell 0 rfl rfl) (by simp; omega) (by simp; omega) (fun w' hb => ⟨⟨0, 4, rfl, ((hFa.keep hA (A := [g6, g7]) KA (fun g hg => by simp only [List.mem_cons, List.not_mem_nil, or_false] at hg; rcases hg with rfl | rfl <;> exact ⟨by simp, by simp⟩) (by simp; omega)).keep hA (A := [mk]) (w0a.of_belowM hb) (fun g hg => by rw [List.mem_singleton] at hg; subst hg; exact ⟨by simp, by simp⟩) (by simp; omega)).less (by simp) (fun g hg => by simp [hg])⟩, v0a.stepM S7_1.below hb (fun g hg => by rw [List.mem_singleton] at hg; omega)⟩)
def o6a (p : f0a) (m : Int) (limit : Nat) (l : List q0a) (err : Int) : Prop :=
 (err = 0 ∧ ∃ n, (P2a p m n).length ≤ n ∧ (P2a p m n).length ≤ limit ∧ l = Y1a (P2a p m n)) ∨ (err = 2 ∧ l = [] ∧ ∃ V, E3a p m V ∧ V.length = limit + 1)
theorem e3b {p : f0a} {m : Int} {V : List u2a} (h : E3a p m V) : (Y1a V).Nodup := by
 obtain ⟨n, hn⟩ := h
 have := Z8a (E5a p m) (X0a p) n
 rw [← O4a] at this
 exact List.Sublist.nodup (hn.sublist.map _) this
theorem u4b (p : f0a) (m : Int) (n : Nat) : E3a p m (P2a p m n) := ⟨n, List.prefix_refl _⟩
theorem E9b {p : f0a} {m : Int} {n k : Nat} (h1 : (P2a p m n).length ≤ n) (h2 : (P2a p m k).length ≤ k) : P2a p m n = P2a p m k :=
 List.IsPrefix.eq_of_length_le ((u4b p m n).done h2) ((u4b p m k).done h1).length_le
theorem d6a {p : f0a} {m : Int} {limit : Nat} {l : List q0a} (h : o6a p m limit l 0) (c : q0a) : c ∈ l ↔ L3a (E5a p m) (X0a p) c := by
 rcases h with ⟨_, n, h1, _, rfl⟩ | ⟨h, _⟩
 ·rw [O4a]
  exact ⟨L5a _ _ n c, i9b _ _ (by rw [← O4a, List.length_map]; exact h1)⟩
 ·cases h
theorem t3b {p : f0a} {m : Int} {limit : Nat} {l : List q0a} {err : Int} (h : o6a p m limit l err) : l.Nodup := by
 rcases h with ⟨_, n, _, _, rfl⟩ | ⟨_, rfl, _⟩
 ·exact e3b (u4b p m n)
 ·exact List.nodup_nil
theorem J0b {p : f0a} {m : Int} {limit : Nat} {l : List q0a} {err : Int} (h : o6a p m limit l err) : l.length ≤ limit := by
 rcases h with ⟨_, n, _, h, rfl⟩ | ⟨_, rfl, _⟩
 ·rw [List.length_map]; exact h
 ·simp
theorem O7a {p : f0a} {m : Int} {limit : Nat} {l : List q0a} {err : Int} (h : o6a p m limit l err) : err = 0 ∨ (err = 2 ∧ l = []) := by
 rcases h with ⟨h, _⟩ | ⟨h, h2, _⟩
 ·exact .inl h
 ·exact .inr ⟨h, h2⟩
theorem a5b {p : f0a} {m m' : Int} {limit : Nat} {l l' : List q0a} {err : Int} (h : o6a p m limit l 0) (h' : o6a p m' limit l' err) (hs : ∀ c, L3a (E5a p m') (X0a p) c → L3a (E5a p m) (X0a p) c) : err = 0 ∧ ∀ c ∈ l', c ∈ l := by
 rcases O7a h' with rfl | ⟨rfl, rfl⟩
 ·exact ⟨rfl, fun c hc => (d6a h c).2 (hs c ((d6a h' c).1 hc))⟩
 ·rcases h' with ⟨h0, _⟩ | ⟨_, _, V, hV, hl⟩
  ·cases h0
  ·have h1 := List.Nodup.length_le_of_subset (e3b hV) (l₂ := l) (fun c hc => by
    obtain ⟨_, hy, rfl⟩ := List.mem_map.1 hc
    exact (d6a h _).2 (hs _ (Y6a hV hy)))
   rw [List.length_map] at h1
   have := J0b h
   omega
theorem O6b {p : f0a} {m : Int} {limit : Nat} {l : List q0a} {err : Int} (hp : b1a p) (h : o6a p m limit l err) : ∀ c ∈ l, D3a p c := fun c hc => by
 rcases O7a h with rfl | ⟨rfl, rfl⟩
 ·exact i4a hp ((d6a h c).1 hc)
 ·cases hc
def t4a (V : List u2a) : Nat → Nat → List A0a
 | 0, _ => []
 | n + 1, i => match V[i]? with
   | some y => if 0 ≤ y.frm then y.ch :: t4a V n y.frm.toNat else []
   | none => []
def b4c (p : f0a) (m : Int) (aim : Bool) (acc : q0a → Bool) (limit : Nat) (v : List A0a) (h : Int) : Prop :=
 (aim = false ∧ h = 1 ∧ v = []) ∨
 (∃ (k : Nat) (V : List u2a), E3a p m V ∧ V.length = k + 1 ∧ k < limit ∧ (∀ j y, j < k → V[j]? = some y → acc y.conf = false) ∧ (∃ y, V[k]? = some y ∧ acc y.conf = true) ∧
   aim = true ∧ ((120 < (t4a V (k + 1) k).length ∧ h = 2 ∧ v = []) ∨ ((t4a V (k + 1) k).length ≤ 120 ∧ h = 0 ∧ v = (t4a V (k + 1) k).reverse))) ∨
 (aim = true ∧ h = 2 ∧ v = [] ∧ ∃ V, E3a p m V ∧ V.length = limit + 1 ∧ ∀ j y, j < limit → V[j]? = some y → acc y.conf = false) ∨
 (aim = true ∧ h = 4 ∧ v = [] ∧ ∃ n, (P2a p m n).length ≤ n ∧ (P2a p m n).length ≤ limit ∧ ∀ y ∈ P2a p m n, acc y.conf = false)
theorem s7a (p : f0a) (M : List Nat) (w0 : World) (cs : List Value) (hI : InP p M w0 cs) :
 M0a Tryz.prog 48 #[.agg cs.toArray] w0 fun v w' => v = .bool true ∧ Below w0.heap.size w0 w' := by
 obtain ⟨_, _, _, _, _, _, _, _, _, _, _, _, rfl, _, _, _, _, _, _, _, _, _, _, _, _⟩ := hI.rd.open_
 have S := St.refl w0
 refine a0a Tryz.func48 rfl Tryz.ntmps48 rfl ?_
 refine wO0 rfl ⟨⟩ (j0a S (by conv => lhs; whnf) rfl ?_)
 intro g1 w1 S1 X1 G1
 refine lO S1.k [.w 0] rfl ⟨⟨rfl,by rfl⟩,⟨⟩⟩ (g0a S1 I9b rfl rfl (k9a p M _ _ (hI.keep (S1.keep0 M)).rd hI.ok (hI.keep (S1.keep0 M)).msk (hI.keep (S1.keep0 M)).lt) ?_)
 intro w8 S8 X8
 refine lB0 rfl ⟨⟩ (fun h13 => ?_) (fun h13 => by exfalso; omega)
 exact lT rfl ⟨⟩ rfl ⟨rfl, S8.fin⟩
def M2a (m lim : Int) : Bool := (m == 0 || m == 1 || m == 2) && (decide (1 ≤ lim) && decide (lim ≤ 20000))
theorem c8a (p : f0a) (m lim : Int) (M : List Nat) (w0 : World) (cs : List Value) (hI : InP p M w0 cs) :
 M0a Tryz.prog 24 #[.agg cs.toArray, .int .i64 m, .int .i64 lim] w0 fun v w' => v = .bool (M2a m lim) ∧ Below w0.heap.size w0 w' := by
 obtain ⟨_, _, _, _, _, _, _, _, _, _, _, _, rfl, _, _, _, _, _, _, _, _, _, _, _, _⟩ := hI.rd.open_
 have S := St.refl w0
 refine a0a Tryz.func24 rfl Tryz.ntmps24 rfl ?_
 refine wO0 rfl ⟨⟩ (j0a S (by conv => lhs; whnf) rfl ?_)
 intro g3 w3 S3 X3 G3
 refine lB0 rfl ⟨⟩ (fun h8 => ?_) fun h8 => ?_
 ·refine lB0 rfl ⟨⟩ (fun h11 => ?_) fun h11 => ?_
  ·refine lB0 rfl ⟨⟩ (fun h15 => ?_) fun h15 => ?_
   ·refine lR0 rfl ⟨⟩ (r0a rfl (by conv => lhs; whnf) ?_)
    (refine ⟨?_, S3.fin⟩; unfold M2a; simp_all <;> omega)
   refine lB0 rfl ⟨⟩ (fun h18 => ?_) fun h18 => ?_
   ·refine lB0 rfl ⟨⟩ (fun h21 => ?_) fun h21 => ?_
    ·refine lO S3.k [.w 0] rfl ⟨⟨rfl,by rfl⟩,⟨⟩⟩ (g0a S3 y5b rfl rfl (s7a p M _ _ (hI.keep (S3.keep0 M))) ?_)
     intro w25 S25 X25
     refine lR0 rfl ⟨⟩ (r0a rfl (by conv => lhs; whnf) ?_)
     (refine ⟨?_, S25.fin⟩; unfold M2a; simp_all <;> omega)
    refine lR0 rfl ⟨⟩ (r0a rfl (by conv => lhs; whnf) ?_)
    (refine ⟨?_, S3.fin⟩; unfold M2a; simp_all <;> omega)
   refine lR0 rfl ⟨⟩ (r0a rfl (by conv => lhs; whnf) ?_)
   (refine ⟨?_, S3.fin⟩; unfold M2a; simp_all <;> omega)
  refine lB0 rfl ⟨⟩ (fun h18 => ?_) fun h18 => ?_
  ·refine lB0 rfl ⟨⟩ (fun h21 => ?_) fun h21 => ?_
   ·refine lO S3.k [.w 0] rfl ⟨⟨rfl,by rfl⟩,⟨⟩⟩ (g0a S3 y5b rfl rfl (s7a p M _ _ (hI.keep (S3.keep0 M))) ?_)
    intro w25 S25 X25
    refine lR0 rfl ⟨⟩ (r0a rfl (by conv => lhs; whnf) ?_)
    (refine ⟨?_, S25.fin⟩; unfold M2a; simp_all <;> omega)
   refine lR0 rfl ⟨⟩ (r0a rfl (by conv => lhs; whnf) ?_)
   (refine ⟨?_, S3.fin⟩; unfold M2a; simp_all <;> omega)
  refine lR0 rfl ⟨⟩ (r0a rfl (by conv => lhs; whnf) ?_)
  (refine ⟨?_, S3.fin⟩; unfold M2a; simp_all <;> omega)
 refine lB0 rfl ⟨⟩ (fun h18 => ?_) fun h18 => ?_
 ·refine lB0 rfl ⟨⟩ (fun h21 => ?_) fun h21 => ?_
  ·refine lO S3.k [.w 0] rfl ⟨⟨rfl,by rfl⟩,⟨⟩⟩ (g0a S3 y5b rfl rfl (s7a p M _ _ (hI.keep (S3.keep0 M))) ?_)
   intro w25 S25 X25
   refine lR0 rfl ⟨⟩ (r0a rfl (by conv => lhs; whnf) ?_)
   (refine ⟨?_, S25.fin⟩; unfold M2a; simp_all <;> omega)
  refine lR0 rfl ⟨⟩ (r0a rfl (by conv => lhs; whnf) ?_)
  (refine ⟨?_, S3.fin⟩; unfold M2a; simp_all <;> omega)
 refine lR0 rfl ⟨⟩ (r0a rfl (by conv => lhs; whnf) ?_)
 (refine ⟨?_, S3.fin⟩; unfold M2a; simp_all <;> omega)
theorem B8b (gl : Nat) (M2 : List Nat) (w0 : World) (G : Option Nat) (cs : List Value) (v : Value) (l : List q0a) (c : q0a) (ys : List Value) (hb : p0a w0 (gl, 30, [v])) (hrow : Q1a f3a 3 (gl :: M2) w0 G cs v l) (h0 : G = none → cs = []) (hbG : ∀ g, G = some g → p0a w0 (g, 38, cs)) (hX : t0a (G.toList ++ (gl :: M2)) w0 c ys) (hl : l.length ≤ 100000) :
 M0a Tryz.prog 26 #[.agg ys.toArray, .pointer (some ⟨gl, 0, none⟩)] w0 fun r w' => r = .bool false ∧ ∃ G' cs' v', p0a w' (gl, 30, [v']) ∧ Q1a f3a 3 (gl :: M2) w' G' cs' v' (l ++ [c]) ∧ (G' = none → cs' = []) ∧ (∀ g, G' = some g → p0a w' (g, 38, cs')) ∧ v0a (gl :: G.toList) w0 w' ∧ ∀ g ∈ G'.toList, g ∈ G.toList ∨ w0.heap.size ≤ g := by
 obtain ⟨_, _, _, _, _, _, _, _, _, rfl, -⟩ := hX.open_
 have S : St (gl :: G.toList) w0 w0 [(some gl, 30, [v]), (G, 38, cs)] := ((St.base _ w0).pushO h0 hbG (fun g hg => by rw [hg]; simp) (fun g hg b hb => by simp at hb)).push hb (.inr (by simp)) (fun b hb' he => by
  simp only [List.mem_singleton] at hb'; subst hb'
  exact v5a (hbG gl he) hb (by decide) rfl)
 obtain ⟨_, _, rfl⟩ := hrow.form
 refine a0a Tryz.func26 rfl Tryz.ntmps26 rfl ?_
 refine wO0 rfl ⟨⟩ (j0a S (by conv => lhs; whnf) rfl ?_)
 intro g2 w2 S2 X2 G2
 refine lO0 rfl ⟨⟩ (s0a m8b rfl (by exact S2.cell 1 rfl rfl) rfl ?_)
 refine lO S2.k [.w 0] rfl ⟨⟨rfl,by rfl⟩,⟨⟩⟩ (E0a S2 c9b (vs := [.agg _]) (cs := [_, _, _]) (by rfl) rfl rfl rfl rfl rfl rfl ?_)
 intro g6 w6 S6 X6 G6
 have z7 := S6.size
 refine C1a M8a (k := 3) (M2 := gl :: M2) (e1 := c) S6 c9b (by decide) rfl (hrow.keep M8a (S6.keepM.mono (fun g hg => by simp at hg ⊢; grind))) rfl rfl (S6.cells 0 rfl) (t0a.keep (S6.keepM.mono (fun g hg => by simp at hg ⊢; grind)) hX) (by omega) rfl ?_
 intro v7 G7 cs7 w7 S7 hrow7 X7 F7
 obtain ⟨_, _, rfl⟩ := hrow7.form
 have KS := w0a.refl [gl] w7
 refine I0a (kk := 2) S7 T8c rfl (by conv => lhs; whnf) rfl rfl (by exact Nat.le_of_ble_eq_true rfl) ?_
 intro w1_4 S1_4 X1_4
 replace KS := KS.fresh2 X1_4 (by first  | exact .inr (by simp))
 refine lR0 rfl ⟨⟩ (r0a rfl (by conv => lhs; whnf) ?_)
 (have hr8 := hrow7.keep M8a (KS.mono (fun g hg => by simp at hg ⊢; grind)); exact ⟨rfl, G7, cs7, _, S1_4.blk 2 rfl, hr8, fun h => by subst h; exact absurd (s1b hr8) (by simp), fun g hg => S1_4.blk 3 (by rw [hg]; rfl), S1_4.below, fun g hg => (F7 g hg).imp id (fun h => by omega)⟩)
def v6b (p : f0a) (m : Int) (gl : Nat) (M0 : List Nat) (wf : World) (k : Nat) (Bs Ts : List Nat) (w : World) : Prop :=
 ∃ G cs v V, Bs = gl :: G.toList ∧ V.length = k ∧ E3a p m V ∧ p0a w (gl, 30, [v]) ∧ Q1a f3a 3 (gl :: (Ts ++ M0)) w G cs v (Y1a V) ∧ (G = none → cs = []) ∧ (∀ g, G = some g → p0a w (g, 38, cs)) ∧ ∀ g ∈ G.toList, wf.heap.size ≤ g
theorem K9b (p : f0a) (m : Int) (gS gl : Nat) (M0 : List Nat) (wf : World) (hb : p0a wf (gl, 30, [.slice none 0 0])) : Acc p m gS 26 [.pointer (some ⟨gl, 0, none⟩)] [gl] M0 wf (fun _ => false) (v6b p m gl M0 wf) where
 has := p8c
 start := ⟨none, [], _, [], rfl, rfl, ⟨0, List.nil_prefix⟩, hb, Q1a.nil, fun _ => rfl, fun g hg => (by cases hg), fun g hg => by simp at hg⟩
 own := by
  rintro k Bs Ts Ts' w w' ⟨G, cs, v, V, rfl, h1, h2, h3, h4, h5, h6, h7⟩ hT hT' hk
  refine ⟨G, cs, v, V, rfl, h1, h2, q1a hk (fun hh => (hT gl hh).1 (by simp)) h3, h4.grow M8a hk (fun g hg => by simp [hg]) (fun g hg => ?_), h5, fun g hg => q1a hk (fun hh => (hT g hh).1 (by simp [hg])) (h6 g hg), h7⟩
  simp only [List.mem_cons, List.mem_append] at hg ⊢
  rcases hg with rfl | hg | hg
  ·simp
  ·rcases hT' g hg with h | h
   ·simp [h]
   ·exact .inr h
  ·simp [hg]
 lt := by
  rintro k Bs Ts w ⟨G, cs, v, V, rfl, h1, h2, h3, h4, h5, h6, h7⟩ g hg
  simp only [List.mem_cons, Option.mem_toList] at hg
  rcases hg with rfl | hg
  ·exact h3.lt
  ·exact (h6 g hg).lt
 call := by
  rintro k Bs Ts w V y ys ⟨G, cs, v, V', rfl, h1, h2, h3, h4, h5, h6, h7⟩ hT hv hl hy hX hw hk
  have hV : V = V' ++ [y] := by
   obtain ⟨t, ht⟩ := h2.cmp hv (by omega)
   have hlen : t.length = 1 := by have := congrArg List.length ht; simp at this; omega
   obtain ⟨_, rfl⟩ := List.length_eq_one_iff.1 hlen
   subst ht
   rw [List.getElem?_append_right (by omega), h1, Nat.sub_self] at hy
   simp at hy; rw [hy]
  have e1 : Y1a V = Y1a V' ++ [y.conf] := by rw [hV]; simp [Y1a]
  refine (B8b gl (Ts ++ M0) w G cs v (Y1a V') y.conf ys h3 h4 h5 h6 (hX.less (fun g hg => by simp only [List.mem_cons, List.mem_append] at hg ⊢; grind)) (by simp [Y1a]; omega)).mono fun r w' hr => ?_
  obtain ⟨rfl, G', cs', v', q1, q2, q3, q4, q5, q6⟩ := hr
  refine ⟨rfl, gl :: G'.toList, ⟨G', cs', v', V, rfl, hl, hv, q1, by rw [e1]; exact q2, q3, q4, fun g hg => ?_⟩, q5, fun g hg => ?_⟩
  ·rcases q6 g hg with h | h
   ·exact h7 g h
   ·omega
  ·rcases List.mem_cons.1 hg with rfl | hg
   ·exact .inl (by simp)
   ·rcases q6 g hg with h | h
    ·exact .inl (by simp [h])
    ·exact .inr h
theorem v6b.rd {p : f0a} {m : Int} {gl k : Nat} {M0 Bs Ts : List Nat} {wf w : World} (h : v6b p m gl M0 wf k Bs Ts w) (hT : ∀ g ∈ Ts, g ∉ Bs) (hM : ∀ g ∈ M0, g < wf.heap.size) (hk : k ≤ 100000) :
 ∃ v V, V.length = k ∧ E3a p m V ∧ p0a w (gl, 30, [v]) ∧ RdS M0 w 3 (f3a M0 w) v (Y1a V) := by
 obtain ⟨G, cs, v, V, rfl, h1, h2, h3, h4, h5, h6, h7⟩ := h
 refine ⟨v, V, h1, h2, h3, ?_⟩
 have S : St (gl :: G.toList) w w [(G, 38, cs)] := (St.base _ w).pushO h5 h6 (fun g hg => by rw [hg]; simp) (fun g hg b hb => by simp at hb)
 exact RdS.lessW (h4.rdG S (k := 0) rfl (fun g hg hh => by
  simp only [List.mem_cons, List.mem_append] at hh
  rcases hh with rfl | hh | hh
  ·exact v5a (h6 g hg) h3 (by decide) rfl
  ·exact hT g hh (by simp [hg])
  ·have := hM g hh; have := h7 g (by simp [hg]); omega) (by simp [Y1a]; omega)) (fun g hg => by simp [hg]) (fun _ _ h => t0a.less (fun g hg => by simp [hg]) h)
theorem a6a (p : f0a) (m : Int) (hm : m = 0 ∨ m = 1 ∨ m = 2) (n : Nat) (h1 : 1 ≤ n) (h2 : n ≤ 20000) (M : List Nat) (w0 : World) (cs : List Value) (hI : InP p M w0 cs) :
 M0a Tryz.prog 8 #[.agg cs.toArray, .int .i64 m, .int .i64 n] w0 fun r w' => (∃ v l err, r = .tuple #[v, .int .i64 err] ∧ RdS M w' 3 (f3a M w') v l ∧ o6a p m n l err) ∧ Below w0.heap.size w0 w' := by
 obtain ⟨_, _, _, _, _, _, _, _, _, _, _, _, rfl, _, _, _, _, _, _, _, _, _, _, _, _⟩ := hI.rd.open_
 have S := St.refl w0
 have hpr : M2a m n = true := by rcases hm with rfl | rfl | rfl <;> (simp [M2a]; omega)
 refine a0a Tryz.func8 rfl Tryz.ntmps8 rfl ?_
 refine wO0 rfl ⟨⟩ (j0a S (by conv => lhs; whnf) rfl ?_)
 intro g3 w3 S3 X3 G3
 refine lO S3.k [.w 0] rfl ⟨⟨rfl,by rfl⟩,⟨⟩⟩ (g0a S3 n0c rfl rfl (hpr ▸ c8a p m n M _ _ (hI.keep (S3.keep0 M))) ?_)
 intro w15 S15 X15
 refine lO0 rfl ⟨⟩ (n0a S15 t9c rfl rfl ?_)
 intro g8 w8 S8 X8 G8
 refine lO S8.k [.w 1] rfl ⟨⟨rfl,by rfl⟩,⟨⟩⟩ (i1a u3c (vs := [(0, .agg _), (1, .int .i64 _)]) (cs := [_, _, _, _, _, _]) rfl rfl rfl rfl ?_)
 refine j0a S8 (by conv => lhs; whnf) rfl ?_
 intro g20 w20 S20 X20 G20
 refine lO0 rfl ⟨⟩ (E1a rfl rfl ?_)
 have z8 : w0.heap.size ≤ g8 ∧ g8 < w20.heap.size := ⟨by simpa using S20.new 1 rfl, S20.lt 1 rfl⟩
 have z20 : w0.heap.size ≤ g20 ∧ g20 < w20.heap.size := ⟨by simpa using S20.new 0 rfl, S20.lt 0 rfl⟩
 have hI25 : InP p (g20 :: ([g8] ++ M)) w20 _ := InP.grow (Bs0 := []) (M0 := M) hI (S20.keep0 []) (fun g hg => by
  simp only [List.cons_append, List.nil_append, List.mem_cons] at hg ⊢
  rcases hg with rfl | rfl | hg
  ·right; omega
  ·right; omega
  ·exact .inl hg) (fun g hg => by
  simp only [List.cons_append, List.nil_append, List.mem_cons] at hg
  have := S20.size
  rcases hg with rfl | rfl | hg
  ·omega
  ·omega
  ·have := hI.lt g hg; omega)
 have h820 : g20 ∉ [g8] := fun hh => v5a (S20.blk 0 rfl) (S20.blk 1 rfl) (by decide) (List.mem_singleton.1 hh)
 obtain ⟨wb, hwb⟩ : ∃ wb, wb = w20 := ⟨_, rfl⟩
 have hacc := K9b p m g20 g8 M w20 (S20.blk 1 rfl)
 refine w4a j3c rfl rfl rfl (x6b p m hm n g20 (by omega) _ _ _ _ 26 [.pointer (some ⟨g8, 0, none⟩)] [g8] M w20 (fun _ => false) (v6b p m g8 M w20) hI25 (S20.blk 0 rfl) h820 hacc) ?_
 rintro v25 w25 ⟨⟨_, err, rfl, hF⟩, hB25⟩
 have S25 := (S20.tail.tail).keepsW hB25 (fun g hg hlt => by simp at hg; omega) (fun b hb g hg hh => by
  have hb2 := (S20.own b (List.mem_cons_of_mem _ (List.mem_cons_of_mem _ hb)) g hg).2
  simp only [List.mem_cons, List.not_mem_nil, or_false] at hh hb
  subst hb
  rcases hh with rfl | rfl
  ·exact v5a hb2 (S20.blk 0 rfl) (by decide) rfl
  ·exact v5a hb2 (S20.blk 1 rfl) (by decide) rfl)
 refine lB0 rfl ⟨⟩ (fun h29 => ?_) fun h29 => ?_
 ·refine lT2 rfl ⟨⟩ rfl ⟨⟨_, [], _, rfl, y4a, .inr ⟨?_, rfl, ?_⟩⟩, S25.fin⟩
  ·omega
  ·rcases hF with ⟨he, _⟩ | ⟨_, V, q1, q2, _⟩ | ⟨he, _⟩
   ·omega
   ·exact ⟨V, q1, q2⟩
   ·omega
 refine lO0 rfl ⟨⟩ ?_
 obtain ⟨k, v, q1, q2, q3, q4, rfl⟩ : ∃ k v, (P2a p m k).length ≤ k ∧ (P2a p m k).length ≤ n ∧ p0a w25 (g8, 30, [v]) ∧ RdS M w25 3 (f3a M w25) v (Y1a (P2a p m k)) ∧ err = 4 := by
  rcases hF with ⟨_, _, _, _, _, _, _, _, _, _, _, ⟨y, _, hy⟩, _⟩ | ⟨he, _⟩ | ⟨he, k, Bs, Ts, q1, q2, q3, q4, q5⟩
  ·cases hy
  ·omega
  ·obtain ⟨v, V, r1, r2, r3, r4⟩ := q5.rd (fun g hg => (q4.ok g hg).1) (fun g hg => by have := hI.lt g hg; have := S25.size; omega) (by omega)
   obtain rfl := List.IsPrefix.eq_of_length (r2.done q1) r1
   exact ⟨k, v, q1, q2, r3, r4, he⟩
 obtain ⟨_, _, _, rfl⟩ := q4.form
 have c31 := q3.cell (o := 0) rfl
 refine s0a m8b rfl (by exact c31) rfl ?_
 exact lT2 rfl ⟨⟩ rfl ⟨⟨_, _, _, rfl, q4, .inl ⟨rfl, k, q1, q2, rfl⟩⟩, S25.fin⟩
theorem z4b (p : f0a) (m : Int) (n : Int) (hpr : M2a m n = false) (M : List Nat) (w0 : World) (cs : List Value) (hI : InP p M w0 cs) :
 M0a Tryz.prog 8 #[.agg cs.toArray, .int .i64 m, .int .i64 n] w0 fun r w' => r = .tuple #[.slice none 0 0, .int .i64 1] ∧ Below w0.heap.size w0 w' := by
 obtain ⟨_, _, _, _, _, _, _, _, _, _, _, _, rfl, _, _, _, _, _, _, _, _, _, _, _, _⟩ := hI.rd.open_
 have S := St.refl w0
 refine a0a Tryz.func8 rfl Tryz.ntmps8 rfl ?_
 refine wO0 rfl ⟨⟩ (j0a S (by conv => lhs; whnf) rfl ?_)
 intro g3 w3 S3 X3 G3
 refine lO S3.k [.w 0] rfl ⟨⟨rfl,by rfl⟩,⟨⟩⟩ (g0a S3 n0c rfl rfl (hpr ▸ c8a p m n M _ _ (hI.keep (S3.keep0 M))) ?_)
 intro w15 S15 X15
 exact lT2 rfl ⟨⟩ rfl ⟨rfl, S15.fin⟩
def Raw (size : Nat) (cs x : List Value) : Prop := cs = x ∧ x.length = size ∧ ∀ u ∈ x, u.oneCell' = true
theorem W5c (size : Nat) : a5a (fun (_ : List Nat) (_ : World) => Raw size) size where
 len h := by rw [h.1]; exact h.2.1
 one h u hu := by rw [h.1] at hu; exact h.2.2 u hu
 keep _ h := h
 more _ h := h
abbrev e6b (size : Nat) (w0 : World) (G : Option Nat) (cs : List Value) (v : Value) (css : List (List Value)) : Prop := Q1a (fun _ _ => Raw size) size [] w0 G cs v css
section
variable {size : Nat}
theorem R5b {u : Value} : ∀ (css : List (List Value)) (i j : Nat) (c : List Value), (∀ x ∈ css, x.length = size) → css[i]? = some c → j < size → css.flatten.set (i * size + j) u = (css.set i (c.set j u)).flatten
 | [], i, j, c, _, hi, _ => by simp at hi
 | x :: css, 0, j, c, hl, hi, hj => by
   simp at hi; subst hi
   have hx := hl x (by simp)
   rw [List.flatten_cons, Nat.zero_mul, Nat.zero_add, List.set_append_left _ _ (by omega)]
   simp
 | x :: css, i + 1, j, c, hl, hi, hj => by
   have hx := hl x (by simp)
   have := R5b (u := u) css i j c (fun y hy => hl y (by simp [hy])) (by simpa using hi) hj
   rw [List.flatten_cons, List.set_append_right _ _ (by rw [Nat.add_mul]; omega), List.set_cons_succ, List.flatten_cons, ← this]
   congr 2
   rw [Nat.add_mul]; omega
theorem J9a : ∀ (us : List Value) (css : List (List Value)) (i j : Nat) (c : List Value), (∀ x ∈ css, x.length = size) → css[i]? = some c → j + us.length ≤ size → k0a css.flatten (i * size + j) us = (css.set i (k0a c j us)).flatten
 | [], css, i, j, c, _, hi, _ => by rw [k0a, k0a, G5b hi]
 | u :: us, css, i, j, c, hl, hi, hj => by
   have hil := (List.getElem?_eq_some_iff.1 hi).1
   have hcl := hl c (List.mem_of_getElem? hi)
   simp only [List.length_cons] at hj
   rw [k0a, R5b css i j c hl hi (by omega), show i * size + j + 1 = i * size + (j + 1) by omega]
   rw [J9a us (css.set i (c.set j u)) i (j + 1) (c.set j u) (fun x hx => by
    rcases List.mem_or_eq_of_mem_set hx with h | h
    ·exact hl x h
    ·rw [h, List.length_set]; exact hcl) (by rw [List.getElem?_set_self hil]) (by omega)]
   rw [List.set_set, k0a]
theorem w8a : ∀ (us cs : List Value) (o n : Nat), (k0a cs o us).take n = k0a (cs.take n) o us
 | [], _, _, _ => rfl
 | u :: us, cs, o, n => by rw [k0a, w8a us, k0a, List.take_set]
theorem R0b : ∀ (us cs : List Value) (o : Nat), (∀ u ∈ cs, u.oneCell' = true) → (∀ u ∈ us, u.oneCell' = true) → ∀ u ∈ k0a cs o us, u.oneCell' = true
 | [], _, _, h, _ => h
 | v :: us, cs, o, h, h2 => by
   rw [k0a]
   refine R0b us _ _ (fun u hu => ?_) (fun u hu => h2 u (by simp [hu]))
   rcases List.mem_or_eq_of_mem_set hu with hu | rfl
   ·exact h u hu
   ·exact h2 u (by simp)
theorem e6b.put {w0 : World} {G : Option Nat} {cs us c : List Value} {v : Value} {css : List (List Value)} {i j o : Nat} (h : e6b size w0 G cs v css) (hi : css[i]? = some c) (ho : o = i * size + j) (hj : j + us.length ≤ size) (h1 : ∀ u ∈ us, u.oneCell' = true) : e6b size w0 G (k0a cs o us) v (css.set i (k0a c j us)) := by
 subst ho
 obtain ⟨xs, _, q2, ⟨_, hr⟩, q4⟩ := h
 have hx : xs = css := by
  refine List.ext_getElem? fun k => ?_
  cases hk : css[k]? with
  | none => rw [List.getElem?_eq_none_iff] at hk ⊢; omega
  | some x => obtain ⟨y, h5, h6⟩ := q4 k x hk; rw [h5, h6.1]
 subst hx
 have hil := (List.getElem?_eq_some_iff.1 hi).1
 have hco : ∀ u ∈ c, u.oneCell' = true := by
  obtain ⟨y, h5, h6⟩ := q4 i c hi
  exact h6.2.2
 have hcl := q2 c (List.mem_of_getElem? hi)
 have hln : (k0a c j us).length = size := by rw [W3a]; exact hcl
 have hlen : ∀ x ∈ xs.set i (k0a c j us), x.length = size := fun x hx => by
  rcases List.mem_or_eq_of_mem_set hx with h | rfl
  ·exact q2 x h
  ·exact hln
 refine ⟨xs.set i (k0a c j us), rfl, hlen, ⟨?_, ?_⟩, fun k x hk => ?_⟩
 ·rw [x3a _ hlen]
 ·rcases hr with ⟨rfl, rfl, h0⟩ | ⟨g, cap, rfl, rfl, r1, r2, r3, r4⟩
  ·omega
  ·refine .inr ⟨g, cap, rfl, by rw [List.length_set], by rw [List.length_set]; exact r1, r2, by rw [W3a]; exact r3, ?_⟩
   rw [w8a, List.length_set, r4, J9a us xs i j c q2 hi hj]
 ·refine ⟨x, hk, rfl, ?_, ?_⟩
  ·exact hlen x (List.mem_of_getElem? hk)
  ·rcases List.mem_or_eq_of_mem_set (List.mem_of_getElem? hk) with h | rfl
   ·obtain ⟨n, hn⟩ := List.getElem?_of_mem h
    obtain ⟨y, h5, h6⟩ := q4 n x hn
    exact h6.2.2
   ·exact R0b us c j hco h1
theorem e6b.len {w0 : World} {G : Option Nat} {cs : List Value} {A : Option Addr} {n c : Nat} {css : List (List Value)} (h : e6b size w0 G cs (.slice A n c) css) : n = css.length := by
 obtain ⟨_, _, he⟩ := h.form
 simp only [Value.slice.injEq] at he
 exact he.2.1
theorem e6b.at {w0 : World} {G : Option Nat} {cs : List Value} {A : Option Addr} {n c : Nat} {css : List (List Value)} (h : e6b size w0 G cs (.slice A n c) css) (h0 : 0 < n) : ∃ g, G = some g ∧ A = some ⟨g, 0, none⟩ := by
 have hn := h.len
 obtain ⟨_, _, _, ⟨_, hr⟩, _⟩ := h
 rcases hr with ⟨rfl, he, h5⟩ | ⟨g, cap, rfl, he, -⟩
 ·omega
 ·simp only [Value.slice.injEq] at he
  exact ⟨g, rfl, he.1⟩
theorem e6b.cap {w0 : World} {G : Option Nat} {cs : List Value} {v : Value} {css : List (List Value)} (h : e6b size w0 G cs v css) : css.length * size ≤ cs.length ∨ css = [] := by
 obtain ⟨_, _, _, ⟨_, hr⟩, _⟩ := h
 rcases hr with ⟨rfl, he, h5⟩ | ⟨g, cap, rfl, he, r1, r2, r3, r4⟩
 ·exact .inr (List.length_eq_zero_iff.1 h5)
 ·left; rw [r3]; exact Nat.mul_le_mul_right _ r1
theorem e6b.rd {α : Type} {R : List Value → α → Prop} {M M' : List Nat} {w0 w : World} {L : List Ent} {k el : Nat} {G : Option Nat} {cs : List Value} {v : Value} {css : List (List Value)} {l : List α} (h : e6b size w0 G cs v css) (S : St M' w0 w L) (hk : L[k]? = some (G, el, cs)) (hM : ∀ g, G = some g → g ∉ M) (hl : l.length ≤ 1000000) (hln : css.length = l.length)
 (he : ∀ (i : Nat) (x : α), l[i]? = some x → ∃ c, css[i]? = some c ∧ R c x) : RdS M w size R v l := by
 obtain ⟨A, n, c, rfl, _, h2, h3, h4, h5⟩ := Q1a.rd (M := M) (W5c size) (w := w) (show Q1a (fun _ _ => Raw size) size M w G cs v css from h) S hk hM (by omega)
 refine ⟨A, n, c, rfl, by omega, h2, h3, h4, fun hp => ?_⟩
 obtain ⟨b, o, hA, hb, hel⟩ := h5 hp
 refine ⟨b, o, hA, hb, fun i x hi => ?_⟩
 obtain ⟨y, h6, h7⟩ := he i x hi
 obtain ⟨z, z1, z2, z3⟩ := hel i y h6
 exact ⟨z, z1, z2, by rw [z3.1]; exact h7⟩
end
theorem t8a : ∀ (us a r : List Value), r.length = us.length → k0a (a ++ r) a.length us = a ++ us
 | [], a, [], _ => rfl
 | [], _, _ :: _, h => by simp at h
 | _ :: _, _, [], h => by simp at h
 | u :: us, a, x :: r, h => by
   have := t8a us (a ++ [u]) r (by simpa using h)
   rw [k0a, List.set_append_right _ _ (Nat.le_refl _), Nat.sub_self, List.set_cons_zero]
   simpa using this
theorem Q1a.toRaw {α : Type} {R0 : List Value → α → Prop} {size : Nat} {w0 : World} {G : Option Nat} {cs : List Value} {v : Value} {l : List α} (hL : a5a (fun (_ : List Nat) (_ : World) => R0) size) (h : Q1a (fun _ _ => R0) size [] w0 G cs v l) :
 ∃ css, e6b size w0 G cs v css ∧ css.length = l.length ∧ ∀ (i : Nat) (x : α), l[i]? = some x → ∃ c, css[i]? = some c ∧ R0 c x := by
 obtain ⟨css, q1, q2, q3, q4⟩ := h
 refine ⟨css, ⟨css, rfl, q2, by rw [q1]; exact q3, fun i x hi => ⟨x, hi, rfl, q2 x (List.mem_of_getElem? hi), fun u hu => ?_⟩⟩, q1, q4⟩
 have hil := (List.getElem?_eq_some_iff.1 hi).1
 obtain ⟨c, h5, h6⟩ := q4 i _ (List.getElem?_eq_getElem (by omega))
 obtain rfl : x = c := Option.some.inj (hi.symm.trans h5)
 exact hL.one (M := []) (w := w0) h6 u hu
theorem e6b.toRow {α : Type} {R0 : List Value → α → Prop} {size : Nat} {w0 : World} {G : Option Nat} {cs : List Value} {v : Value} {css : List (List Value)} {l : List α} (h : e6b size w0 G cs v css) (hl : css.length = l.length) (he : ∀ (i : Nat) (x : α), l[i]? = some x → ∃ c, css[i]? = some c ∧ R0 c x) : Q1a (fun _ _ => R0) size [] w0 G cs v l := by
 obtain ⟨xs, _, q2, q3, q4⟩ := h
 refine ⟨xs, by omega, q2, by rw [← hl]; exact q3, fun i x hi => ?_⟩
 obtain ⟨c, h5, h6⟩ := he i x hi
 obtain ⟨c', h7, h8⟩ := q4 i c h5
 exact ⟨c', h7, by rw [h8.1]; exact h6⟩
theorem Q1a.put {α : Type} {R0 : List Value → α → Prop} {size : Nat} {w0 : World} {G : Option Nat} {cs us : List Value} {v : Value} {l : List α} {i o : Nat} {x y : α} (hL : a5a (fun (_ : List Nat) (_ : World) => R0) size) (h : Q1a (fun _ _ => R0) size [] w0 G cs v l) (hi : l[i]? = some x) (ho : o = i * size) (hy : R0 us y) : Q1a (fun _ _ => R0) size [] w0 G (k0a cs o us) v (l.set i y) := by
 obtain ⟨_, h1, h2, h3⟩ := h.toRaw hL
 obtain ⟨c, h4, h5⟩ := h3 i x hi
 have hul : us.length = size := hL.len (M := []) (w := w0) hy
 have hcl : c.length = size := hL.len (M := []) (w := w0) h5
 have hp := h1.put h4 (us := us) (j := 0) (o := o) (by omega) (by omega) (hL.one (M := []) (w := w0) hy)
 rw [show k0a c 0 us = us from t8a us [] c (by omega)] at hp
 refine hp.toRow (by simp [h2]) (fun k z hz => ?_)
 have hil := (List.getElem?_eq_some_iff.1 h4).1
 have hil2 := (List.getElem?_eq_some_iff.1 hi).1
 by_cases hk : i = k
 ·subst hk
  rw [List.getElem?_set_self hil2] at hz
  obtain rfl := Option.some.inj hz
  exact ⟨us, List.getElem?_set_self hil, hy⟩
 ·rw [List.getElem?_set_ne hk] at hz ⊢
  exact h3 k z hz
theorem Q1a.at {α : Type} {R : List Nat → World → List Value → α → Prop} {size : Nat} {M : List Nat} {w0 : World} {G : Option Nat} {cs : List Value} {A : Option Addr} {n c : Nat} {l : List α} (h : Q1a R size M w0 G cs (.slice A n c) l) (h0 : 0 < l.length) : ∃ g, G = some g ∧ A = some ⟨g, 0, none⟩ ∧ l.length * size ≤ cs.length := by
 obtain ⟨_, _, _, ⟨_, hr⟩, _⟩ := h
 rcases hr with ⟨rfl, he, h5⟩ | ⟨g, cap, rfl, he, r1, r2, r3, r4⟩
 ·omega
 ·simp only [Value.slice.injEq] at he
  exact ⟨g, rfl, he.1, by rw [r3]; exact Nat.mul_le_mul_right _ r1⟩
def n1b {α : Type} (l cur : List α) (i : Nat) : Prop := cur.length = l.length ∧ ∀ q, q < l.length → cur[q]? = if q < i ∨ l.length - i ≤ q then l[l.length - 1 - q]? else l[q]?
theorem n1b.zero {α : Type} {l : List α} : n1b l l 0 := ⟨rfl, fun q hq => by rw [if_neg (by omega)]⟩
theorem n1b.all {α : Type} {l cur : List α} {i : Nat} (h : n1b l cur i) (hi : (l.length : Int) - 1 - i ≤ i) : cur = l.reverse := by
 refine List.ext_getElem? fun q => ?_
 by_cases hq : q < l.length
 ·rw [h.2 q hq, List.getElem?_reverse hq]
  split
  ·rfl
  ·rw [show l.length - 1 - q = q by omega]
 ·rw [List.getElem?_eq_none (by rw [h.1]; omega), List.getElem?_eq_none (by simp; omega)]
theorem n1b.next {α : Type} {l cur : List α} {i j : Nat} {x y : α} (h : n1b l cur i) (hj : j + 1 + i = l.length) (hij : i < j) (hx : cur[i]? = some x) (hy : cur[j]? = some y) : n1b l ((cur.set i y).set j x) (i + 1) := by
 refine ⟨by simp [h.1], fun q hq => ?_⟩
 have hx' := h.2 i (by omega)
 have hy' := h.2 j (by omega)
 rw [if_neg (by omega)] at hx' hy'
 rw [hx] at hx'
 rw [hy] at hy'
 have hl := h.1
 by_cases h1 : j = q
 ·subst h1
  rw [List.getElem?_set_self (by simp; omega), if_pos (by omega), show l.length - 1 - j = i by omega, hx']
 ·rw [List.getElem?_set_ne h1]
  by_cases h2 : i = q
  ·subst h2
   rw [List.getElem?_set_self (by omega), if_pos (by omega), show l.length - 1 - i = j by omega, hy']
  ·rw [List.getElem?_set_ne h2, h.2 q hq]
   by_cases h3 : q < i ∨ l.length - i ≤ q
   ·rw [if_pos h3, if_pos (by omega)]
   ·rw [if_neg h3, if_neg (by omega)]
theorem z7b (w0 : World) (G : Option Nat) (cs : List Value) (v : Value) (l : List A0a) (hrow : Q1a (fun _ _ => R1a) 3 [] w0 G cs v l) (h0 : G = none → cs = []) (hb : ∀ g, G = some g → p0a w0 (g, 44, cs)) (hl : l.length ≤ 100000) :
 M0a Tryz.prog 43 #[v] w0 fun _ w' => ∃ cs', Q1a (fun _ _ => R1a) 3 [] w' G cs' v l.reverse ∧ (∀ g, G = some g → p0a w' (g, 44, cs')) ∧ v0a G.toList w0 w' := by
 have S : St G.toList w0 w0 [(G, 44, cs)] := (St.base _ w0).pushO h0 hb (fun g hg => by rw [hg]; simp) (fun g hg b hb => by simp at hb)
 obtain ⟨Av, cv, rfl⟩ := hrow.form
 refine a0a Tryz.func43 rfl Tryz.ntmps43 rfl ?_
 refine wC0 rfl ⟨by omega,⟨⟩⟩ (wL (fun μi D ε w => D = [] ∧ ∃ i : Nat, ∃ j : Int, ∃ cur : List A0a, ∃ cs' : List Value, (i + μi = (l.length)) ∧ (j = (l.length : Int) - 1 - i) ∧ (n1b l cur i) ∧ (Q1a (fun _ _ => R1a) 3 [] w0 G cs' (.slice Av l.length cv) cur) ∧ St G.toList w0 w [(G, 44, cs')] ∧ Sl ε [(0, .slice Av l.length cv), (2, .int .i64 i), (3, .int .i64 j)]) (μ := (l.length)) ⟨rfl, 0, (l.length : Int) - 1, l, cs, by omega, by omega, n1b.zero, hrow, S, rfl⟩ ?_)
 rintro μi D ε w ⟨rfl, i, j, cur, cs', _, _, hcur, hrow2, S, eZ⟩
 refine wK eZ (wB0 rfl ⟨⟩ (fun h9 => ?_) fun h9 => ?_)
 ·refine lCn 5 S.k [] rfl ⟨⟩ (wX (fun D ε w => D = [] ∧ ∃ cs3 : List Value, ∃ c1 : A0a, ∃ c2 : A0a, (cur[i]? = some c1) ∧ (cur[j.toNat]? = some c2) ∧ (Q1a (fun _ _ => R1a) 3 [] w0 G cs3 (.slice Av l.length cv) ((cur.set i c2).set j.toNat c1)) ∧ ((i : Int) < j) ∧ St G.toList w0 w [(G, 44, cs3)] ∧ Sl ε [(0, .slice Av l.length cv), (2, .int .i64 i), (3, .int .i64 j)]) ?_ ?_)
  ·obtain ⟨q, rfl⟩ : ∃ q : Nat, j = (q : Int) := ⟨j.toNat, by omega⟩
   have hcl := hcur.1
   obtain ⟨g, rfl, rfl, _⟩ := hrow2.at (by omega)
   have hRD := Q1a.rd (M := []) (w := w) T1a hrow2 S (k := 0) rfl (fun _ _ => by simp) (by omega)
   refine wC0 rfl ⟨⟩ (Z7c b0a (fun i => [0, 1, 2, 3, 4, 5, 6, 8, 9, 10, 12, 14].contains i) 7 11 [0, 1, 2, 3, 4, 5, 6, 7, 8, 9, 10, 11, 12, 13, 14, 15] [0, 1, 2, 3, 4, 5, 6, 8, 9, 10, 11, 7, 12, 13, 14, 15] (by kernel_rfl) (fun _ => True) ?_ ?_)
   ·have SR3 := S.drew
    have YR3 : w0a [] w w.drew := F2a _ _
    generalize w.drew = wR3 at SR3 YR3 ⊢
    have XR3 : w0a ([g]) _ _ := YR3.of_nil
    refine G3a trivial rfl rfl rfl ?_
    refine e1a (v := .slice _ _ _) rfl rfl ?_
    refine d0a ?_
    refine G3a trivial rfl rfl rfl ?_
    refine e1a (v := .int .i64 _) rfl rfl ?_
    refine d0a ?_
    refine G3a trivial rfl rfl rfl ?_
    refine e1a (v := .slice _ _ _) rfl rfl ?_
    refine d0a ?_
    refine G3a trivial rfl rfl rfl ?_
    refine e1a (v := .int .i64 _) rfl rfl ?_
    refine d0a ?_
    refine G3a trivial rfl rfl rfl ?_
    refine e1a (v := .slice _ _ _) rfl rfl ?_
    refine d0a ?_
    refine G3a trivial rfl rfl rfl ?_
    refine e1a (v := .int .i64 _) rfl rfl ?_
    refine d0a ?_
    refine G3a trivial rfl rfl rfl ?_
    obtain ⟨y, b20, p20, c20, hxy, hA20, hM20, hl20, hc20, hr20⟩ := RdS.get (hRD) (q) (by omega)
    obtain ⟨rfl, i120, i220, i320⟩ := id hr20
    refine m0a o3a.slT rfl (by rfl) rfl (by omega) (by omega) rfl ?_
    refine d0a ?_
    refine j6b trivial rfl rfl rfl ?_
    cases hA20
    refine w1a D5a rfl (hc20.keep YR3 List.not_mem_nil) rfl rfl ?_
    refine S0a ⟨rfl, ?_⟩
    refine G3a trivial rfl rfl rfl ?_
    refine e1a (v := .slice _ _ _) rfl rfl ?_
    refine d0a ?_
    refine G3a trivial rfl rfl rfl ?_
    refine e1a (v := .int .i64 _) rfl rfl ?_
    refine d0a ?_
    refine G3a trivial rfl rfl rfl ?_
    obtain ⟨x, b24, p24, c24, hxx, hA24, hM24, hl24, hc24, hr24⟩ := RdS.get (hRD) (i) (by omega)
    obtain ⟨rfl, i124, i224, i324⟩ := id hr24
    refine m0a o3a.slT rfl (by rfl) rfl (by omega) (by omega) rfl ?_
    refine d0a ?_
    refine j6b trivial rfl rfl rfl ?_
    cases hA24
    refine w1a D5a rfl (hc24.keep YR3 List.not_mem_nil) rfl rfl ?_
    refine S0a ⟨rfl, ?_⟩
    refine G3a trivial rfl rfl rfl ?_
    refine m0a o3a.slT rfl (by rfl) rfl (by omega) (by omega) rfl ?_
    refine d0a ?_
    refine j6b trivial rfl rfl rfl ?_
    refine e0a (kk := 0) (vs := [.int .i64 y.thread, .int .i64 y.step, .int .i64 y.cell]) SR3 f4b rfl rfl rfl rfl rfl rfl (by rw [Nat.ble_eq]; omega) ?_
    intro w13 S13 X13
    refine S0a ⟨rfl, ?_⟩
    refine G3a trivial rfl rfl rfl ?_
    refine m0a o3a.slT rfl (by rfl) rfl (by omega) (by omega) rfl ?_
    refine d0a ?_
    refine j6b trivial rfl rfl rfl ?_
    refine e0a (kk := 0) (vs := [.int .i64 x.thread, .int .i64 x.step, .int .i64 x.cell]) S13 f4b rfl rfl rfl rfl rfl rfl (by rw [Nat.ble_eq]; simp only [W3a]; omega) ?_
    intro w15 S15 X15
    refine S0a ⟨rfl, ?_⟩
    refine K5b trivial ?_
    refine fP0 rfl ⟨⟩ ⟨rfl, (_), (x), (y), (hxx), ((by simpa using hxy)), ?_, (h9), S15, rfl⟩
    exact Q1a.put T1a (Q1a.put T1a hrow2 hxx (by simp) hr20) (y := x) (x := y) (by simpa [List.getElem?_set_ne (show i ≠ q by omega)] using hxy) (by simp) hr24
   have SR3 := S.drew
   have YR3 : w0a [] w w.drew := F2a _ _
   generalize w.drew = wR3 at SR3 YR3 ⊢
   have XR3 : w0a ([g]) _ _ := YR3.of_nil
   refine G3a trivial rfl rfl rfl ?_
   refine e1a (v := .slice _ _ _) rfl rfl ?_
   refine d0a ?_
   refine G3a trivial rfl rfl rfl ?_
   refine e1a (v := .int .i64 _) rfl rfl ?_
   refine d0a ?_
   refine G3a trivial rfl rfl rfl ?_
   refine e1a (v := .slice _ _ _) rfl rfl ?_
   refine d0a ?_
   refine G3a trivial rfl rfl rfl ?_
   refine e1a (v := .int .i64 _) rfl rfl ?_
   refine d0a ?_
   refine G3a trivial rfl rfl rfl ?_
   refine e1a (v := .slice _ _ _) rfl rfl ?_
   refine d0a ?_
   refine G3a trivial rfl rfl rfl ?_
   refine e1a (v := .int .i64 _) rfl rfl ?_
   refine d0a ?_
   refine G3a trivial rfl rfl rfl ?_
   obtain ⟨y, b20, p20, c20, hxy, hA20, hM20, hl20, hc20, hr20⟩ := RdS.get (hRD) (q) (by omega)
   obtain ⟨rfl, i120, i220, i320⟩ := id hr20
   refine m0a o3a.slT rfl (by rfl) rfl (by omega) (by omega) rfl ?_
   refine d0a ?_
   refine G3a trivial rfl rfl rfl ?_
   refine e1a (v := .slice _ _ _) rfl rfl ?_
   refine d0a ?_
   refine G3a trivial rfl rfl rfl ?_
   refine e1a (v := .int .i64 _) rfl rfl ?_
   refine d0a ?_
   refine G3a trivial rfl rfl rfl ?_
   obtain ⟨x, b24, p24, c24, hxx, hA24, hM24, hl24, hc24, hr24⟩ := RdS.get (hRD) (i) (by omega)
   obtain ⟨rfl, i124, i224, i324⟩ := id hr24
   refine m0a o3a.slT rfl (by rfl) rfl (by omega) (by omega) rfl ?_
   refine d0a ?_
   refine j6b trivial rfl rfl rfl ?_
   cases hA24
   refine w1a D5a rfl (hc24.keep YR3 List.not_mem_nil) rfl rfl ?_
   refine S0a ⟨rfl, ?_⟩
   refine j6b trivial rfl rfl rfl ?_
   cases hA20
   refine w1a D5a rfl (hc20.keep YR3 List.not_mem_nil) rfl rfl ?_
   refine S0a ⟨rfl, ?_⟩
   refine G3a trivial rfl rfl rfl ?_
   refine m0a o3a.slT rfl (by rfl) rfl (by omega) (by omega) rfl ?_
   refine d0a ?_
   refine j6b trivial rfl rfl rfl ?_
   refine e0a (kk := 0) (vs := [.int .i64 y.thread, .int .i64 y.step, .int .i64 y.cell]) SR3 f4b rfl rfl rfl rfl rfl rfl (by rw [Nat.ble_eq]; omega) ?_
   intro w13 S13 X13
   refine S0a ⟨rfl, ?_⟩
   refine G3a trivial rfl rfl rfl ?_
   refine m0a o3a.slT rfl (by rfl) rfl (by omega) (by omega) rfl ?_
   refine d0a ?_
   refine j6b trivial rfl rfl rfl ?_
   refine e0a (kk := 0) (vs := [.int .i64 x.thread, .int .i64 x.step, .int .i64 x.cell]) S13 f4b rfl rfl rfl rfl rfl rfl (by rw [Nat.ble_eq]; simp only [W3a]; omega) ?_
   intro w15 S15 X15
   refine S0a ⟨rfl, ?_⟩
   refine K5b trivial ?_
   refine fP0 rfl ⟨⟩ ⟨rfl, (_), (x), (y), (hxx), ((by simpa using hxy)), ?_, (h9), S15, rfl⟩
   exact Q1a.put T1a (Q1a.put T1a hrow2 hxx (by simp) hr20) (y := x) (x := y) (by simpa [List.getElem?_set_ne (show i ≠ q by omega)] using hxy) (by simp) hr24
  rintro D ε w ⟨rfl, cs3, c1, c2, hxx, hxy, hrow3, _, S, eZ⟩
  refine wK eZ (wP0 rfl ⟨by omega,by omega,⟨⟩⟩ ?_)
  refine ⟨μi - 1, by omega, rfl, (i + 1), (j - 1), (_), (_), (by omega), (by omega), (hcur.next (by omega) (by omega) hxx hxy), (hrow3), S, rfl⟩
 refine lF0 rfl ⟨⟩ (K1a rfl ?_)
 obtain rfl := hcur.all (by omega)
 exact ⟨cs', hrow2, fun g hg => S.blk 0 (by rw [hg]; rfl), S.below⟩
structure M3a where
 thread : Int
 point : Int
 expr : E
def d4a (M : List Nat) (w : World) (cs : List Value) (g : M3a) : Prop := ∃ es, cs = .int .i64 g.thread :: .int .i64 g.point :: es ∧ RdE M w g.expr es ∧ i64 g.thread ∧ i64 g.point
theorem d4a.keep {M : List Nat} {w w' : World} {cs : List Value} {g : M3a} (hk : w0a M w w') (h : d4a M w cs g) : d4a M w' cs g := by
 obtain ⟨es, h1, h2, h3⟩ := h
 exact ⟨es, h1, RdE.keep hk _ _ h2, h3⟩
theorem d4a.more {M M' : List Nat} {w : World} {cs : List Value} {g : M3a} (hM : ∀ x ∈ M', x ∈ M ∨ w.heap.size ≤ x) (h : d4a M w cs g) : d4a M' w cs g := by
 obtain ⟨es, h1, h2, h3⟩ := h
 exact ⟨es, h1, RdE.more hM _ _ h2, h3⟩
def b5a (p : f0a) (g : M3a) : Bool := decide (-1 ≤ g.thread) && (decide (g.thread < p.threads.length) && ((decide (g.thread < 0) || (match p.threads[g.thread.toNat]? with | some th => decide (0 ≤ g.point) && decide (g.point < th.points) | none => true)) && (g.expr.valid p.cells false && g.expr.w == 1)))
theorem k4b {p : f0a} {g : M3a} (h : g.thread < -1 ∨ (p.threads.length : Int) ≤ g.thread) : b5a p g = false := by
 unfold b5a
 rcases h with h | h
 ·rw [decide_eq_false (by omega)]; rfl
 ·rw [decide_eq_false (p := g.thread < p.threads.length) (by omega)]; simp
theorem P8b {p : f0a} {g : M3a} {th : Q0a} (h0 : 0 ≤ g.thread) (hth : p.threads[g.thread.toNat]? = some th) (h : g.point < 0 ∨ th.points ≤ g.point) : b5a p g = false := by
 unfold b5a
 simp only [hth]
 rw [decide_eq_false (p := g.thread < 0) (by omega)]
 rcases h with h | h
 ·rw [decide_eq_false (p := 0 ≤ g.point) (by omega)]; simp
 ·rw [decide_eq_false (p := g.point < th.points) (by omega)]; simp
theorem C4c {p : f0a} {g : M3a} (h0 : 0 ≤ g.thread) (h2 : g.thread < p.threads.length) (h : g.point < 0) : b5a p g = false :=
 P8b h0 (List.getElem?_eq_getElem (by omega)) (.inl h)
theorem U1b {p : f0a} {g : M3a} (h1 : -1 ≤ g.thread) (h2 : g.thread < p.threads.length) (h0 : g.thread < 0) : b5a p g = (g.expr.valid p.cells false && g.expr.w == 1) := by
 unfold b5a
 rw [decide_eq_true h1, decide_eq_true h2, decide_eq_true h0]; simp
theorem E1b {p : f0a} {g : M3a} {th : Q0a} (h0 : 0 ≤ g.thread) (h2 : g.thread < p.threads.length) (hth : p.threads[g.thread.toNat]? = some th) (h3 : 0 ≤ g.point) (h4 : g.point < th.points) : b5a p g = (g.expr.valid p.cells false && g.expr.w == 1) := by
 unfold b5a
 simp only [hth]
 rw [decide_eq_true (p := -1 ≤ g.thread) (by omega), decide_eq_true h2, decide_eq_true h3, decide_eq_true h4]; simp
def x2a (c : q0a) (g : M3a) : Bool := c.buf.all List.isEmpty && ((decide (g.thread < 0) || (match c.at_[g.thread.toNat]? with | some n => n == g.point | none => true)) && g.expr.evl c.mem c.mem == 1)
theorem d0c (c : q0a) : dec (Q3a c) = c.buf.all List.isEmpty := by
 unfold dec
 rw [Bool.eq_iff_iff, @decide_eq_true_iff _ (Classical.propDecidable _)]
 simp [Q3a]
theorem f3b {a b : Int} (h : a = b) : (a == b) = true := by simp [h]
theorem z0b {a b : Int} (h : a ≠ b) : (a == b) = false := by simp [h]
theorem p6c {c : q0a} {g : M3a} (h : c.buf.all List.isEmpty = false) : x2a c g = false := by unfold x2a; rw [h]; rfl
theorem C2c {c : q0a} {g : M3a} {n : Int} (h0 : 0 ≤ g.thread) (hn : c.at_[g.thread.toNat]? = some n) (hne : n ≠ g.point) : x2a c g = false := by
 unfold x2a
 simp only [hn]
 rw [decide_eq_false (p := g.thread < 0) (by omega), beq_eq_false_iff_ne.2 hne]; simp
theorem o2b {c : q0a} {g : M3a} {n : Int} (h : c.buf.all List.isEmpty = true) (hn : c.at_[g.thread.toNat]? = some n) (hne : n = g.point) : x2a c g = (g.expr.evl c.mem c.mem == 1) := by
 unfold x2a
 simp only [hn]
 rw [h, hne]; simp
theorem J2b {c : q0a} {g : M3a} (h : c.buf.all List.isEmpty = true) (h0 : g.thread < 0) : x2a c g = (g.expr.evl c.mem c.mem == 1) := by
 unfold x2a
 rw [h, decide_eq_true h0]; simp
theorem X9b (p : f0a) (g : M3a) (M : List Nat) (w0 : World) (cs gs : List Value) (hI : InP p M w0 cs) (hG : d4a M w0 gs g) :
 M0a Tryz.prog 40 #[.agg cs.toArray, .agg gs.toArray] w0 fun v w' => v = .bool (b5a p g) ∧ Below w0.heap.size w0 w' := by
 obtain ⟨_, _, _, _, _, _, _, _, _, _, _, _, rfl, hC, _, _, hTh, _, _, _, _, _, _, _, _⟩ := hI.rd.open_
 obtain ⟨_, rfl, hE, _, g2⟩ := hG
 obtain ⟨_, _, _, rfl, _, _, _, -⟩ := id hE.open_
 have S := St.refl w0
 refine a0a Tryz.func40 rfl Tryz.ntmps40 rfl ?_
 refine wO0 rfl ⟨⟩ (j0a S (by conv => lhs; whnf) rfl ?_)
 intro g2 w2 S2 X2 G2
 refine j0a S2 (by conv => lhs; whnf) rfl ?_
 intro g3 w3 S3 X3 G3
 refine lB S3.k [.o 0] rfl ⟨rfl,⟨⟩⟩ (fun h7 => ?_) fun h7 => ?_
 ·refine lR0 rfl ⟨⟩ (r0a rfl (by conv => lhs; whnf) ?_)
  exact ⟨by rw [k4b (by omega)], S3.fin⟩
 refine lB S3.k [.o 0,.o 1] rfl ⟨rfl,rfl,⟨⟩⟩ (fun h14 => ?_) fun h14 => ?_
 ·refine lR0 rfl ⟨⟩ (r0a rfl (by conv => lhs; whnf) ?_)
  exact ⟨by rw [k4b (by omega)], S3.fin⟩
 refine lC0 rfl ⟨⟩ (D0a b0a [0, 1, 2, 3, 4, 5, 6, 7, 8, 9, 10, 11, 12, 13, 14, 15, 16, 17, 18, 19] [] [] (by kernel_rfl) rfl (Cl _ _ _ _) (Cl.start S3) ?_)
 refine qB S3.q [.o 0] rfl ⟨rfl,⟨⟩⟩ (fun h18 => ?_) fun h18 => ?_
 ·refine qB S3.q [.o 0] rfl ⟨rfl,⟨⟩⟩ (fun h22 => ?_) fun h22 => ?_
  ·refine qD rfl ⟨⟩ ?_
   rintro wR3 ⟨SR3, XR3⟩
   refine lR0 rfl ⟨⟩ (r0a rfl (by conv => lhs; whnf) ?_)
   exact ⟨by rw [C4c (by omega) (by omega) (by omega)], SR3.fin⟩
  obtain ⟨_, b30, p30, _, hxth, hA30, _, _, hc30, hr30⟩ := RdS.get (hTh) (g.thread.toNat) (by omega)
  obtain ⟨_, _, _, _, _, _, _, _, _, _, _, _, rfl, _, _, _, _, _, _, _, _, _, _, _, _, _⟩ := N0a.open_ hr30
  refine qB (S3.q.a hc30) [.o 0,.o 1,.o 0,.x b30 p30,.f 0 1] rfl ⟨rfl,⟨hA30,by omega⟩,rfl,rfl,rfl,⟨⟩⟩ (fun h33 => ?_) fun h33 => ?_
  ·refine qD rfl ⟨⟩ ?_
   rintro wR3 ⟨SR3, XR3⟩
   refine lR0 rfl ⟨⟩ (r0a rfl (by conv => lhs; whnf) ?_)
   exact ⟨by rw [P8b (by omega) hxth (by omega)], SR3.fin⟩
  refine qD rfl ⟨⟩ ?_
  rintro wR3 ⟨SR3, XR3⟩
  refine lO SR3.k [.o 0,.o 1] rfl ⟨rfl,rfl,⟨⟩⟩ (y0a SR3 p7a rfl rfl (I2a g.expr M _ _ _ p.cells false (RdE.keep (SR3.keep0 M) _ _ hE) (hC.keep (SR3.keep0 M)) (hI.keep (SR3.keep0 M)).msk) (fun h40 w40 S40 X40 => ?_) (fun h40 w40 S40 X40 => ?_))
  ·refine lB S40.k [.o 0] rfl ⟨rfl,⟨⟩⟩ (fun h45 => ?_) fun h45 => ?_
   ·refine lR0 rfl ⟨⟩ (r0a rfl (by conv => lhs; whnf) ?_)
    exact ⟨by rw [E1b (by omega) (by omega) hxth (by omega) (by omega), h40]; simp_all, S40.fin⟩
   refine lR0 rfl ⟨⟩ (r0a rfl (by conv => lhs; whnf) ?_)
   exact ⟨by rw [E1b (by omega) (by omega) hxth (by omega) (by omega), h40]; simp_all, S40.fin⟩
  refine lR0 rfl ⟨⟩ (r0a rfl (by conv => lhs; whnf) ?_)
  exact ⟨by rw [E1b (by omega) (by omega) hxth (by omega) (by omega), h40]; simp_all, S40.fin⟩
 refine qD rfl ⟨⟩ ?_
 rintro wR3 ⟨SR3, XR3⟩
 refine lO SR3.k [.o 0,.o 1] rfl ⟨rfl,rfl,⟨⟩⟩ (y0a SR3 p7a rfl rfl (I2a g.expr M _ _ _ p.cells false (RdE.keep (SR3.keep0 M) _ _ hE) (hC.keep (SR3.keep0 M)) (hI.keep (SR3.keep0 M)).msk) (fun h40 w40 S40 X40 => ?_) (fun h40 w40 S40 X40 => ?_))
 ·refine lB S40.k [.o 0] rfl ⟨rfl,⟨⟩⟩ (fun h45 => ?_) fun h45 => ?_
  ·refine lR0 rfl ⟨⟩ (r0a rfl (by conv => lhs; whnf) ?_)
   exact ⟨by rw [U1b (by omega) (by omega) (by omega), h40]; simp_all, S40.fin⟩
  refine lR0 rfl ⟨⟩ (r0a rfl (by conv => lhs; whnf) ?_)
  exact ⟨by rw [U1b (by omega) (by omega) (by omega), h40]; simp_all, S40.fin⟩
 refine lR0 rfl ⟨⟩ (r0a rfl (by conv => lhs; whnf) ?_)
 exact ⟨by rw [U1b (by omega) (by omega) (by omega), h40]; simp_all, S40.fin⟩
theorem s6b (c : q0a) (g : M3a) (M : List Nat) (w0 : World) (xs gs : List Value) (hX : t0a M w0 c xs) (hG : d4a M w0 gs g) (hK : a3a M w0) (hat : g.thread < c.at_.length) :
 M0a Tryz.prog 42 #[.agg xs.toArray, .agg gs.toArray] w0 fun v w' => v = .bool (x2a c g) ∧ Below w0.heap.size w0 w' := by
 obtain ⟨_, _, _, _, _, _, _, _, _, rfl, hMem, hAt, _, _, _, _, _, _, _⟩ := id hX.open_
 obtain ⟨_, rfl, hE, _, g2⟩ := hG
 obtain ⟨_, _, _, rfl, _, _, _, -⟩ := id hE.open_
 have S := St.refl w0
 refine a0a Tryz.func42 rfl Tryz.ntmps42 rfl ?_
 refine wO0 rfl ⟨⟩ (j0a S (by conv => lhs; whnf) rfl ?_)
 intro g2 w2 S2 X2 G2
 refine j0a S2 (by conv => lhs; whnf) rfl ?_
 intro g3 w3 S3 X3 G3
 refine lC0 rfl ⟨⟩ (D0a b0a [0, 1, 2, 3, 4, 5, 6, 7, 8, 9, 10, 11, 12, 13, 14, 15, 16, 17, 18] [] [] (by kernel_rfl) rfl (Cl _ _ _ _) (Cl.start S3) ?_)
 refine qO S3.q [.w 1] rfl ⟨⟨rfl,by rfl⟩,⟨⟩⟩ (W1a i8c rfl rfl (fun w1 S1 X1 => d0c c ▸ Y1c c M _ _ (hX.keep (S1.keep0 M))) (fun h6 => ?_) fun h6 => ?_)
 ·refine qB S3.q [.o 0] rfl ⟨rfl,⟨⟩⟩ (fun h11 => ?_) fun h11 => ?_
  ·obtain ⟨_, b17, p17, _, hxn, hA17, _, _, hc17, hr17⟩ := RdS.get (hAt) (g.thread.toNat) (by omega)
   obtain ⟨rfl, _⟩ := id hr17
   refine qB (S3.q.a hc17) [.o 1,.o 0,.x b17 p17,.f 0 0,.o 0] rfl ⟨rfl,rfl,⟨hA17,by omega⟩,rfl,rfl,⟨⟩⟩ (fun h21 => ?_) fun h21 => ?_
   ·refine qD rfl ⟨⟩ ?_
    rintro wR1 ⟨SR1, XR1⟩
    refine lR0 rfl ⟨⟩ (r0a rfl (by conv => lhs; whnf) ?_)
    exact ⟨by rw [C2c (by omega) hxn (by omega)], SR1.fin⟩
   refine qD rfl ⟨⟩ ?_
   rintro wR1 ⟨SR1, XR1⟩
   refine lO SR1.k [.o 0,.o 1,.o 1] rfl ⟨rfl,rfl,rfl,⟨⟩⟩ (g0a SR1 e0b rfl rfl (L7a g.expr M _ _ _ _ c.mem c.mem (RdE.keep (SR1.keep0 M) _ _ hE) (hK.keep (SR1.keep0 M)) (hMem.keep (SR1.keep0 M)) (hMem.keep (SR1.keep0 M))) ?_)
   intro w30 S30 X30
   refine lB0 rfl ⟨⟩ (fun h31 => ?_) fun h31 => ?_
   ·refine lR0 rfl ⟨⟩ (r0a rfl (by conv => lhs; whnf) ?_)
    exact ⟨by rw [o2b h6 hxn (by omega), f3b h31], S30.fin⟩
   refine lR0 rfl ⟨⟩ (r0a rfl (by conv => lhs; whnf) ?_)
   exact ⟨by rw [o2b h6 hxn (by omega), z0b h31], S30.fin⟩
  refine qD rfl ⟨⟩ ?_
  rintro wR1 ⟨SR1, XR1⟩
  refine lO SR1.k [.o 0,.o 1,.o 1] rfl ⟨rfl,rfl,rfl,⟨⟩⟩ (g0a SR1 e0b rfl rfl (L7a g.expr M _ _ _ _ c.mem c.mem (RdE.keep (SR1.keep0 M) _ _ hE) (hK.keep (SR1.keep0 M)) (hMem.keep (SR1.keep0 M)) (hMem.keep (SR1.keep0 M))) ?_)
  intro w30 S30 X30
  refine lB0 rfl ⟨⟩ (fun h31 => ?_) fun h31 => ?_
  ·refine lR0 rfl ⟨⟩ (r0a rfl (by conv => lhs; whnf) ?_)
   exact ⟨by rw [J2b h6 (by omega), f3b h31], S30.fin⟩
  refine lR0 rfl ⟨⟩ (r0a rfl (by conv => lhs; whnf) ?_)
  exact ⟨by rw [J2b h6 (by omega), z0b h31], S30.fin⟩
 refine qD rfl ⟨⟩ ?_
 rintro wR1 ⟨SR1, XR1⟩
 refine lR0 rfl ⟨⟩ (r0a rfl (by conv => lhs; whnf) ?_)
 exact ⟨by rw [p6c h6], SR1.fin⟩
theorem P9b {w : World} {g t : Nat} {cs : List Value} (h : p0a w (g, t, cs)) : k1a w g 0 cs := fun j v hj => by
 rw [Nat.zero_add]; exact h.cell hj
theorem d4a.less {M M' : List Nat} {w : World} {cs : List Value} {g : M3a} (hM : ∀ x ∈ M', x ∈ M) (h : d4a M w cs g) : d4a M' w cs g := h.more fun x hx => .inl (hM x hx)
theorem R9a {p : f0a} {g : M3a} (h : b5a p g = true) : g.thread < p.threads.length := by
 rcases Int.lt_or_le g.thread p.threads.length with h1 | h1
 ·exact h1
 ·rw [k4b (.inr h1)] at h; cases h
theorem j8a {V : List u2a} (hV : z5a V) : ∀ (n i : Nat), i < n → t4a V n i = t4a V (i + 1) i
 | 0, i, h => absurd h (by omega)
 | n + 1, i, h => by
   show (match V[i]? with | some y => if 0 ≤ y.frm then y.ch :: t4a V n y.frm.toNat else [] | none => []) = (match V[i]? with | some y => if 0 ≤ y.frm then y.ch :: t4a V i y.frm.toNat else [] | none => [])
   rcases hy : V[i]? with _ | y
   ·rfl
   ·simp only
    split
    ·rename_i h0
     rcases hV.one i y hy with ⟨_, h1⟩ | ⟨_, h1⟩
     ·omega
     ·rw [j8a hV n _ (by omega), j8a hV i _ (by omega)]
    ·rfl
termination_by n => n
theorem k7b {V : List u2a} (hV : z5a V) {i : Nat} {y : u2a} (hy : V[i]? = some y) (h0 : 0 ≤ y.frm) : t4a V (i + 1) i = y.ch :: t4a V (y.frm.toNat + 1) y.frm.toNat := by
 show (match V[i]? with | some y => if 0 ≤ y.frm then y.ch :: t4a V i y.frm.toNat else [] | none => []) = _
 rw [hy]; simp only; rw [if_pos h0]
 rcases hV.one i y hy with ⟨_, h1⟩ | ⟨_, h1⟩
 ·omega
 ·rw [j8a hV i _ (by omega)]
theorem H9b {V : List u2a} {i : Nat} {y : u2a} (hy : V[i]? = some y) (h0 : ¬ 0 ≤ y.frm) : t4a V (i + 1) i = [] := by
 show (match V[i]? with | some y => if 0 ≤ y.frm then y.ch :: t4a V i y.frm.toNat else [] | none => []) = _
 rw [hy]; simp only; rw [if_neg h0]
theorem K9a {w0 w1 w2 : World} (h : Below w0.heap.size w0 w1) (k : Below w1.heap.size w1 w2) : Below w0.heap.size w0 w2 := ((v0a.of (M := []) h).trans (v0a.of k)).nil
theorem t2c (c : q0a) (g : M3a) (gg : Nat) (M : List Nat) (w0 : World) (xs gs : List Value) (hX : t0a M w0 c xs) (hb : p0a w0 (gg, 55, gs)) (hG : d4a M w0 gs g) (hK : a3a M w0) (hat : g.thread < c.at_.length) :
 M0a Tryz.prog 41 #[.agg xs.toArray, .pointer (some ⟨gg, 0, none⟩)] w0 fun v w' => v = .bool (x2a c g) ∧ Below w0.heap.size w0 w' := by
 obtain ⟨_, _, _, _, _, _, _, _, _, rfl, -⟩ := id hX.open_
 obtain ⟨_, rfl, hE, _, g2⟩ := id hG
 obtain ⟨_, _, _, rfl, _, _, _, -⟩ := id hE.open_
 have hcg := P9b hb
 have S := St.refl w0
 refine a0a Tryz.func41 rfl Tryz.ntmps41 rfl ?_
 refine wO0 rfl ⟨⟩ (j0a S (by conv => lhs; whnf) rfl ?_)
 intro g2 w2 S2 X2 G2
 refine lO S2.k [.w 0] rfl ⟨⟨rfl,by rfl⟩,⟨⟩⟩ (w1a n5b rfl (hcg.keep (S2.keep0 []) (by simp)) (by rfl) rfl ?_)
 refine g0a S2 U2c rfl rfl (s6b c g M _ _ _ (hX.keep (S2.keep0 M)) (hG.keep (S2.keep0 M)) (hK.keep (S2.keep0 M)) hat) ?_
 intro w6 S6 X6
 exact lT rfl ⟨⟩ rfl ⟨rfl, S6.fin⟩
theorem K2c (p : f0a) (m : Int) (g : M3a) (gS gg : Nat) (M0 : List Nat) (wf : World) (cs gs : List Value) (hI : InP p (gS :: M0) wf cs) (hb : p0a wf (gg, 55, gs)) (hG : d4a (gS :: M0) wf gs g) (hne : gg ≠ gS) (hth : g.thread < p.threads.length) :
 Acc p m gS 41 [.pointer (some ⟨gg, 0, none⟩)] [] M0 wf (fun c => x2a c g) (fun _ Bs _ w => Bs = [] ∧ w0a [gS] wf w) where
 has := X6c
 start := ⟨rfl, w0a.refl _ _⟩
 own := by
  rintro k Bs Ts Ts' w w' ⟨rfl, hk⟩ hT hT' hk'
  refine ⟨rfl, Nat.le_trans hk.size hk'.size, fun i hi hn => ?_⟩
  rw [hk'.same i (Nat.lt_of_lt_of_le hi hk.size) (fun hh => by
   rcases (hT i hh).2 with rfl | h
   ·exact hn (by simp)
   ·omega)]
  exact hk.same i hi hn
 lt := by
  rintro k Bs Ts w ⟨rfl, hk⟩ x hx
  cases hx
 call := by
  rintro k Bs Ts w V y ys ⟨rfl, hk⟩ hT hv hl hy hX hw hk2
  have hf : D3a p y.conf := i4a hI.ok (Y6a hv (List.mem_of_getElem? hy))
  have hk3 : w0a (gS :: M0) wf w := hk.mono (by simp)
  refine (t2c y.conf g gg M0 w ys gs (hX.less (fun x hx => by simp [hx])) (q1a hk (by simpa using hne) hb) ((hG.keep hk3).less (fun x hx => by simp [hx])) ⟨fun hh => (hI.keep hk3).msk.1 (List.mem_cons_of_mem _ hh), (hI.keep hk3).msk.2⟩ (by rw [hf.nat]; exact hth)).mono fun r w' hr => ?_
  obtain ⟨rfl, hB⟩ := hr
  exact ⟨rfl, [], ⟨rfl, hk.trans (w0a.of_below hB).of_nil⟩, v0a.of hB, fun x hx => (by cases hx)⟩
theorem n7a (p : f0a) (m : Int) (hm : m = 0 ∨ m = 1 ∨ m = 2) (n : Nat) (h1 : 1 ≤ n) (h2 : n ≤ 20000) (g : M3a) (M : List Nat) (w0 : World) (cs gs : List Value) (hI : InP p M w0 cs) (hG : d4a M w0 gs g) :
 M0a Tryz.prog 16 #[.agg cs.toArray, .int .i64 m, .agg gs.toArray, .int .i64 n] w0 fun r w' => (∃ v l err, r = .tuple #[v, .int .i64 err] ∧ g2c M w' v l ∧ b4c p m (b5a p g) (fun c => x2a c g) n l err) ∧ Below w0.heap.size w0 w' := by
 obtain ⟨_, _, _, _, _, _, _, _, _, _, _, _, rfl, _, _, _, _, _, _, _, _, _, _, _, _⟩ := hI.rd.open_
 obtain ⟨_, rfl, hE, _, _⟩ := id hG
 obtain ⟨_, _, _, rfl, _, _, _, -⟩ := id hE.open_
 have S := St.refl w0
 have hpr : M2a m n = true := by rcases hm with rfl | rfl | rfl <;> (simp [M2a]; omega)
 refine a0a Tryz.func16 rfl Tryz.ntmps16 rfl ?_
 refine wO0 rfl ⟨⟩ (j0a S (by conv => lhs; whnf) rfl ?_)
 intro g4 w4 S4 X4 G4
 refine j0a S4 (by conv => lhs; whnf) rfl ?_
 intro g6 w6 S6 X6 G6
 refine lO S6.k [.w 1] rfl ⟨⟨rfl,by rfl⟩,⟨⟩⟩ (g0a S6 n0c rfl rfl (hpr ▸ c8a p m n M _ _ (hI.keep (S6.keep0 M))) ?_)
 intro w17 S17 X17
 refine lO S17.k [.w 1,.w 0] rfl ⟨⟨rfl,by rfl⟩,⟨rfl,by rfl⟩,⟨⟩⟩ (y0a S17 y3c rfl rfl (X9b p g M _ _ _ (hI.keep (S17.keep0 M)) (hG.keep (S17.keep0 M))) (fun h22 w22 S22 X22 => ?_) (fun h22 w22 S22 X22 => ?_))
 ·refine lO S22.k [.w 1] rfl ⟨⟨rfl,by rfl⟩,⟨⟩⟩ (i1a u3c (vs := [(0, .agg _), (1, .int .i64 _)]) (cs := [_, _, _, _, _, _]) rfl rfl rfl rfl ?_)
  refine j0a S22 (by conv => lhs; whnf) rfl ?_
  intro g28 w28 S28 X28 G28
  refine lO0 rfl ⟨⟩ (E1a rfl rfl ?_)
  have z28 : w0.heap.size ≤ g28 ∧ g28 < w28.heap.size := ⟨by simpa using S28.new 0 rfl, S28.lt 0 rfl⟩
  have hI33 : InP p (g28 :: M) w28 _ := InP.grow (Bs0 := []) (M0 := M) hI (S28.keep0 []) (fun x hx => by
   simp only [List.nil_append, List.mem_cons] at hx ⊢
   rcases hx with rfl | hx
   ·right; omega
   ·exact .inl hx) (fun x hx => by
   simp only [List.mem_cons] at hx
   have := S28.size
   rcases hx with rfl | hx
   ·omega
   ·have := hI.lt x hx; omega)
  have hG33 : d4a (g28 :: M) w28 _ g := d4a.less (M := g28 :: M) (fun _ h => h) ((d4a.more (M' := g28 :: M) (fun x hx => by
   rcases List.mem_cons.1 hx with rfl | hx
   ·right; omega
   ·exact .inl hx) hG).keep (S28.keep0 _))
  have hne6 : g6 ≠ g28 := v5a (S28.blk 1 rfl) (S28.blk 0 rfl) (by decide)
  have hacc := K2c p m g g28 g6 M w28 _ _ hI33 (S28.blk 1 rfl) hG33 hne6 (R9a h22)
  have hBw := S28.below
  refine w4a j3c rfl rfl rfl (x6b p m hm n g28 (by omega) _ _ _ _ 41 [.pointer (some ⟨g6, 0, none⟩)] [] M w28 (fun c => x2a c g) (fun _ Bs _ w1 => Bs = [] ∧ w0a [g28] w28 w1) hI33 (S28.blk 0 rfl) (by simp) hacc) ?_
  rintro v33 w33 ⟨⟨i, err, rfl, hF⟩, hB33⟩
  have hB0 : Below w0.heap.size w0 w33 := (v0a.stepM (Ms := [g28]) hBw hB33 (fun x hx => by rw [List.mem_singleton] at hx; omega)).nil
  have S33 := (St.refl w33).nilEnt 44
  refine lB0 rfl ⟨⟩ (fun h37 => ?_) fun h37 => ?_
  ·refine lT2 rfl ⟨⟩ rfl ⟨⟨_, [], _, rfl, y4a, ?_⟩, K9a hB0 S33.fin⟩
   rcases hF with ⟨he, _⟩ | ⟨he, V, q1, q2, q3⟩ | ⟨he, k, _, _, q1, q2, q3, _⟩
   ·exact absurd he h37
   ·exact .inr (.inr (.inl ⟨h22, he, rfl, V, q1, q2, q3⟩))
   ·exact .inr (.inr (.inr ⟨h22, he, rfl, k, q1, q2, q3⟩))
  obtain ⟨k, V, v, Bs, _, rfl, hv, hlV, hkn, hno, ⟨yk, hyk, hacck⟩, -, hS33, hV33, -⟩ := (hF.resolve_right (fun h => by rcases h with h | h <;> omega)).2
  obtain rfl : err = 0 := by omega
  have hV34 : RdS M w33 7 (N5a M w33) v V := RdS.lessW hV33 (fun x hx => by simp [hx]) (fun _ _ => N5a.more (fun x hx => .inl (by simp [hx])))
  obtain ⟨_, _, _, rfl⟩ := hV34.form
  obtain ⟨_, -, _⟩ := hV34.len
  have hfr := hv.from
  have cS := hS33.cell (o := 5) rfl
  refine lC0 rfl ⟨⟩ (wL (fun μ D ε w => D = [] ∧ ∃ i : Int, ∃ l : List A0a, ∃ G : Option Nat, ∃ cs' : List Value, ∃ v2 : Value, (i + 1 ≤ μ) ∧ (0 ≤ i) ∧ (i ≤ k) ∧ (l ++ t4a V (i.toNat + 1) i.toNat = t4a V (k + 1) k) ∧ (l.length + i ≤ k) ∧ (Q1a (fun _ _ => R1a) 3 [] w33 G cs' v2 l) ∧ (G = none → cs' = []) ∧ St [] w33 w [(G, 44, cs')] ∧ Sl ε [(10, .pointer (some ⟨g28, 0, none⟩)), (11, .int .i64 i), (13, v2)]) (μ := k + 1) ⟨rfl, (k : Int), [], none, [], .slice none 0 0, by omega, by omega, by omega, by simp, by simp, Q1a.nil, fun _ => rfl, S33, rfl⟩ ?_)
  rintro μ D ε w ⟨rfl, i, l, G, cs', v2, _, _, _, hpath, _, hrow, h0, S, eZ⟩
  refine wK eZ (wO0 rfl ⟨⟩ ?_)
  refine s0a g7a rfl (by exact S.old cS) rfl ?_
  obtain ⟨y, b44, p44, _, hxy, hA44, _, _, hc44, hr44⟩ := RdS.get (hV34) (i.toNat) (by omega)
  obtain ⟨_, rfl, hX44, _, _⟩ := hr44
  obtain ⟨_, _, _, _, _, _, _, _, _, rfl, -⟩ := hX44.open_
  refine lB (S.k.a hc44) [.x b44 p44,.f 0 3] rfl ⟨rfl,⟨hA44,by omega⟩,⟨⟩⟩ (fun h47 => ?_) fun h47 => ?_
  ·refine lOn 8 S.k [] rfl ⟨⟩ (m1a (by conv => lhs; whnf) rfl ?_)
   refine lO0 rfl ⟨⟩ (s0a g7a rfl (by exact S.old cS) rfl ?_)
   obtain ⟨_, b62, p62, _, hx62, hA62, _, _, hc62, hr62⟩ := RdS.get (hV34) (i.toNat) (by omega)
   obtain rfl := Option.some.inj (hxy.symm.trans hx62)
   obtain ⟨_, rfl, hX62, _, hH62⟩ := hr62
   obtain ⟨_, _, _, _, _, _, _, _, _, rfl, -⟩ := hX62.open_
   refine lO S.k [.x b62 p62] rfl ⟨⟨hA62,by omega⟩,⟨⟩⟩ (w1a D5a rfl ((k1a.sub hc62 4 3).keep (S.keep0 []) List.not_mem_nil) rfl rfl ?_)
   refine E0a S o3a (vs := [.agg _]) (cs := [_, _, _]) (by rfl) rfl rfl rfl rfl rfl rfl ?_
   intro g65 w65 S65 X65 G65
   refine C1a T1a (k := 1) (M2 := []) (e1 := y.ch) S65 o3a (by decide) rfl hrow rfl rfl (S65.cells 0 rfl) hH62 (by omega) rfl ?_
   intro v66 G66 cs66 w66 S66 hrow66 X66 F66
   refine T0a (by conv => lhs; whnf) rfl ?_
   refine lO0 rfl ⟨⟩ (s0a g7a rfl (by exact S66.old cS) rfl ?_)
   obtain ⟨_, b53, p53, _, hx53, hA53, _, _, hc53, hr53⟩ := RdS.get (hV34) (i.toNat) (by omega)
   obtain rfl := Option.some.inj (hxy.symm.trans hx53)
   obtain ⟨_, rfl, hX53, _, _⟩ := hr53
   obtain ⟨_, _, _, _, _, _, _, _, _, rfl, -⟩ := hX53.open_
   refine lP (S66.k.a hc53) [.x b53 p53,.f 0 3] rfl ⟨rfl,⟨hA53,by omega⟩,⟨⟩⟩ ?_
   refine ⟨μ - 1, by omega, rfl, (y.frm), (l ++ [y.ch]), (_), (_), (_), (by have := hfr.one i.toNat y hxy; omega), (by omega), (by have := hfr.one i.toNat y hxy; omega), (by rw [← hpath, k7b hfr hxy (by omega)]; simp), (by have := hfr.one i.toNat y hxy; simp; omega), (hrow66), (fun h => by subst h; exact absurd (s1b hrow66) (by simp)), S66.tail, rfl⟩
  have hend : l = t4a V (k + 1) k := by rw [← hpath, H9b hxy (by omega)]; simp
  obtain ⟨_, _, rfl⟩ := hrow.form
  refine lOn 8 S.k [] rfl ⟨⟩ (m1a (v := .slice _ _ _) rfl rfl ?_)
  refine lB0 rfl ⟨⟩ (fun h69 => ?_) fun h69 => ?_
  ·refine lT2 rfl ⟨⟩ rfl ?_
   exact ⟨⟨_, [], _, rfl, y4a, .inr (.inl ⟨k, V, hv, hlV, hkn, hno, ⟨yk, hyk, hacck⟩, h22, .inl ⟨by rw [← hend]; omega, rfl, rfl⟩⟩)⟩, K9a hB0 S.fin⟩
  refine lOn 7 S.k [] rfl ⟨⟩ (m1a (v := .slice _ _ _) rfl rfl ?_)
  refine e2a E7c rfl rfl (z7b _ G cs' _ l hrow h0 (fun x hx => S.blk 0 (by rw [hx]; rfl)) (by omega)) ?_
  rintro v71 w71 ⟨_, hrow71, hb71, hB71⟩
  have S71 := S.callRow (k := 0) (G' := G) rfl hB71 hb71 (fun x hx => .inl hx)
  refine lOn 4 S71.k [] rfl ⟨⟩ (m1a (v := .slice _ _ _) rfl rfl ?_)
  refine T0a (v := .slice _ _ _) rfl rfl ?_
  refine lT2 rfl ⟨⟩ rfl ?_
  refine ⟨⟨_, l.reverse, _, rfl, ?_, .inr (.inl ⟨k, V, hv, hlV, hkn, hno, ⟨yk, hyk, hacck⟩, h22, .inr ⟨by rw [← hend]; omega, rfl, by rw [hend]⟩⟩)⟩, K9a hB0 S71.fin⟩
  refine Q1a.rd (M := M) (w := w71) T1a hrow71 S71 (k := 0) rfl (fun x hx hh => ?_) (by simp; omega)
  have h3 := (S71.own _ (List.mem_cons_self) x (by rw [hx])).1
  have h4 := hI.lt x hh
  have h5 := hB0.size
  rcases h3 with h3 | h3
  ·omega
  ·cases h3
 exact lT2 rfl ⟨⟩ rfl ⟨⟨_, [], _, rfl, y4a, .inl ⟨h22, rfl, rfl⟩⟩, S22.fin⟩
theorem I3b (p : f0a) (c : q0a) (g : M3a) (M : List Nat) (w0 : World) (cs xs gs : List Value) (hI : InP p M w0 cs) (hX : t0a M w0 c xs) (hf : D3a p c) (hG : d4a M w0 gs g) :
 M0a Tryz.prog 21 #[.agg cs.toArray, .agg xs.toArray, .agg gs.toArray] w0 fun v w' => v = .bool (b5a p g && x2a c g) ∧ Below w0.heap.size w0 w' := by
 obtain ⟨_, _, _, _, _, _, _, _, _, _, _, _, rfl, _, _, _, _, _, _, _, _, _, _, _, _⟩ := hI.rd.open_
 obtain ⟨_, _, _, _, _, _, _, _, _, rfl, _, _, _, _, _, _, _, _, _⟩ := id hX.open_
 obtain ⟨_, rfl, hE, _, _⟩ := id hG
 obtain ⟨_, _, _, rfl, _, _, _, -⟩ := id hE.open_
 have S := St.refl w0
 have f1 := hf.mem.len
 have f2 := hf.nat
 have f3 := hf.nbuf
 refine a0a Tryz.func21 rfl Tryz.ntmps21 rfl ?_
 refine wO0 rfl ⟨⟩ (j0a S (by conv => lhs; whnf) rfl ?_)
 intro g3 w3 S3 X3 G3
 refine j0a S3 (by conv => lhs; whnf) rfl ?_
 intro g4 w4 S4 X4 G4
 refine j0a S4 (by conv => lhs; whnf) rfl ?_
 intro g5 w5 S5 X5 G5
 refine lO S5.k [.w 2] rfl ⟨⟨rfl,by rfl⟩,⟨⟩⟩ (g0a S5 y5b rfl rfl (s7a p M _ _ (hI.keep (S5.keep0 M))) ?_)
 intro w8 S8 X8
 refine lO S8.k [.w 2,.w 0] rfl ⟨⟨rfl,by rfl⟩,⟨rfl,by rfl⟩,⟨⟩⟩ (y0a S8 y3c rfl rfl (X9b p g M _ _ _ (hI.keep (S8.keep0 M)) (hG.keep (S8.keep0 M))) (fun h13 w13 S13 X13 => ?_) (fun h13 w13 S13 X13 => ?_))
 ·refine lB S13.k [.o 1,.o 2] rfl ⟨rfl,rfl,⟨⟩⟩ (fun h22 => by exfalso; omega) fun h22 => ?_
  refine lB S13.k [.o 1,.o 2] rfl ⟨rfl,rfl,⟨⟩⟩ (fun h30 => by exfalso; omega) fun h30 => ?_
  refine lB S13.k [.o 1,.o 2] rfl ⟨rfl,rfl,⟨⟩⟩ (fun h39 => by exfalso; omega) fun h39 => ?_
  refine lO S13.k [.w 1,.w 0] rfl ⟨⟨rfl,by rfl⟩,⟨rfl,by rfl⟩,⟨⟩⟩ ?_
  refine g0a S13 U2c rfl rfl (s6b c g M _ _ _ (hX.keep (S13.keep0 M)) (hG.keep (S13.keep0 M)) (hI.keep (S13.keep0 M)).msk (by rw [f2]; exact R9a h13)) ?_
  intro w43 S43 X43
  refine lR0 rfl ⟨⟩ (r0a rfl (by conv => lhs; whnf) ?_)
  exact ⟨by rw [h13]; rfl, S43.fin⟩
 refine lR0 rfl ⟨⟩ (r0a rfl (by conv => lhs; whnf) ?_)
 exact ⟨by rw [h13]; rfl, S13.fin⟩
def g0b (s : ByteArray) : Bool := decide (1 ≤ s.size) && decide (s.size ≤ 64) && s.data.toList.all fun b => decide (33 ≤ b.toNat) && decide (b.toNat ≤ 126)
theorem R6a {s : ByteArray} (h : g0b s = true) : u6a s := by
 simp only [g0b, Bool.and_eq_true, decide_eq_true_eq, List.all_eq_true] at h
 refine ⟨h.1.1, h.1.2, fun i hi => ?_⟩
 exact h.2 s[i] (by rw [ByteArray.getElem_eq_getElem_data]; simp)
def inB (i : Int) (n : Nat) : Bool := decide (0 ≤ i) && decide (i < n)
theorem z8a {i : Int} {n : Nat} (h : inB i n = true) : t2a i n := by simpa [inB, t2a] using h
def M2b (cells : List d2a) (e : E) (sh : Bool) (t : Int) : Bool := (e.sup 3 ++ e.sup 2).all fun x => (decide (y1a cells x ≠ -1) || sh) && (decide (y1a cells x < 0) || decide (y1a cells x = t))
theorem i7a {cells : List d2a} {e : E} {sh : Bool} {t : Int} (h : M2b cells e sh t = true) : M4a cells e sh t := fun x hx => by
 have := List.all_eq_true.1 h x hx
 simp only [Bool.and_eq_true, Bool.or_eq_true, decide_eq_true_eq] at this
 exact ⟨fun e => this.1.resolve_left (fun h => h e), fun e => this.2.resolve_left (by omega)⟩
def D0b (cells : List d2a) (e : E) (pair : Bool) (t : Int) : Bool := e.valid cells pair && decide (e.w = 1) && M2b cells e true t
theorem T6a {cells : List d2a} {e : E} {pair : Bool} {t : Int} (h : D0b cells e pair t = true) : Z6a cells e pair t := by
 simp only [D0b, Bool.and_eq_true, decide_eq_true_eq] at h
 exact ⟨h.1.1, h.1.2, i7a h.2⟩
def j9a : List Int → Bool
 | [] => true
 | x :: l => (l.all fun y => decide (x < y)) && j9a l
theorem e8a : ∀ {l : List Int}, j9a l = true → X5a l
 | [], _ => List.Pairwise.nil
 | x :: l, h => by
   simp only [j9a, Bool.and_eq_true, List.all_eq_true, decide_eq_true_eq] at h
   exact List.Pairwise.cons h.1 (e8a h.2)
def pwB {α : Type} (r : α → α → Bool) : List α → Bool
 | [] => true
 | x :: l => l.all (r x) && pwB r l
theorem p0b {α : Type} {r : α → α → Bool} {R : α → α → Prop} (hr : ∀ a b, r a b = true → R a b) : ∀ {l : List α}, pwB r l = true → l.Pairwise R
 | [], _ => List.Pairwise.nil
 | x :: l, h => by
   simp only [pwB, Bool.and_eq_true, List.all_eq_true] at h
   exact List.Pairwise.cons (fun y hy => hr _ _ (h.1 y hy)) (p0b hr h.2)
def W4b (e : E) : Bool := decide (e.op = 0) && decide (e.w = 0) && decide (e.n = 0) && e.kids.isEmpty
theorem j7b {e : E} (h : W4b e = true) : e.absent := by
 simp only [W4b, Bool.and_eq_true, decide_eq_true_eq, List.isEmpty_iff] at h
 exact ⟨h.1.1.1, h.1.1.2, h.1.2, h.2⟩
def p9c (e : E) : Bool := decide (e.op = 1) && decide (e.w = 1) && decide (e.n = 1) && e.kids.isEmpty
theorem v5c {e : E} (h : p9c e = true) : e = ⟨1, 1, 1, []⟩ := by
 simp only [p9c, Bool.and_eq_true, decide_eq_true_eq, List.isEmpty_iff] at h
 cases e; simp_all
def ifB (c : Prop) [Decidable c] (b : Bool) : Bool := !decide c || b
theorem V6a {c : Prop} [Decidable c] {b : Bool} (h : ifB c b = true) (hc : c) : b = true := by simpa [ifB, hc] using h
def g4c (p : f0a) (t : Int) (s : t1a) : Bool :=
 M2b p.cells s.guard (decide (s.kind = 4)) t &&
 ((List.range s.set.length).all fun i => match s.set[i]? with | some a => ifB (0 < i ∨ s.kind ≠ 2) (M2b p.cells a.to (decide (s.kind = 4)) t) | none => true) &&
 (s.set.all fun a => decide (y1a p.cells a.cell = t ∨ y1a p.cells a.cell = -1)) &&
 ifB (s.kind = 1) (s.set.all fun a => decide (y1a p.cells a.cell = t)) &&
 ifB (s.kind = 2) (match s.set with | [] => false | a :: l => decide (y1a p.cells a.cell = t ∧ Q0b p.cells a.cell = false ∧ a.to.op = 2 ∧ y1a p.cells a.to.n = -1 ∧ Q0b p.cells a.to.n = false) && l.all fun b => decide (y1a p.cells b.cell = t ∧ Q0b p.cells b.cell = true)) &&
 ifB (s.kind = 3) (match s.set with | [] => false | a :: l => decide (y1a p.cells a.cell = -1 ∧ Q0b p.cells a.cell = false) && l.all fun b => decide (Q0b p.cells b.cell = true)) &&
 ifB (5 ≤ s.kind) (s.set.isEmpty && p9c s.guard) &&
 ifB (6 ≤ s.kind) (inB s.target p.threads.length && decide (s.target ≠ t)) &&
 ifB (s.kind = 6) (match p.threads[s.target.toNat]? with | some u => u.asleep | none => true)
theorem U0c {p : f0a} {t : Int} {s : t1a} (h : g4c p t s = true) : E3b p t s := by
 simp only [g4c, Bool.and_eq_true] at h
 obtain ⟨⟨⟨⟨⟨⟨⟨⟨a1, a2⟩, a3⟩, a4⟩, a5⟩, a6⟩, a7⟩, a8⟩, a9⟩ := h
 refine ⟨i7a a1, fun i hi hc => ?_, fun a ha => of_decide_eq_true (List.all_eq_true.1 a3 a ha), fun hk a ha => of_decide_eq_true (List.all_eq_true.1 (V6a a4 hk) a ha), fun hk => ?_, fun hk => ?_, fun hk => ?_, fun hk => ?_, fun hk u hu => ?_⟩
 ·have := List.all_eq_true.1 a2 i (List.mem_range.2 hi)
  rw [List.getElem?_eq_getElem hi] at this
  exact i7a (V6a this hc)
 ·have := V6a a5 hk
  split at this
  ·cases this
  ·rename_i a l hs
   rw [Bool.and_eq_true] at this
   obtain ⟨b1, b2, b3, b4, b5⟩ := of_decide_eq_true this.1
   exact ⟨a, l, hs, b1, b2, b3, b4, b5, fun b hb => of_decide_eq_true (List.all_eq_true.1 this.2 b hb)⟩
 ·have := V6a a6 hk
  split at this
  ·cases this
  ·rename_i a l hs
   rw [Bool.and_eq_true] at this
   obtain ⟨b1, b2⟩ := of_decide_eq_true this.1
   exact ⟨a, l, hs, b1, b2, fun b hb => of_decide_eq_true (List.all_eq_true.1 this.2 b hb)⟩
 ·have := V6a a7 hk
  rw [Bool.and_eq_true, List.isEmpty_iff] at this
  exact ⟨this.1, v5c this.2⟩
 ·have := V6a a8 hk
  rw [Bool.and_eq_true] at this
  exact ⟨z8a this.1, of_decide_eq_true this.2⟩
 ·have := V6a a9 hk
  rw [hu] at this; exact this
def stepB (p : f0a) (t : Int) (points : Int) (s : t1a) : Bool :=
 decide (1 ≤ s.kind ∧ s.kind ≤ 7) && decide (0 ≤ s.frm ∧ s.frm < points - 1) && decide (0 ≤ s.to ∧ s.to < points) && inB s.module_ p.modules.length && ifB (s.release = true) (decide (s.kind = 3)) &&
 ifB (s.target ≠ 0) (decide (s.kind = 6 ∨ s.kind = 7)) && (s.guard.valid p.cells false && decide (s.guard.w = 1)) &&
 (s.set.all fun a => inB a.cell p.cells.length && a.to.valid p.cells false && decide (a.to.w = wAt p.cells a.cell)) && pwB (fun a b => decide (a.cell ≠ b.cell)) s.set && g4c p t s
theorem d1c {p : f0a} {t points : Int} {s : t1a} (h : stepB p t points s = true) : U6a p t points s := by
 simp only [stepB, Bool.and_eq_true] at h
 obtain ⟨⟨⟨⟨⟨⟨⟨⟨⟨a1, a2⟩, a3⟩, a4⟩, a5⟩, a6⟩, a7, a7'⟩, a8⟩, a9⟩, a10⟩ := h
 refine ⟨of_decide_eq_true a1, of_decide_eq_true a2, of_decide_eq_true a3, z8a a4, fun hr => of_decide_eq_true (V6a a5 hr), fun hr => of_decide_eq_true (V6a a6 hr), ⟨a7, of_decide_eq_true a7'⟩, fun a ha => ?_, p0b (fun a b h => of_decide_eq_true h) a9, U0c a10⟩
 have := List.all_eq_true.1 a8 a ha
 simp only [Bool.and_eq_true] at this
 exact ⟨z8a this.1.1, this.1.2, of_decide_eq_true this.2⟩
def f5c (p : f0a) (t points : Int) (l : Z4b) : Bool := decide (0 ≤ l.head ∧ l.head < points) && j9a l.body && (l.body.all fun x => decide (0 ≤ x ∧ x < points ∧ x ≠ l.head)) && (l.variant.valid p.cells false && M2b p.cells l.variant true t)
theorem b1c {p : f0a} {t points : Int} {l : Z4b} (h : f5c p t points l = true) : g9b p t points l := by
 simp only [f5c, Bool.and_eq_true] at h
 obtain ⟨⟨⟨a1, a2⟩, a3⟩, a4, a5⟩ := h
 exact ⟨of_decide_eq_true a1, e8a a2, fun x hx => of_decide_eq_true (List.all_eq_true.1 a3 x hx), a4, i7a a5⟩
def d4b (p : f0a) (t : Nat) (x : Q0a) : Bool :=
 g0b x.name && decide (1 ≤ x.points ∧ x.points ≤ 48) && decide (x.steps.length ≤ 64) && decide (x.loops.length ≤ 8) && decide ((x.asserts.length : Int) = x.points) && decide ((x.modules.length : Int) = x.points) &&
 (x.modules.all fun m => inB m p.modules.length) && (x.asserts.all fun e => D0b p.cells e false t) && (x.steps.all fun s => stepB p t x.points s) && (x.loops.all fun l => f5c p t x.points l)
theorem c7b {p : f0a} {t : Nat} {x : Q0a} (h : d4b p t x = true) : g6a p t x := by
 simp only [d4b, Bool.and_eq_true] at h
 obtain ⟨⟨⟨⟨⟨⟨⟨⟨⟨a1, a2⟩, a3⟩, a4⟩, a5⟩, a6⟩, a7⟩, a8⟩, a9⟩, a10⟩ := h
 exact ⟨R6a a1, of_decide_eq_true a2, of_decide_eq_true a3, of_decide_eq_true a4, of_decide_eq_true a5, of_decide_eq_true a6, fun m hm => z8a (List.all_eq_true.1 a7 m hm), fun m hm => T6a (List.all_eq_true.1 a8 m hm),
  fun m hm => d1c (List.all_eq_true.1 a9 m hm), fun m hm => b1c (List.all_eq_true.1 a10 m hm)⟩
def S3c (p : f0a) (c : d2a) : Bool := g0b c.name && decide (1 ≤ c.w ∧ c.w ≤ 8) && decide (0 ≤ c.init ∧ c.init < N4a c.w.toNat) && decide (-1 ≤ c.thread ∧ c.thread < p.threads.length) && inB c.module_ p.modules.length
theorem r2c {p : f0a} {c : d2a} (h : S3c p c = true) : r5b p c := by
 simp only [S3c, Bool.and_eq_true] at h
 obtain ⟨⟨⟨⟨a1, a2⟩, a3⟩, a4⟩, a5⟩ := h
 exact ⟨R6a a1, of_decide_eq_true a2, of_decide_eq_true a3, of_decide_eq_true a4, z8a a5⟩
def e9c (p : f0a) (m : Z3a) : Bool := g0b m.name && g0b m.owner && (W4b m.rely || D0b p.cells m.rely true (-1)) && D0b p.cells m.guar true (-1) && (m.frame.all fun x => inB x p.cells.length && decide (y1a p.cells x = -1)) && j9a m.frame
theorem G4c {p : f0a} {m : Z3a} (h : e9c p m = true) : z2c p m := by
 simp only [e9c, Bool.and_eq_true, Bool.or_eq_true] at h
 obtain ⟨⟨⟨⟨⟨a1, a2⟩, a3⟩, a4⟩, a5⟩, a6⟩ := h
 refine ⟨R6a a1, R6a a2, a3.imp j7b T6a, T6a a4, fun x hx => ?_, e8a a6⟩
 have := List.all_eq_true.1 a5 x hx
 rw [Bool.and_eq_true] at this
 exact ⟨z8a this.1, of_decide_eq_true this.2⟩
def Y4c (p : f0a) (l : c4b) : Bool := inB l.cell p.cells.length && decide (y1a p.cells l.cell = -1 ∧ wAt p.cells l.cell = 1 ∧ Q0b p.cells l.cell = false) && inB l.module_ p.modules.length && D0b p.cells l.inv false (-1)
theorem O0c {p : f0a} {l : c4b} (h : Y4c p l = true) : N5b p l := by
 simp only [Y4c, Bool.and_eq_true] at h
 obtain ⟨⟨⟨a1, a2⟩, a3⟩, a4⟩ := h
 exact ⟨⟨z8a a1, of_decide_eq_true a2⟩, z8a a3, T6a a4⟩
def A8c (p : f0a) : Bool :=
 decide (p.cells.length ≤ 32) && decide (p.modules.length ≤ 6) && decide (p.locks.length ≤ 4) && decide (p.threads.length ≤ 4) &&
 p.cells.all (S3c p) && pwB (fun a b => decide (a.name ≠ b.name)) p.cells && p.modules.all (e9c p) && pwB (fun a b => decide (a.name ≠ b.name)) p.modules && p.locks.all (Y4c p) && pwB (fun a b => decide (a.cell ≠ b.cell)) p.locks &&
 ((List.range p.threads.length).all fun t => match p.threads[t]? with | some x => d4b p t x | none => true) && pwB (fun a b => decide (a.name ≠ b.name)) p.threads
theorem U1c {p : f0a} (h : A8c p = true) : b1a p := by
 simp only [A8c, Bool.and_eq_true] at h
 obtain ⟨⟨⟨⟨⟨⟨⟨⟨⟨⟨⟨a1, a2⟩, a3⟩, a4⟩, a5⟩, a6⟩, a7⟩, a8⟩, a9⟩, a10⟩, a11⟩, a12⟩ := h
 refine ⟨of_decide_eq_true a1, of_decide_eq_true a2, of_decide_eq_true a3, of_decide_eq_true a4, fun c hc => r2c (List.all_eq_true.1 a5 c hc), p0b (fun _ _ h => of_decide_eq_true h) a6, fun c hc => G4c (List.all_eq_true.1 a7 c hc),
  p0b (fun _ _ h => of_decide_eq_true h) a8, fun c hc => O0c (List.all_eq_true.1 a9 c hc), p0b (fun _ _ h => of_decide_eq_true h) a10, fun t ht => ?_, p0b (fun _ _ h => of_decide_eq_true h) a12⟩
 have := List.all_eq_true.1 a11 t (List.mem_range.2 ht)
 rw [List.getElem?_eq_getElem ht] at this
 exact c7b this
theorem h2c (n wd : Int) (hn : i64 n) (hw : i64 wd) (M : List Nat) (w0 : World) :
 M0a Tryz.prog 20 #[.int .i64 n, .int .i64 wd] w0 fun v w' => (∃ cs : List Value, v = .agg cs.toArray ∧ RdE M w' ⟨1, wd, n, []⟩ cs) ∧ Below w0.heap.size w0 w' := by
 have S := St.refl w0
 refine a0a Tryz.func20 rfl Tryz.ntmps20 rfl ?_
 refine wO0 rfl ⟨⟩ (n0a S m7a rfl rfl ?_)
 intro g4 w4 S4 X4 G4
 refine lO0 rfl ⟨⟩ (i1a L2b (vs := [(0, .int .i64 _), (1, .int .i64 _), (2, .int .i64 _)]) (cs := [_, _, _, _]) rfl rfl rfl rfl ?_)
 first | refine e0a (kk := 0) (vs := [_, _, _, _]) S4 V5a rfl rfl rfl rfl rfl rfl rfl ?_
 intro w1_3 S1_3 X1_3
 dsimp only [k0a, List.set] at S1_3
 refine lR0 rfl ⟨⟩ ?_
 exact r1a rfl x1a rfl (S1_3.cells 0 rfl) rfl ⟨⟨_, rfl, k3a (by unfold i64; omega) hw hn⟩, S1_3.fin⟩
def x9c (a b : E) : E := ⟨5, 1, 0, [a, b]⟩
theorem v6c {M : List Nat} {w : World} {op wd : Int} {a : E} {ca : List Value} {g : Nat} (h1 : i64 op) (h2 : i64 wd) (hg : g ∉ M) (hc : k1a w g 0 ca) (ha : RdE M w a ca) :
 RdE M w ⟨op, wd, 0, [a]⟩ [.int .i64 op, .int .i64 wd, .int .i64 0, .slice (some ⟨g, 0, none⟩) 1 1] := by
 rw [RdE]
 refine ⟨_, 1, 1, rfl, h1, h2, by unfold i64; simp, rfl, Nat.le_refl _, by unfold maxLen; omega, by omega, fun _ => ⟨g, 0, rfl, hg, fun i hi => ?_⟩⟩
 have hi1 : i < 1 := hi
 obtain rfl : i = 0 := by omega
 exact ⟨ca, by simpa using hc, ha⟩
theorem t4c {M M' : List Nat} {w w' : World} {op wd n : Int} {cs : List Value} (h : RdE M w ⟨op, wd, n, []⟩ cs) : RdE M' w' ⟨op, wd, n, []⟩ cs := by
 rw [RdE] at h ⊢
 obtain ⟨A, k, c, h1, h2, h3, h4, h5, h6, h7, h8, _⟩ := h
 exact ⟨A, k, c, h1, h2, h3, h4, h5, h6, h7, h8, fun hk => absurd hk (by simp at h5; omega)⟩
def RdL (M : List Nat) (w : World) (v : Value) (l : List E) : Prop := RdE M w ⟨0, 0, 0, l⟩ [.int .i64 0, .int .i64 0, .int .i64 0, v]
theorem RdL.open_ {M : List Nat} {w : World} {v : Value} {l : List E} (h : RdL M w v l) : ∃ A n c, v = .slice A n c ∧ n = l.length ∧ n ≤ c ∧ c ≤ maxLen ∧ n ≤ 140737488355328 ∧
 (0 < n → ∃ b o, A = some ⟨b, o, none⟩ ∧ b ∉ M ∧ ∀ (i : Nat) (h : i < l.length), ∃ cs', k1a w b (o + i * 4) cs' ∧ RdE M w l[i] cs') := by
 obtain ⟨A, n, c, h1, -, -, -, h2, h3, h4, h5, h6⟩ := RdE.open_ h
 cases h1
 exact ⟨A, n, c, rfl, h2, h3, h4, h5, h6⟩
theorem RdL.at {M : List Nat} {w : World} {A : Option Addr} {n c : Nat} {l : List E} (h : RdL M w (.slice A n c) l) : n = l.length ∧ n ≤ c ∧ c ≤ maxLen ∧ n ≤ 140737488355328 ∧
 (0 < n → ∃ b o, A = some ⟨b, o, none⟩ ∧ b ∉ M ∧ ∀ (i : Nat) (h : i < l.length), ∃ cs', k1a w b (o + i * 4) cs' ∧ RdE M w l[i] cs') := by
 obtain ⟨A, n, c, h1, h2⟩ := h.open_
 cases h1; exact h2
theorem RdL.keep {M : List Nat} {w w' : World} {v : Value} {l : List E} (h : RdL M w v l) (hk : w0a M w w') : RdL M w' v l := RdE.keep hk _ _ h
theorem RdL.more {M M' : List Nat} {w : World} {v : Value} {l : List E} (h : RdL M w v l) (hM : ∀ g ∈ M', g ∈ M ∨ w.heap.size ≤ g) : RdL M' w v l := RdE.more hM _ _ h
def q6a : List E → E
 | [] => ⟨1, 1, 1, []⟩
 | e :: es => es.foldl x9c e
theorem a9a (l : List E) (k : Nat) (hk : k < l.length) : q6a (l.take (k + 1)) = if k = 0 then l[k] else x9c (q6a (l.take k)) l[k] := by
 cases l with
 | nil => simp at hk
 | cons e es =>
   cases k with
   | zero => simp [q6a]
   | succ k =>
     have hk' : k < es.length := by simpa using hk
     simp only [List.take_succ_cons, q6a, List.getElem_cons_succ]
     rw [if_neg (by omega), List.take_add_one, List.getElem?_eq_getElem hk', Option.toList_some, List.foldl_append]
     rfl
theorem K7a (a b : List E) : E.cnts (a ++ b) = E.cnts a + E.cnts b := by
 induction a with
 | nil => simp [E.cnts]
 | cons x xs ih => simp only [List.cons_append, E.cnts, ih]; omega
theorem Y1b (l : List E) (k : Nat) (hk : k < l.length) : E.cnts (l.take (k + 1)) = E.cnts (l.take k) + l[k].cnt ∧ E.cnts (l.take (k + 1)) ≤ E.cnts l := by
 have h1 : E.cnts (l.take (k + 1)) = E.cnts (l.take k) + l[k].cnt := by
  rw [List.take_add_one, List.getElem?_eq_getElem hk, Option.toList_some, K7a]; simp [E.cnts]
 have h2 := K7a (l.take (k + 1)) (l.drop (k + 1))
 rw [List.take_append_drop] at h2
 exact ⟨h1, by omega⟩
theorem v5b (n wd : Int) (w0 : World) : M0a Tryz.prog 45 #[.int .i64 n, .int .i64 wd] w0 fun v w' => v = .agg #[.int .i64 2, .int .i64 wd, .int .i64 n, .slice none 0 0] ∧ Below w0.heap.size w0 w' := by
 have S := St.refl w0
 refine a0a Tryz.func45 rfl Tryz.ntmps45 rfl ?_
 refine wO0 rfl ⟨⟩ (n0a S m7a rfl rfl ?_)
 intro g4 w4 S4 X4 G4
 refine lO0 rfl ⟨⟩ (i1a L2b (vs := [(0, .int .i64 _), (1, .int .i64 _), (2, .int .i64 _)]) (cs := [_, _, _, _]) rfl rfl rfl rfl ?_)
 first | refine e0a (kk := 0) (vs := [_, _, _, _]) S4 V5a rfl rfl rfl rfl rfl rfl rfl ?_
 intro w1_3 S1_3 X1_3
 dsimp only [k0a, List.set] at S1_3
 exact lR0 rfl ⟨⟩ (r1a rfl x1a rfl (S1_3.cells 0 rfl) rfl ⟨rfl, S1_3.fin⟩)
theorem T7c (op wd : Int) (ho : i64 op) (hw : i64 wd) (a b : E) (ca cb : List Value) (M : List Nat) (w0 : World) (hM : ∀ g ∈ M, g < w0.heap.size) (ha : RdE M w0 a ca) (hb : RdE M w0 b cb) :
 M0a Tryz.prog 95 #[.int .i64 op, .int .i64 wd, .agg ca.toArray, .agg cb.toArray] w0 fun v w' => (∃ cs : List Value, v = .agg cs.toArray ∧ RdE M w' ⟨op, wd, 0, [a, b]⟩ cs) ∧ Below w0.heap.size w0 w' := by
 have S := St.refl w0
 obtain ⟨_, _, _, rfl, -⟩ := ha.open_
 obtain ⟨_, _, _, rfl, -⟩ := hb.open_
 refine a0a Tryz.func95 rfl Tryz.ntmps95 rfl ?_
 refine wO0 rfl ⟨⟩ (j0a S (by conv => lhs; whnf) rfl ?_)
 intro g6 w6 S6 X6 G6
 refine j0a S6 (by conv => lhs; whnf) rfl ?_
 intro g7 w7 S7 X7 G7
 refine n0a S7 m7a rfl rfl ?_
 intro g8 w8 S8 X8 G8
 refine lO S8.k [.w 2,.w 1] rfl ⟨⟨rfl,by rfl⟩,⟨rfl,by rfl⟩,⟨⟩⟩ (E0a S8 a1a (vs := [.agg _, .agg _]) (cs := [_, _, _, _, _, _, _, _]) (by rfl) rfl rfl rfl rfl rfl rfl ?_)
 intro g13 w13 S13 X13 G13
 refine i1a L2b (vs := [(0, .int .i64 _), (1, .int .i64 _), (3, .slice _ _ _)]) (cs := [_, _, _, _]) rfl rfl rfl rfl ?_
 refine e0a (kk := 1) (vs := [_, _, _, _]) S13 V5a rfl rfl rfl rfl rfl rfl rfl ?_
 intro w1_6 S1_6 X1_6
 dsimp only [k0a, List.set] at S1_6
 refine lR0 rfl ⟨⟩ (r1a rfl x1a rfl (S1_6.cells 1 rfl) rfl ⟨⟨_, rfl, A5c ho hw (fun hm => ?_) (S1_6.cells 0 rfl) (RdE.keep (S1_6.keep0 M) _ _ ha) (RdE.keep (S1_6.keep0 M) _ _ hb)⟩, S1_6.fin⟩)
 have h1 := hM _ hm
 have h2 := S1_6.new 0 rfl
 simp at h2; omega
theorem c7c (e : E) (n wd : Int) (M : List Nat) (w0 : World) (cs : List Value) (hR : RdE M w0 e cs) (ho : e.op ≠ 1) :
 M0a Tryz.prog 94 #[.agg cs.toArray, .int .i64 n, .int .i64 wd] w0 fun v w' => v = .bool false ∧ Below w0.heap.size w0 w' := by
 obtain ⟨_, k, _, rfl, -⟩ := hR.open_
 have S := St.refl w0
 refine a0a Tryz.func94 rfl Tryz.ntmps94 rfl ?_
 refine wO0 rfl ⟨⟩ (j0a S (by conv => lhs; whnf) rfl ?_)
 intro g3 w3 S3 X3 G3
 refine lB S3.k [.o 0] rfl ⟨rfl,⟨⟩⟩ (fun h9 => by exfalso; omega) fun h9 => ?_
 exact lT rfl ⟨⟩ rfl ⟨rfl, S3.fin⟩
theorem H0b (e : E) (M : List Nat) (w0 : World) (cs : List Value) (hR : RdE M w0 e cs) (hw : e.wf = true) :
 M0a Tryz.prog 62 #[.agg cs.toArray] w0 fun v w' => v = .bool true ∧ Below w0.heap.size w0 w' := by
 have h := W8a e M w0 cs hR
 rwa [hw] at h
theorem s1c (e : E) (M : List Nat) (w0 : World) (cs : List Value) (hR : RdE M w0 e cs) (hc : e.cnt ≤ 600) :
 M0a Tryz.prog 39 #[.agg cs.toArray, .int .i64 601] w0 fun v w' => v = .int .i64 (e.cnt : Int) ∧ Below w0.heap.size w0 w' := by
 have h := d5b e M w0 cs 601 hR (by unfold i64; omega)
 have he : e.size 601 = (e.cnt : Int) := by rw [E.size_eq e 601 (by omega)]; omega
 rwa [he] at h
theorem M7b (l : List E) (M : List Nat) (w0 : World) (vl : Value) (hL : RdL M w0 vl l) (hM : ∀ g ∈ M, g < w0.heap.size) (hel : ∀ e ∈ l, e.wf = true ∧ e.w = 1 ∧ e.op ≠ 1) (hsz : E.cnts l + l.length ≤ 600) (hfin : (q6a l).wf = true) :
 M0a Tryz.prog 67 #[vl, .int .i64 5, .int .i64 1] w0 fun v w' => (∃ cs : List Value, v = .agg cs.toArray ∧ RdE M w' (q6a l) cs) ∧ Below w0.heap.size w0 w' := by
 obtain ⟨A, n, c, rfl, _, _, _, _, hks⟩ := hL.open_
 have S := St.refl w0
 refine a0a Tryz.func67 rfl Tryz.ntmps67 rfl ?_
 refine wO0 rfl ⟨⟩ (n0a S m7a rfl rfl ?_)
 intro g6 w6 S6 X6 G6
 refine lC0 rfl ⟨⟩ (wL (fun μ D ε w => D = [] ∧ ∃ k : Nat, (k + μ = l.length) ∧ St [] w0 w [(some g6, 53, [.int .i64 0, .int .i64 0, .int .i64 0, .slice none 0 0])] ∧ ε 0 = .slice A n c ∧ ε 1 = .int .i64 5 ∧ ε 2 = .int .i64 1 ∧ ε 6 = .pointer (some ⟨g6, 0, none⟩) ∧ ε 7 = .bool false ∧ ε 8 = .int .i64 k) (μ := l.length) ⟨rfl, 0, by omega, S6, rfl, rfl, rfl, rfl, rfl, rfl⟩ ?_)
 rintro μ D ε w ⟨rfl, k, hk, S, e0, e1, e2, e6, e7, e8⟩
 refine o0a 0 e0 (o0a 1 e1 (o0a 2 e2 (o0a 6 e6 (o0a 7 e7 (o0a 8 e8 ?_)))))
 clear e0 e1 e2 e6 e7 e8
 refine wB0 rfl ⟨⟩ (fun h16 => ?_) fun h16 => ?_
 ·refine lO0 rfl ⟨⟩ ?_
  have hlt : k < l.length := by omega
  obtain ⟨b, o, hA, hbM, hkk⟩ := hks (by omega)
  obtain ⟨ck, hck, hrk⟩ := hkk k hlt
  obtain ⟨Ak, nk, qk, rfl, -⟩ := hrk.open_
  have hcw := hck 1 _ rfl
  obtain ⟨e1, e2, e3⟩ := hel l[k] (List.getElem_mem hlt)
  refine x0a a1a.slT rfl (by assumption) rfl (by omega) (by omega) rfl ?_
  refine lO0 rfl ⟨⟩ (s0a C0a rfl (by exact S.old hcw) rfl ?_)
  refine lB0 rfl ⟨⟩ (fun h24 => by exfalso; exact h24 e2) (fun h24 => ?_)
  refine lO0 rfl ⟨⟩ (x0a a1a.slT rfl (by assumption) rfl (by omega) (by omega) rfl ?_)
  refine lO0 rfl ⟨⟩ (w1a x1a rfl (hck.keep (S.keep0 M) hbM) (by rfl) rfl ?_)
  refine lO0 rfl ⟨⟩ (g0a S H5b rfl rfl (H0b l[k] M _ _ (RdE.keep (S.keep0 M) _ _ hrk) e1) ?_)
  intro w30 S30 X30
  refine lO0 rfl ⟨⟩ (x0a a1a.slT rfl (by assumption) rfl (by omega) (by omega) rfl ?_)
  refine lO0 rfl ⟨⟩ (w1a x1a rfl (hck.keep (S30.keep0 M) hbM) (by rfl) rfl ?_)
  refine lO0 rfl ⟨by omega,⟨⟩⟩ (g0a S30 h3c rfl rfl (c7c l[k] _ _ M _ _ (RdE.keep (S30.keep0 M) _ _ hrk) e3) ?_)
  intro w42 S42 X42
  exact lP0 rfl ⟨by omega,⟨⟩⟩ ⟨μ - 1, by omega, rfl, k + 1, by omega, S42, rfl, rfl, rfl, rfl, rfl, rfl⟩
 refine lO0 rfl ⟨⟩ ?_
 refine B0a S I0b rfl rfl (h2c 1 1 (by unfold i64; omega) (by unfold i64; omega) [] _) ?_
 rintro v49 w49 ⟨_, rfl, r49⟩ S49 X49
 obtain ⟨_, _, _, rfl, -⟩ := r49.open_
 refine n0a S49 m7a rfl rfl ?_
 intro g9 w9 S9 X9 G9
 refine e0a (kk := 0) (vs := [_, _, _, _]) S9 V5a rfl rfl rfl rfl rfl rfl rfl ?_
 intro w10_3 S10_3 X10_3
 dsimp only [k0a, List.set] at S10_3
 refine lCn 8 S10_3.k [] rfl ⟨⟩ ?_
 have hMM : ∀ g ∈ g6 :: g9 :: M, g ∈ M ∨ w0.heap.size ≤ g := by
  intro g hg; simp at hg
  rcases hg with rfl | rfl | hg
  ·right; simpa using S10_3.new 1 rfl
  ·right; simpa using S10_3.new 0 rfl
  ·exact .inl hg
 have hL' := hL.more hMM
 obtain ⟨-, -, -, -, hks'⟩ := hL'.at
 have hM2 : ∀ g ∈ g6 :: g9 :: M, g < w10_3.heap.size := by
  intro g hg; simp at hg
  rcases hg with rfl | rfl | hg
  ·exact S10_3.lt 1 rfl
  ·exact S10_3.lt 0 rfl
  ·have := hM g hg; have := S10_3.size; omega
 obtain ⟨wq, hwq⟩ : ∃ wq, wq = w10_3 := ⟨_, rfl⟩
 refine wC0 rfl ⟨⟩ (wL (fun μ D ε w => D = [] ∧ ∃ k : Nat, ∃ co : List Value, ∃ out : E, (k + μ = l.length) ∧ (out = q6a (l.take k)) ∧ (RdE (g6 :: g9 :: M) w out co) ∧ St [] w0 w [(some g9, 53, co), (some g6, 53, [.int .i64 0, .int .i64 0, .int .i64 0, .slice none 0 0])] ∧ ε 0 = .slice A n c ∧ ε 1 = .int .i64 5 ∧ ε 2 = .int .i64 1 ∧ ε 6 = .pointer (some ⟨g6, 0, none⟩) ∧ ε 9 = .pointer (some ⟨g9, 0, none⟩) ∧ ε 10 = .bool (decide (k = 0)) ∧ ε 11 = .int .i64 ((E.cnts (l.take k) + (k - 1) : Nat) : Int) ∧ ε 12 = .int .i64 k) (μ := l.length) ⟨rfl, 0, _, ⟨1, 1, 1, []⟩, by omega, rfl, t4c r49, S10_3, rfl, rfl, rfl, rfl, rfl, rfl, rfl, rfl⟩ ?_)
 rintro μ D ε w ⟨rfl, k, co, out, hk, hout, ro, S, e0, e1, e2, e6, e9, e10, e11, e12⟩
 refine o0a 0 e0 (o0a 1 e1 (o0a 2 e2 (o0a 6 e6 (o0a 9 e9 (o0a 10 e10 (o0a 11 e11 (o0a 12 e12 ?_)))))))
 clear e0 e1 e2 e6 e9 e10 e11 e12
 obtain ⟨_, _, _, rfl, -⟩ := ro.open_
 have hle0 : E.cnts (l.take k) ≤ E.cnts l := by
  have h2 := K7a (l.take k) (l.drop k)
  rw [List.take_append_drop] at h2; omega
 refine wB0 rfl ⟨⟩ (fun h53 => ?_) fun h53 => ?_
 ·refine lB0 rfl ⟨⟩ (fun h56 => ?_) (fun h56 => by exfalso; omega)
  refine lO0 rfl ⟨⟩ ?_
  have hlt : k < l.length := by omega
  obtain ⟨b, o, hA, hbM', hkk⟩ := hks' (by omega)
  obtain ⟨ck, hck', hrk'⟩ := hkk k hlt
  obtain ⟨Ak, nk, qk, rfl, -⟩ := hrk'.open_
  obtain ⟨e1, e2, e3⟩ := hel l[k] (List.getElem_mem hlt)
  have hcn : l[k].cnt ≤ 600 := by obtain ⟨c1, c2⟩ := Y1b l k hlt; omega
  refine x0a a1a.slT rfl (by assumption) rfl (by omega) (by omega) rfl ?_
  refine w1a x1a rfl (hck'.keep (S.keep0 (g6 :: g9 :: M)) hbM') (by rfl) rfl ?_
  refine lO0 rfl ⟨⟩ (g0a S h3c rfl rfl (c7c l[k] _ _ (g6 :: g9 :: M) _ _ (RdE.keep (S.keep0 _) _ _ hrk') e3) ?_)
  intro w65 S65 X65
  replace ro := RdE.keep (X65.of_nil) _ _ ro
  refine lO0 rfl ⟨⟩ (x0a a1a.slT rfl (by assumption) rfl (by omega) (by omega) rfl ?_)
  refine w1a x1a rfl (hck'.keep (S65.keep0 (g6 :: g9 :: M)) hbM') (by rfl) rfl ?_
  refine g0a S65 Z5b rfl rfl (s1c l[k] (g6 :: g9 :: M) _ _ (RdE.keep (S65.keep0 _) _ _ hrk') hcn) ?_
  intro w71 S71 X71
  replace ro := RdE.keep (X71.of_nil) _ _ ro
  refine lOn 6 S71.k [] rfl ⟨by omega,⟨⟩⟩ ?_
  cases hb73 : decide (k = 0)
  ·refine m1a (v := .bool _) rfl rfl ?_
   refine lC0 rfl ⟨⟩ (D0a b0a [0, 1, 2, 3, 4, 5] [] [6, 7] (by kernel_rfl) rfl (Cl _ _ _ _) (Cl.start S71) ?_)
   refine qO S71.q [.w 0] rfl ⟨⟨rfl,by rfl⟩,⟨⟩⟩ (m0a a1a.slT rfl (by assumption) rfl (by omega) (by omega) rfl ?_)
   refine I1a x1a rfl (fun w1 hw => hck'.keep (hw.1.keep0 (g6 :: g9 :: M)) hbM') (by rfl) rfl ?_
   refine qD rfl ⟨⟩ ?_
   rintro wR21 ⟨SR21, XR21⟩
   replace ro := RdE.keep (XR21.of_nil) _ _ ro
   refine B0a SR21 z7c rfl rfl (T7c 5 1 (by unfold i64; omega) (by unfold i64; omega) out l[k] _ _ (g6 :: g9 :: M) _ (fun g hg => by simp at hg; rcases hg with rfl | rfl | hg; exact SR21.lt 1 rfl; exact SR21.lt 0 rfl; have := hM g hg; have := SR21.size; omega) ro (RdE.keep (SR21.keep0 _) _ _ hrk')) ?_
   rintro v84 w84 ⟨_, rfl, r84⟩ S84 X84
   replace ro := RdE.keep (X84.of_nil) _ _ ro
   obtain ⟨_, _, _, rfl, -⟩ := r84.open_
   refine e0a (kk := 0) (vs := [_, _, _, _]) S84 V5a rfl rfl rfl rfl rfl rfl rfl ?_
   intro w21_7 S21_7 X21_7
   dsimp only [k0a, List.set] at S21_7
   replace ro := RdE.keep (X21_7.mono (by simp)) _ _ ro
   replace r84 := RdE.keep (X21_7.mono (by simp)) _ _ r84
   refine lP0 rfl ⟨by omega,by omega,⟨⟩⟩ ?_
   have hs := a9a l k hlt
   have ct := Y1b l k hlt
   have hk0 : ¬ k = 0 := of_decide_eq_false hb73
   rw [if_neg hk0] at hs
   exact ⟨μ - 1, by omega, rfl, k + 1, _, x9c out l[k], by omega, by rw [hs, hout], r84, S21_7, rfl, rfl, rfl, rfl, rfl, congrArg Value.bool (by simp), congrArg (Value.int .i64) (by omega), rfl⟩
  refine m1a (v := .bool _) rfl rfl ?_
  refine lO0 rfl ⟨⟩ (x0a a1a.slT rfl (by assumption) rfl (by omega) (by omega) rfl ?_)
  refine w1a x1a rfl (hck'.keep (S71.keep0 (g6 :: g9 :: M)) hbM') (by rfl) rfl ?_
  refine e0a (kk := 0) (vs := [_, _, _, _]) S71 V5a rfl rfl rfl rfl rfl rfl rfl ?_
  intro w19_4 S19_4 X19_4
  dsimp only [k0a, List.set] at S19_4
  replace ro := RdE.keep (X19_4.mono (by simp)) _ _ ro
  refine lP0 rfl ⟨by omega,⟨⟩⟩ ?_
  have hs := a9a l k hlt
  have ct := Y1b l k hlt
  have hk0 : k = 0 := of_decide_eq_true hb73
  rw [if_pos hk0] at hs
  exact ⟨μ - 1, by omega, rfl, k + 1, _, l[k], by omega, hs.symm, RdE.keep (S19_4.keep0 _) _ _ hrk', S19_4, rfl, rfl, rfl, rfl, rfl, congrArg Value.bool (by simp), congrArg (Value.int .i64) (by omega), rfl⟩
 have htk : l.take k = l := List.take_of_length_le (by omega)
 rw [htk] at hout
 refine lB0 rfl ⟨⟩ (fun h88 => by exfalso; omega) fun h88 => ?_
 refine lO S.k [.w 0] rfl ⟨⟨rfl,by rfl⟩,⟨⟩⟩ ?_
 refine g0a S H5b rfl rfl (H0b out (g6 :: g9 :: M) _ _ ro (by rw [hout]; exact hfin)) ?_
 intro w91 S91 X91
 replace ro := RdE.keep (X91.of_nil) _ _ ro
 refine lO S91.k [.w 0] rfl ⟨⟨rfl,by rfl⟩,⟨⟩⟩ (e0a (kk := 1) (vs := [_, _, _, _]) S91 V5a rfl rfl rfl rfl rfl rfl rfl ?_)
 intro w25_1 S25_1 X25_1
 dsimp only [k0a, List.set] at S25_1
 replace ro := RdE.keep (X25_1.mono (by simp)) _ _ ro
 refine lR0 rfl ⟨⟩ (r1a rfl x1a rfl (S25_1.cells 1 rfl) rfl ⟨⟨_, rfl, ?_⟩, S25_1.nil.fin⟩)
 rw [← hout]; exact RdE.more (fun g hg => .inl (by simp [hg])) _ _ ro
theorem I2c (l : List E) (M : List Nat) (w0 : World) (vl : Value) (hL : RdL M w0 vl l) (hM : ∀ g ∈ M, g < w0.heap.size) (hel : ∀ e ∈ l, e.wf = true ∧ e.w = 1 ∧ e.op ≠ 1) (hsz : E.cnts l + l.length ≤ 600) (hfin : (q6a l).wf = true) :
 M0a Tryz.prog 47 #[vl] w0 fun v w' => (∃ cs : List Value, v = .agg cs.toArray ∧ RdE M w' (q6a l) cs) ∧ Below w0.heap.size w0 w' := by
 obtain ⟨_, _, _, rfl, -⟩ := hL.open_
 have S := St.refl w0
 refine a0a Tryz.func47 rfl Tryz.ntmps47 rfl ?_
 refine wO0 rfl ⟨⟩ (n0a S m7a rfl rfl ?_)
 intro g2 w2 S2 X2 G2
 refine lO0 rfl ⟨⟩ ?_
 have hM' : ∀ g ∈ g2 :: M, g ∈ M ∨ w0.heap.size ≤ g := by
  intro g hg; rcases List.mem_cons.1 hg with rfl | hg
  ·exact .inr G2
  ·exact .inl hg
 refine B0a S2 j8c rfl rfl (M7b l (g2 :: M) _ _ ((hL.more hM').keep (S2.keep0 _)) (fun g hg => by rcases List.mem_cons.1 hg with rfl | hg; exact S2.lt 0 rfl; have := hM g hg; have := S2.size; omega) hel hsz hfin) ?_
 rintro v4 w4 ⟨_, rfl, r4⟩ S4 X4
 obtain ⟨_, _, _, rfl, -⟩ := r4.open_
 first | refine e0a (kk := 0) (vs := [_, _, _, _]) S4 V5a rfl rfl rfl rfl rfl rfl rfl ?_
 intro w1_2 S1_2 X1_2
 dsimp only [k0a, List.set] at S1_2
 replace r4 := RdE.keep (X1_2.mono (by simp)) _ _ r4
 exact lR0 rfl ⟨⟩ (r1a rfl x1a rfl (S1_2.cells 0 rfl) rfl ⟨⟨_, rfl, RdE.more (fun g hg => .inl (by simp [hg])) _ _ r4⟩, S1_2.nil.fin⟩)
instance : DecidableEq u2a := fun a b => if h : a.conf = b.conf ∧ a.frm = b.frm ∧ a.ch = b.ch then isTrue (by cases a; cases b; simp_all) else isFalse (fun e => h (by subst e; exact ⟨rfl, rfl, rfl⟩))
def p3a : E := ⟨1, 1, 1, []⟩
def O9b (n : Int) : E := ⟨2, 1, n, []⟩
def y4b (n : Int) : E := ⟨4, 1, 0, [O9b n]⟩
def G3b (nm : ByteArray) (mine other loc : Int) : Q0a := ⟨nm, 3, [p3a, p3a, p3a], [0, 0, 0], [⟨3, 0, 1, p3a, [⟨mine, p3a⟩], false, 0, 0⟩, ⟨2, 1, 2, p3a, [⟨loc, O9b other⟩], false, 0, 0⟩], [], false⟩
def J1a : f0a :=
 ⟨[⟨⟨#[77, 46, 120]⟩, 1, 0, -1, false, 0⟩, ⟨⟨#[77, 46, 121]⟩, 1, 0, -1, false, 0⟩, ⟨⟨#[97, 46, 114]⟩, 1, 1, 0, false, 0⟩, ⟨⟨#[98, 46, 115]⟩, 1, 1, 1, false, 0⟩],
  [⟨⟨#[77]⟩, ⟨#[65, 110, 110]⟩, p3a, p3a, [0, 1]⟩], [], [G3b ⟨#[97]⟩ 0 1 2, G3b ⟨#[98]⟩ 1 0 3]⟩
theorem h3a : b1a J1a := U1c (by kernel_rfl)
def D7c : E := q6a [y4b 2, y4b 3, O9b 0, O9b 1]
def M1b : M3a := ⟨1, 2, D7c⟩
def h7b : M3a := ⟨-1, 0, D7c⟩
def X8a (t : Int) : M3a := ⟨t, 0, p3a⟩
def x8a : List u2a := [⟨⟨[0,0,1,1],[0,0],[[],[]]⟩,-1,⟨0,0,0⟩⟩,
⟨⟨[1,0,1,1],[1,0],[[],[]]⟩,0,⟨0,0,0⟩⟩,
⟨⟨[0,1,1,1],[0,1],[[],[]]⟩,0,⟨1,0,0⟩⟩,
⟨⟨[1,0,0,1],[2,0],[[],[]]⟩,1,⟨0,1,0⟩⟩,
⟨⟨[1,1,1,1],[1,1],[[],[]]⟩,1,⟨1,0,0⟩⟩,
⟨⟨[0,1,1,0],[0,2],[[],[]]⟩,2,⟨1,1,0⟩⟩,
⟨⟨[1,1,0,1],[2,1],[[],[]]⟩,3,⟨1,0,0⟩⟩,
⟨⟨[1,1,1,1],[2,1],[[],[]]⟩,4,⟨0,1,0⟩⟩,
⟨⟨[1,1,1,1],[1,2],[[],[]]⟩,4,⟨1,1,0⟩⟩,
⟨⟨[1,1,1,0],[1,2],[[],[]]⟩,5,⟨0,0,0⟩⟩,
⟨⟨[1,1,0,1],[2,2],[[],[]]⟩,6,⟨1,1,0⟩⟩,
⟨⟨[1,1,1,1],[2,2],[[],[]]⟩,7,⟨1,1,0⟩⟩,
⟨⟨[1,1,1,0],[2,2],[[],[]]⟩,9,⟨0,1,0⟩⟩]
def B8a : List u2a := [⟨⟨[0,0,1,1],[0,0],[[],[]]⟩,-1,⟨0,0,0⟩⟩,
⟨⟨[0,0,1,1],[1,0],[[⟨[0],[1]⟩],[]]⟩,0,⟨0,0,0⟩⟩,
⟨⟨[0,0,1,1],[0,1],[[],[⟨[1],[1]⟩]]⟩,0,⟨1,0,0⟩⟩,
⟨⟨[0,0,0,1],[2,0],[[⟨[0],[1]⟩],[]]⟩,1,⟨0,1,0⟩⟩,
⟨⟨[1,0,1,1],[1,0],[[],[]]⟩,1,⟨0,-1,0⟩⟩,
⟨⟨[0,0,1,1],[1,1],[[⟨[0],[1]⟩],[⟨[1],[1]⟩]]⟩,1,⟨1,0,0⟩⟩,
⟨⟨[0,0,1,0],[0,2],[[],[⟨[1],[1]⟩]]⟩,2,⟨1,1,0⟩⟩,
⟨⟨[0,1,1,1],[0,1],[[],[]]⟩,2,⟨1,-1,1⟩⟩,
⟨⟨[1,0,0,1],[2,0],[[],[]]⟩,3,⟨0,-1,0⟩⟩,
⟨⟨[0,0,0,1],[2,1],[[⟨[0],[1]⟩],[⟨[1],[1]⟩]]⟩,3,⟨1,0,0⟩⟩,
⟨⟨[1,0,1,1],[1,1],[[],[⟨[1],[1]⟩]]⟩,4,⟨1,0,0⟩⟩,
⟨⟨[0,0,1,0],[1,2],[[⟨[0],[1]⟩],[⟨[1],[1]⟩]]⟩,5,⟨1,1,0⟩⟩,
⟨⟨[0,1,1,1],[1,1],[[⟨[0],[1]⟩],[]]⟩,5,⟨1,-1,1⟩⟩,
⟨⟨[0,1,1,0],[0,2],[[],[]]⟩,6,⟨1,-1,1⟩⟩,
⟨⟨[1,0,0,1],[2,1],[[],[⟨[1],[1]⟩]]⟩,8,⟨1,0,0⟩⟩,
⟨⟨[0,0,0,0],[2,2],[[⟨[0],[1]⟩],[⟨[1],[1]⟩]]⟩,9,⟨1,1,0⟩⟩,
⟨⟨[0,1,0,1],[2,1],[[⟨[0],[1]⟩],[]]⟩,9,⟨1,-1,1⟩⟩,
⟨⟨[1,0,1,1],[1,2],[[],[⟨[1],[1]⟩]]⟩,10,⟨1,1,0⟩⟩,
⟨⟨[1,1,1,1],[1,1],[[],[]]⟩,10,⟨1,-1,1⟩⟩,
⟨⟨[1,0,1,0],[1,2],[[],[⟨[1],[1]⟩]]⟩,11,⟨0,-1,0⟩⟩,
⟨⟨[0,1,1,0],[1,2],[[⟨[0],[1]⟩],[]]⟩,11,⟨1,-1,1⟩⟩,
⟨⟨[0,1,1,1],[2,1],[[⟨[0],[1]⟩],[]]⟩,12,⟨0,1,0⟩⟩,
⟨⟨[1,0,0,1],[2,2],[[],[⟨[1],[1]⟩]]⟩,14,⟨1,1,0⟩⟩,
⟨⟨[1,1,0,1],[2,1],[[],[]]⟩,14,⟨1,-1,1⟩⟩,
⟨⟨[1,0,0,0],[2,2],[[],[⟨[1],[1]⟩]]⟩,15,⟨0,-1,0⟩⟩,
⟨⟨[0,1,0,0],[2,2],[[⟨[0],[1]⟩],[]]⟩,15,⟨1,-1,1⟩⟩,
⟨⟨[1,1,1,1],[1,2],[[],[]]⟩,17,⟨1,-1,1⟩⟩,
⟨⟨[1,1,1,1],[2,1],[[],[]]⟩,18,⟨0,1,0⟩⟩,
⟨⟨[1,1,1,0],[1,2],[[],[]]⟩,19,⟨1,-1,1⟩⟩,
⟨⟨[0,1,1,0],[2,2],[[⟨[0],[1]⟩],[]]⟩,20,⟨0,1,0⟩⟩,
⟨⟨[1,1,0,1],[2,2],[[],[]]⟩,22,⟨1,-1,1⟩⟩,
⟨⟨[1,1,0,0],[2,2],[[],[]]⟩,24,⟨1,-1,1⟩⟩,
⟨⟨[1,1,1,1],[2,2],[[],[]]⟩,26,⟨0,1,0⟩⟩,
⟨⟨[1,1,1,0],[2,2],[[],[]]⟩,28,⟨0,1,0⟩⟩]
def O8c (p : f0a) (m : Int) (W : List u2a) : Nat → Nat → Nat → Bool
 | 0, n, k => decide (n = k) && decide (k = W.length)
 | f + 1, n, k => match W[n]? with
   | some v => decide (n < k) && (decide (m0b p m n v.conf (W.take k) (H0a p m v.conf) = W.take (m0b p m n v.conf (W.take k) (H0a p m v.conf)).length) && O8c p m W f (n + 1) (m0b p m n v.conf (W.take k) (H0a p m v.conf)).length)
   | none => false
theorem X4b {p : f0a} {m : Int} {W : List u2a} : ∀ (f n k : Nat), P2a p m n = W.take k → O8c p m W f n k = true → P2a p m (n + f) = W ∧ n + f = W.length
 | 0, n, k, hb, h => by
   simp only [O8c, Bool.and_eq_true, decide_eq_true_eq] at h
   obtain ⟨rfl, rfl⟩ := h
   exact ⟨by rw [Nat.add_zero, hb, List.take_length], by omega⟩
 | f + 1, n, k, hb, h => by
   rw [O8c] at h
   rcases hv : W[n]? with _ | v
   ·rw [hv] at h; cases h
   ·rw [hv] at h
    simp only [Bool.and_eq_true, decide_eq_true_eq] at h
    obtain ⟨h1, h2, h3⟩ := h
    have hn : (P2a p m n)[n]? = some v := by rw [hb, List.getElem?_take, if_pos h1, hv]
    obtain ⟨q1, q2⟩ := X4b f (n + 1) _ (by rw [j3b hn, hb]; exact h2) h3
    rw [show n + (f + 1) = n + 1 + f by omega]
    exact ⟨q1, q2⟩
theorem R7a : P2a J1a 0 13 = x8a := (X4b 13 0 1 (by decide +kernel) (by kernel_rfl)).1
theorem N7a : P2a J1a 1 34 = B8a := (X4b 34 0 1 (by decide +kernel) (by kernel_rfl)).1
theorem Q7a {p : f0a} {m : Int} {n limit : Nat} {W : List u2a} {l : List q0a} {err : Int} (hW : P2a p m n = W) (hn : W.length ≤ n) (h : o6a p m limit l err) : (W.length ≤ limit → err = 0 ∧ l = Y1a W) ∧ (limit < W.length → err = 2 ∧ l = []) := by
 subst hW
 rcases h with ⟨rfl, k, h1, h2, rfl⟩ | ⟨rfl, rfl, V, hV, hl⟩
 ·rw [E9b h1 hn] at h2 ⊢
  exact ⟨fun _ => ⟨rfl, rfl⟩, fun h => by omega⟩
 ·have := (hV.done hn).length_le
  exact ⟨fun h => by omega, fun _ => ⟨rfl, rfl⟩⟩
theorem B7b {p : f0a} {m : Int} {aim : Bool} {acc : q0a → Bool} {n limit : Nat} {W : List u2a} {v : List A0a} {h : Int} (hW : P2a p m n = W) (hn : W.length ≤ n) (hl : W.length ≤ limit) (ha : aim = true) (hno : ∀ y ∈ W, acc y.conf = false) (hf : b4c p m aim acc limit v h) : h = 4 := by
 subst hW
 rcases hf with ⟨h1, _⟩ | ⟨k, V, q1, q2, q3, q4, ⟨y, q5, q6⟩, _⟩ | ⟨_, _, _, V, q1, q2, _⟩ | ⟨_, h1, _⟩
 ·rw [ha] at h1; cases h1
 ·have := hno y (List.mem_of_getElem? (x6a (q1.done hn) q5))
  rw [q6] at this; cases this
 ·have := (q1.done hn).length_le; omega
 ·exact h1
theorem S0b {p : f0a} {m : Int} {aim : Bool} {acc : q0a → Bool} {n limit k : Nat} {W : List u2a} {v : List A0a} {h : Int} {y : u2a} (hW : P2a p m n = W) (hk : k < limit) (ha : aim = true) (hno : (W.take k).all (fun y => !acc y.conf) = true) (hy : W[k]? = some y) (hacc : acc y.conf = true) (hf : b4c p m aim acc limit v h) :
 (t4a (W.take (k + 1)) (k + 1) k).length ≤ 120 → h = 0 ∧ v = (t4a (W.take (k + 1)) (k + 1) k).reverse := by
 have hV : E3a p m W := ⟨n, by rw [hW]; exact List.prefix_refl _⟩
 have hkl := (List.getElem?_eq_some_iff.1 hy).1
 have hno2 : ∀ j x, j < k → W[j]? = some x → acc x.conf = false := fun j x hj hx => by
  have := List.all_eq_true.1 hno x (List.mem_of_getElem? (by rw [List.getElem?_take, if_pos hj]; exact hx))
  simpa using this
 intro hp
 rcases hf with ⟨h1, _⟩ | ⟨k', V, q1, q2, q3, q4, ⟨x, q5, q6⟩, _, q7⟩ | ⟨_, _, _, V, q1, q2, q3⟩ | ⟨_, _, _, j, q1, q2, q3⟩
 ·rw [ha] at h1; cases h1
 ·have hk' : k' = k := by
   rcases Nat.lt_trichotomy k' k with hlt | he | hlt
   ·have h1 := hno2 k' x hlt (x6a (q1.cmp hV (by omega)) q5)
    rw [q6] at h1; cases h1
   ·exact he
   ·have hVl : V.length ≤ W.length ∨ W.length ≤ V.length := by omega
    have h1 : V[k]? = some y := by
     rcases hVl with h | h
     ·obtain ⟨t, rfl⟩ := q1.cmp hV h
      rwa [List.getElem?_append_left (by omega)] at hy
     ·exact x6a (hV.cmp q1 h) hy
    have h2 := q4 k y hlt h1
    rw [hacc] at h2; cases h2
  subst hk'
  have hVW : V = W.take (k' + 1) := by
   have := q1.cmp hV (by omega)
   rw [List.prefix_iff_eq_take.1 this, q2]
  subst hVW
  rcases q7 with ⟨q8, _⟩ | ⟨_, h1, h2⟩
  ·omega
  ·exact ⟨h1, h2⟩
 ·have hVl : V.length ≤ W.length ∨ W.length ≤ V.length := by omega
  have h1 : V[k]? = some y := by
   rcases hVl with h | h
   ·obtain ⟨t, rfl⟩ := q1.cmp hV h
    rwa [List.getElem?_append_left (by omega)] at hy
   ·exact x6a (hV.cmp q1 h) hy
  have h2 := q3 k y hk h1
  rw [hacc] at h2; cases h2
 ·have h2 := q3 y (List.mem_of_getElem? (x6a (hV.done q1) hy))
  rw [hacc] at h2; cases h2
theorem E2c : x8a.all (fun y => !x2a y.conf M1b) = true := by kernel_rfl
theorem V1c : (B8a.take 31).all (fun y => !x2a y.conf h7b) = true := by kernel_rfl
theorem V0c : x2a ⟨[1, 1, 0, 0], [2, 2], [[], []]⟩ h7b = true := by kernel_rfl
theorem d6b : (t4a (B8a.take 32) 32 31).length = 6 := by kernel_rfl
theorem J5b : (t4a (x8a.take 1) 1 0).length = 0 := by kernel_rfl
theorem L1c : x2a (X0a J1a) (X8a (-1)) = true := by kernel_rfl
theorem K3c : b5a J1a M1b = true := by kernel_rfl
theorem u5c : b5a J1a h7b = true := by kernel_rfl
theorem b6c : b5a J1a (X8a (-1)) = true := by kernel_rfl
theorem y4c : b5a J1a (X8a 2) = false := by kernel_rfl
theorem C1c : (b5a J1a (X8a 1) && x2a (X0a J1a) (X8a 1)) = true := by kernel_rfl
theorem E1c : (b5a J1a M1b && x2a (X0a J1a) M1b) = false := by kernel_rfl
def n8c (p : f0a) (m : Int) (c : q0a) : List A0a → List q0a
 | [] => []
 | x :: l => if x ∈ H0a p m c then doC p m c x :: n8c p m (doC p m c x) l else []
def H8c (p : f0a) (m : Int) (run : List A0a) : List q0a := X0a p :: n8c p m (X0a p) run
end Go.Fw
