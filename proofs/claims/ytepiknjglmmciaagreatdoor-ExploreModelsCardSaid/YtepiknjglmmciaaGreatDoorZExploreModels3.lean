/-
  Part 3 of 8 of the proof of ExploreModels: what it leans on. No conditions.
-/
import Derived.Test.YtepiknjglmmciaaGreatDoorZExploreModels2
import Derived.StringKeys
import Derived.Test.YtepiknjglmmciaaGreatDoorRows
import Derived.ProofKit
import Derived.LaidMore
import Derived.OpenShut
import Derived.Carry
import Derived.SizedLaws
import Derived.Stop.Joined
import Derived.Test.YtepiknjglmmciaaGreatDoorTie
import Derived.Test.YtepiknjglmmciaaGreatDoorCards
import Derived.SevenTiedAt
set_option maxRecDepth 100000
set_option maxHeartbeats 4000000
namespace Go.Proofs.YtepiknjglmmciaaGreatDoor
end Go.Proofs.YtepiknjglmmciaaGreatDoor
namespace Go.Fw
open Go.Proofs.YtepiknjglmmciaaGreatDoor Go.Proofs Go.RowKit Go.ChangeShapes Go.WideShapes
def W2a (op a b c : Int) : Int :=
 if op = 4 then E6c (-1) a else if op = 5 then e4b a b else if op = 6 then bor a b else if op = 7 then E6c a b else if op = 9 then wr (a + wr (0 - b)) else if op = 8 then wr (a + b) else
 if op = 10 then wr (a * b) else if op = 11 then (if a = b then 1 else 0) else if op = 13 then (if a = b then 1 else if a < b then 1 else 0) else if op = 12 then (if a < b then 1 else 0) else
 if op = 14 then (if a = 1 then b else c) else 0
mutual
def E.val (old now : List Int) : E → Int
 | ⟨op, w, n, ks⟩ => if op = 1 then n else if op = 2 then e4b (now.getD n.toNat 0) (N4a w.toNat - 1) else if op = 3 then e4b (old.getD n.toNat 0) (N4a w.toNat - 1) else
  e4b (W2a op ((E.vals old now ks).getD 0 0) ((E.vals old now ks).getD 1 0) ((E.vals old now ks).getD 2 0)) (N4a w.toNat - 1)
def E.vals (old now : List Int) : List E → List Int
 | [] => []
 | k :: ks => E.val old now k :: E.vals old now ks
end
theorem E.vals_map (old a0 : List Int) (ks : List E) : E.vals old a0 ks = ks.map (E.val old a0) := by
 induction ks with
 | nil => simp [E.vals]
 | cons k ks ih => simp [E.vals, ih]
theorem E.val_def (old a0 : List Int) (e : E) : e.val old a0 = if e.op = 1 then e.n else if e.op = 2 then e4b (a0.getD e.n.toNat 0) (N4a e.w.toNat - 1) else if e.op = 3 then e4b (old.getD e.n.toNat 0) (N4a e.w.toNat - 1) else
 e4b (W2a e.op ((e.kids.map (E.val old a0)).getD 0 0) ((e.kids.map (E.val old a0)).getD 1 0) ((e.kids.map (E.val old a0)).getD 2 0)) (N4a e.w.toNat - 1) := by
 cases e; simp only [E.val, E.vals_map]
def E.evl (old now : List Int) (e : E) : Int := if e.wf then e.val old now else 0
def p8c (vs : List Int) (k : Nat) : List Value := [.int .i64 ((vs.take k).getD 0 0), .int .i64 ((vs.take k).getD 1 0), .int .i64 ((vs.take k).getD 2 0)]
@[simp] theorem L8c (vs : List Int) (k : Nat) : (p8c vs k).length = 3 := rfl
theorem T0c (vs : List Int) (k : Nat) (h3 : vs.length ≤ 3) (h : k < vs.length) : (p8c vs k).set k (.int .i64 (vs.getD k 0)) = p8c vs (k + 1) := by
 unfold p8c
 match vs, h3 with
 | [], _ => simp at h
 | [a], _ => obtain rfl : k = 0 := by simp at h; omega
             simp
 | [a, b], _ => rcases (show k = 0 ∨ k = 1 by simp at h; omega) with rfl | rfl <;> simp
 | [a, b, c], _ => rcases (show k = 0 ∨ k = 1 ∨ k = 2 by simp at h; omega) with rfl | rfl | rfl <;> simp
 | a :: b :: c :: d :: l, h => simp at h
theorem J0b (M : List Nat) (w0 : World) (v : Value) (l : List Int) (i : Int) (hR : RdI M w0 v l) (h0 : 0 ≤ i) :
 M0a Tryz.prog 116 #[v, .int .i64 i] w0 fun v w' => v = .int .i64 (l.getD i.toNat 0) ∧ Below w0.heap.size w0 w' := by
 obtain ⟨_, _, _, rfl⟩ := hR.form;obtain ⟨_, _, _, _, g0⟩ := hR.at;have S := St.refl w0;refine a0a Tryz.func116 rfl Tryz.ntmps116 rfl ?_;refine wB0 rfl ⟨⟩ (fun h8 => ?_) fun h8 => ?_
 ·refine lO0 rfl ⟨⟩ ?_;obtain ⟨b, o, _, _, f0⟩ := g0 (by omega);have d0 : i.toNat < l.length := by omega
  obtain ⟨_, _, a0, b0⟩ := f0 i.toNat l[i.toNat] (List.getElem?_eq_getElem d0);have e0 : w0.cell? ⟨b, o + i.toNat * 1, none⟩ = some (.int .i64 l[i.toNat]) := a0 0 _ (by rw [b0.1]; rfl);refine x0a Y0a.slT rfl (by assumption) rfl (by omega) (by omega) rfl ?_;refine s0a C0a rfl (by first | exact S.old e0) rfl ?_;refine lR0 rfl ⟨⟩ (q0a rfl (by conv => lhs; whnf) ?_);refine ⟨?_, S.fin⟩; simp [d0]; done
 refine lR0 rfl ⟨⟩ (q0a rfl (by conv => lhs; whnf) ?_);refine ⟨?_, S.fin⟩; simp [show l.length ≤ i.toNat by omega]; done
theorem d6a (z : Bool) (w0 : World) : M0a Tryz.prog 150 #[.bool z] w0 fun v w' => v = .int .i64 (if z = true then 1 else 0) ∧ Below w0.heap.size w0 w' := by
 have S := St.refl w0;cases z
 ·refine a0a Tryz.func150 rfl Tryz.ntmps150 rfl ?_;refine wR0 rfl ⟨⟩ (q0a rfl (by conv => lhs; whnf) ?_);exact ⟨by simp, S.fin⟩
 ·refine a0a Tryz.func150 rfl Tryz.ntmps150 rfl ?_;refine wR0 rfl ⟨⟩ (q0a rfl (by conv => lhs; whnf) ?_);exact ⟨by simp, S.fin⟩
theorem a1c (op a b c : Int) (w0 : World) : M0a Tryz.prog 117 #[.int .i64 op, .agg #[.int .i64 a, .int .i64 b, .int .i64 c]] w0 fun v w' => v = .int .i64 (W2a op a b c) ∧ Below w0.heap.size w0 w' := by
 have S := St.refl w0;refine a0a Tryz.func117 rfl Tryz.ntmps117 rfl ?_;refine wO0 rfl ⟨⟩ (j0a S (by conv => lhs; whnf) rfl ?_);intro g3 w3 S3 X3 G3;refine lC0 rfl ⟨⟩ (D0a b0a [0, 1, 2, 3, 4, 5] [] [] (by kernel_rfl) rfl (Cl _ _ _ _) (Cl.start S3) ?_);refine V3a Z0b rfl rfl (by omega) (by omega) rfl ?_;refine h0a C0a rfl (fun w1 hw => by first | exact hw.1.cell 0 rfl rfl) rfl ?_;refine V3a Z0b rfl rfl (by omega) (by omega) rfl ?_;refine h0a C0a rfl (fun w1 hw => by first | exact hw.1.cell 0 rfl rfl) rfl ?_;refine qD rfl ⟨⟩ ?_;rintro B0 ⟨a0, _⟩;refine lB0 rfl ⟨⟩ (fun b0 => ?_) fun b0 => ?_
 ·refine lT rfl ⟨⟩ rfl ⟨congrArg (Value.int .i64) ?_, a0.fin⟩;unfold W2a;rw [if_pos b0]
 refine lB0 rfl ⟨⟩ (fun d0 => ?_) fun d0 => ?_
 ·refine lT rfl ⟨⟩ rfl ⟨congrArg (Value.int .i64) ?_, a0.fin⟩;unfold W2a;rw [if_neg b0, if_pos d0]
 refine lB0 rfl ⟨⟩ (fun e0 => ?_) fun e0 => ?_
 ·refine lT rfl ⟨⟩ rfl ⟨congrArg (Value.int .i64) ?_, a0.fin⟩;unfold W2a;rw [if_neg b0, if_neg d0, if_pos e0]
 refine lB0 rfl ⟨⟩ (fun f0 => ?_) fun f0 => ?_
 ·refine lT rfl ⟨⟩ rfl ⟨congrArg (Value.int .i64) ?_, a0.fin⟩;unfold W2a;rw [if_neg b0, if_neg d0, if_neg e0, if_pos f0]
 refine lB0 rfl ⟨⟩ (fun g0 => ?_) fun g0 => ?_
 ·refine lOn 8 a0.k [] rfl ⟨⟩ (n7c rfl rfl ?_);refine lOn 9 a0.k [] rfl ⟨⟩ (G3c rfl rfl rfl ?_);refine lT rfl ⟨⟩ rfl ⟨congrArg (Value.int .i64) ?_, a0.fin⟩;unfold W2a;rw [if_neg b0, if_neg d0, if_neg e0, if_neg f0, if_pos g0]
 refine lB0 rfl ⟨⟩ (fun h0 => ?_) fun h0 => ?_
 ·refine lOn 11 a0.k [] rfl ⟨⟩ (G3c rfl rfl rfl ?_);refine lT rfl ⟨⟩ rfl ⟨congrArg (Value.int .i64) ?_, a0.fin⟩;unfold W2a;rw [if_neg b0, if_neg d0, if_neg e0, if_neg f0, if_neg g0, if_pos h0]
 refine lB0 rfl ⟨⟩ (fun i0 => ?_) fun i0 => ?_
 ·refine lOn 11 a0.k [] rfl ⟨⟩ (j7c rfl rfl rfl ?_);refine lT rfl ⟨⟩ rfl ⟨congrArg (Value.int .i64) ?_, a0.fin⟩;unfold W2a;rw [if_neg b0, if_neg d0, if_neg e0, if_neg f0, if_neg g0, if_neg h0, if_pos i0]
 refine lB0 rfl ⟨⟩ (fun j0 => ?_) fun j0 => ?_
 ·refine lB0 rfl ⟨⟩ (fun v0 => ?_) fun v0 => ?_
  ·refine g0a a0 I7a rfl rfl (d6a _ _) ?_;intro A0 t0 z0;refine lT rfl ⟨⟩ rfl ⟨congrArg (Value.int .i64) ?_, t0.fin⟩;unfold W2a;rw [if_neg b0, if_neg d0, if_neg e0, if_neg f0, if_neg g0, if_neg h0, if_neg i0, if_pos j0]; simp [v0]; done
  refine g0a a0 I7a rfl rfl (d6a _ _) ?_;intro A0 t0 z0;refine lT rfl ⟨⟩ rfl ⟨congrArg (Value.int .i64) ?_, t0.fin⟩;unfold W2a;rw [if_neg b0, if_neg d0, if_neg e0, if_neg f0, if_neg g0, if_neg h0, if_neg i0, if_pos j0]; simp [v0]; done
 refine lB0 rfl ⟨⟩ (fun n0 => ?_) fun n0 => ?_
 ·refine lB0 rfl ⟨⟩ (fun s0 => ?_) fun s0 => ?_
  ·refine lT rfl ⟨⟩ rfl ⟨congrArg (Value.int .i64) ?_, a0.fin⟩;unfold W2a;rw [if_neg b0, if_neg d0, if_neg e0, if_neg f0, if_neg g0, if_neg h0, if_neg i0, if_neg j0, if_pos n0]; (simp [s0]; done)
  refine lB0 rfl ⟨⟩ (fun p0 => ?_) fun p0 => ?_
  ·refine g0a a0 I7a rfl rfl (d6a _ _) ?_;intro y0 o0 u0;refine lT rfl ⟨⟩ rfl ⟨congrArg (Value.int .i64) ?_, o0.fin⟩;unfold W2a;rw [if_neg b0, if_neg d0, if_neg e0, if_neg f0, if_neg g0, if_neg h0, if_neg i0, if_neg j0, if_pos n0]; (simp [s0, p0]; done)
  refine g0a a0 I7a rfl rfl (d6a _ _) ?_;intro y0 o0 u0;refine lT rfl ⟨⟩ rfl ⟨congrArg (Value.int .i64) ?_, o0.fin⟩;unfold W2a;rw [if_neg b0, if_neg d0, if_neg e0, if_neg f0, if_neg g0, if_neg h0, if_neg i0, if_neg j0, if_pos n0]; (simp [s0, p0]; done)
 refine lB0 rfl ⟨⟩ (fun q0 => ?_) fun q0 => ?_
 ·refine lB0 rfl ⟨⟩ (fun p0 => ?_) fun p0 => ?_
  ·refine g0a a0 I7a rfl rfl (d6a _ _) ?_;intro y0 o0 u0;refine lT rfl ⟨⟩ rfl ⟨congrArg (Value.int .i64) ?_, o0.fin⟩;unfold W2a;rw [if_neg b0, if_neg d0, if_neg e0, if_neg f0, if_neg g0, if_neg h0, if_neg i0, if_neg j0, if_neg n0, if_pos q0]; (simp [p0]; done)
  refine g0a a0 I7a rfl rfl (d6a _ _) ?_;intro y0 o0 u0;refine lT rfl ⟨⟩ rfl ⟨congrArg (Value.int .i64) ?_, o0.fin⟩;unfold W2a;rw [if_neg b0, if_neg d0, if_neg e0, if_neg f0, if_neg g0, if_neg h0, if_neg i0, if_neg j0, if_neg n0, if_pos q0]; (simp [p0]; done)
 refine lB0 rfl ⟨⟩ (fun r0 => ?_) fun r0 => ?_
 ·refine lB0 rfl ⟨⟩ (fun x0 => ?_) fun x0 => ?_
  ·refine lT rfl ⟨⟩ rfl ⟨congrArg (Value.int .i64) ?_, a0.fin⟩;unfold W2a;rw [if_neg b0, if_neg d0, if_neg e0, if_neg f0, if_neg g0, if_neg h0, if_neg i0, if_neg j0, if_neg n0, if_neg q0, if_pos r0]; simp [x0]; done
  refine lO0 rfl ⟨⟩ (g6a Z0b rfl rfl (by omega) (by omega) rfl ?_);refine s0a C0a rfl (by first | exact a0.cell 0 rfl rfl) rfl ?_;refine lT rfl ⟨⟩ rfl ⟨congrArg (Value.int .i64) ?_, a0.fin⟩;unfold W2a;rw [if_neg b0, if_neg d0, if_neg e0, if_neg f0, if_neg g0, if_neg h0, if_neg i0, if_neg j0, if_neg n0, if_neg q0, if_pos r0]; simp [x0]; done
 refine lT rfl ⟨⟩ rfl ⟨congrArg (Value.int .i64) ?_, a0.fin⟩;unfold W2a;rw [if_neg b0, if_neg d0, if_neg e0, if_neg f0, if_neg g0, if_neg h0, if_neg i0, if_neg j0, if_neg n0, if_neg q0, if_neg r0]
theorem O0c : ∀ (e : E) (M : List Nat) (w0 : World) (b o : Nat) (vo vn : Value) (old a0 : List Int) (p0 : Int), RdP M w0 e b o → a3a M w0 → RdI M w0 vo old → RdI M w0 vn a0 → e.good p0 = true →
 M0a Tryz.prog 93 #[.pointer (some ⟨b, o, none⟩), vo, vn] w0 fun v w' => v = .int .i64 (e.val old a0) ∧ Below w0.heap.size w0 w' := by
 intro e
 induction e using E.induct with
 | _ e ih =>
 intro M w0 b o vo vn old a0 p0 hR hK hO hN hg;obtain ⟨_, _, _, _, c0, c1, c2, _, n, _, c3, _, _, _, _, C0, _⟩ := hR.open_;obtain ⟨Ao, no, co, rfl⟩ := hO.form;obtain ⟨An, nn, cn, rfl⟩ := hN.form;rw [E.good_def] at hg;simp only [Bool.and_eq_true] at hg;have t0 : e.Shape := of_decide_eq_true hg.1.2;have A0 : ∀ k ∈ e.kids, k.good (p0 - 1) = true := (E.goods_iff _ _).1 hg.2;clear hg;have G0 : (e.op = 3 ∨ e.op = 2) → 0 ≤ e.n ∧ e.n < 32 := fun h => by
  have := (j5a (by omega)).1 t0; omega
 have F0 := u7a t0;have z0 := D2a e.op;have S := St.refl w0;have b0 := E.val_def old a0 e;refine a0a Tryz.func93 rfl Tryz.ntmps93 rfl ?_;refine wO0 rfl ⟨⟩ (s0a C0a rfl (by exact S.old c0) rfl ?_);refine lB0 rfl ⟨⟩ (fun f0 => ?_) fun f0 => ?_
 ·refine lO0 rfl ⟨⟩ (s0a C0a rfl (by exact S.old c2) rfl ?_);refine lT rfl ⟨⟩ rfl ⟨congrArg (Value.int .i64) ?_, S.fin⟩;rw [b0];rw [if_pos f0]
 refine lB0 rfl ⟨⟩ (fun h0 => ?_) fun h0 => ?_
 ·refine lC0 rfl ⟨⟩ (D0a b0a [0, 1, 2, 3, 4, 5, 6, 7, 8, 9, 10, 11, 12, 13] [] [] (by kernel_rfl) rfl (Cl _ _ _ _) (Cl.start S) ?_);refine f1a (by conv => lhs; whnf) rfl ?_;refine qO0 rfl ⟨⟩ (h0a C0a rfl (fun w1 hw => by exact hw.1.old c2) rfl ?_);refine F2a L8b rfl rfl (fun w1 S1 X1 => J0b M _ _ _ _ (RdS.keep (by assumption) (S1.keep0 M)) (by omega)) ?_;refine qO0 rfl ⟨⟩ (h0a C0a rfl (fun w1 hw => by exact hw.1.old c1) rfl ?_);refine V3a B1b rfl rfl (by omega) (by omega) rfl ?_;refine h0a C0a rfl (fun w1 hw => by exact hw.1.old (hK.at (by omega) (by omega))) rfl ?_;refine qD rfl ⟨⟩ ?_;rintro I0 ⟨v0, _⟩;refine lT rfl ⟨⟩ rfl ⟨congrArg (Value.int .i64) ?_, v0.fin⟩;rw [b0];rw [if_neg f0, if_pos h0]
 refine lB0 rfl ⟨⟩ (fun n0 => ?_) fun n0 => ?_
 ·refine lC0 rfl ⟨⟩ (D0a b0a [0, 1, 2, 3, 4, 5, 6, 7, 8, 9, 10, 11, 12, 13] [] [] (by kernel_rfl) rfl (Cl _ _ _ _) (Cl.start S) ?_);refine f1a (by conv => lhs; whnf) rfl ?_;refine qO0 rfl ⟨⟩ (h0a C0a rfl (fun w1 hw => by exact hw.1.old c2) rfl ?_);refine F2a L8b rfl rfl (fun w1 S1 X1 => J0b M _ _ _ _ (RdS.keep (by assumption) (S1.keep0 M)) (by omega)) ?_;refine qO0 rfl ⟨⟩ (h0a C0a rfl (fun w1 hw => by exact hw.1.old c1) rfl ?_);refine V3a B1b rfl rfl (by omega) (by omega) rfl ?_;refine h0a C0a rfl (fun w1 hw => by exact hw.1.old (hK.at (by omega) (by omega))) rfl ?_;refine qD rfl ⟨⟩ ?_;rintro J0 ⟨x0, _⟩;refine lT rfl ⟨⟩ rfl ⟨congrArg (Value.int .i64) ?_, x0.fin⟩;rw [b0];rw [if_neg f0, if_neg h0, if_pos n0]
 refine lO0 rfl ⟨⟩ (n0a S X7c rfl rfl ?_);intro g7 w7 S7 X7 G7;refine lO0 rfl ⟨⟩ (s0a a2a rfl (by exact S7.old c3) rfl ?_);refine lC0 rfl ⟨⟩ (wL (fun μ D ε w => D = [] ∧ ∃ k : Nat, (k + μ = e.kids.length) ∧ St [] w0 w [(some g7, 178, p8c (e.kids.map (E.val old a0)) k)] ∧ ε 0 = .pointer (some ⟨b, o, none⟩) ∧ ε 1 = .slice Ao no co ∧ ε 2 = .slice An nn cn ∧ ε 7 = .pointer (some ⟨g7, 0, none⟩) ∧ ε 53 = .int .i64 n ∧ ε 54 = .int .i64 k) (μ := e.kids.length) ⟨rfl, 0, by omega, by exact S7, rfl, rfl, rfl, rfl, rfl, rfl⟩ ?_);rintro μ D ε w ⟨rfl, k, _, S, e0, e1, e2, e7, r0, s0⟩;refine p0a 0 e0 (p0a 1 e1 (p0a 2 e2 (p0a 7 e7 (p0a 53 r0 (p0a 54 s0 ?_)))));clear e0 e1 e2 e7 r0 s0;refine wB0 rfl ⟨⟩ (fun y0 => ?_) fun y0 => ?_
 ·refine lO0 rfl ⟨⟩ (s0a a2a rfl (by exact S.old c3) rfl ?_);refine lO0 rfl ⟨⟩ ?_;have g0 : k < e.kids.length := by omega
  obtain ⟨bk, ok, _, o0, B0⟩ := C0 (by omega);refine x0a b1a.slT rfl (by assumption) rfl (by omega) (by omega) rfl ?_;refine lO0 rfl ⟨⟩ (g0a S t3c rfl rfl (ih _ (List.getElem_mem g0) M _ bk (ok + k * 4) _ _ old a0 _ ((RdP.kid o0 B0 k g0).keep (S.keep0 M)) (hK.keep (S.keep0 M)) (hO.keep (S.keep0 M)) (hN.keep (S.keep0 M)) (A0 _ (List.getElem_mem g0))) ?_);intro H0 u0 E0;refine g6a Z0b rfl rfl (by omega) (by omega) rfl ?_
  first | refine I0a (kk := 0) u0 c1b rfl (by conv => lhs; whnf) rfl rfl (by (simp; omega)) ?_
  intro q0 d0 j0;refine lP0 rfl ⟨by omega,⟨⟩⟩ ⟨μ - 1, by omega, rfl, k + 1, by omega, ?_, rfl, rfl, rfl, rfl, rfl, rfl⟩;have h3 : (e.kids.map (E.val old a0)).length ≤ 3 := by rw [List.length_map]; omega
  have hx := T0c (e.kids.map (E.val old a0)) k h3 (by simpa using g0);rw [← hx];simpa [g0] using d0
 refine lC0 rfl ⟨⟩ (D0a b0a [0, 1, 2, 3, 4, 5, 6, 7, 8, 9, 10, 11, 12, 13] [] [] (by kernel_rfl) rfl (Cl _ _ _ _) (Cl.start S) ?_);refine qO0 rfl ⟨⟩ (h0a C0a rfl (fun w1 hw => by exact hw.1.old c0) rfl ?_);refine qO S.q [.w 0] rfl ⟨⟨rfl,by rfl⟩,⟨⟩⟩ (F2a i4c rfl rfl (fun w1 S1 X1 => a1c _ _ _ _ _) ?_);refine qO0 rfl ⟨⟩ (h0a C0a rfl (fun w1 hw => by exact hw.1.old c1) rfl ?_);refine V3a B1b rfl rfl (by omega) (by omega) rfl ?_;refine h0a C0a rfl (fun w1 hw => by exact hw.1.old (hK.at (by omega) (by omega))) rfl ?_;refine qD rfl ⟨⟩ ?_;rintro D0 ⟨i0, _⟩;refine lT rfl ⟨⟩ rfl ⟨congrArg (Value.int .i64) ?_, i0.fin⟩;rw [b0];obtain rfl : k = e.kids.length := by omega
 rw [if_neg f0, if_neg h0, if_neg n0];have h3 : (e.kids.map (E.val old a0)).take e.kids.length = e.kids.map (E.val old a0) := List.take_of_length_le (by simp);rw [h3]
theorem b8a (e : E) (M : List Nat) (w0 : World) (cs : List Value) (vo vn : Value) (old a0 : List Int) (hR : RdE M w0 e cs) (hK : a3a M w0) (hO : RdI M w0 vo old) (hN : RdI M w0 vn a0) :
 M0a Tryz.prog 66 #[.agg cs.toArray, vo, vn] w0 fun v w' => v = .int .i64 (e.evl old a0) ∧ Below w0.heap.size w0 w' := by
 obtain ⟨_, _, _, rfl, _, _, _, _, _, _, _, _⟩ := hR.open_;obtain ⟨_, _, _, rfl⟩ := hO.form;obtain ⟨_, _, _, rfl⟩ := hN.form;have S := St.refl w0;refine a0a Tryz.func66 rfl Tryz.ntmps66 rfl ?_;refine wO0 rfl ⟨⟩ (j0a S (by conv => lhs; whnf) rfl ?_);intro g3 w3 S3 X3 G3;refine lO S3.k [.w 0] rfl ⟨⟨rfl,by rfl⟩,⟨⟩⟩ (y0a S3 R7b rfl rfl (m5a e M _ _ (RdE.keep (S3.keep0 M) _ _ hR) (hK.keep (S3.keep0 M))) (fun h8 w8 S8 X8 => ?_) (fun h8 w8 S8 X8 => ?_))
 ·refine lO0 rfl ⟨⟩ ?_;refine g0a S8 t3c rfl rfl (O0c e [] _ g3 0 _ _ old a0 40 ⟨by simp, _, S8.cells 0 rfl, RdE.less (by simp) _ _ (RdE.keep (S8.keep0 M) _ _ hR)⟩ ((hK.keep (S8.keep0 M)).more (by simp)) ((hO.keep (S8.keep0 M)).less (by simp)) ((hN.keep (S8.keep0 M)).less (by simp)) (by unfold E.wf at h8; simp only [Bool.and_eq_true] at h8; exact h8.2)) ?_;intro e0 b0 d0;refine lT rfl ⟨⟩ rfl ⟨congrArg (Value.int .i64) ?_, b0.fin⟩;unfold E.evl;simp [h8]
 refine lT rfl ⟨⟩ rfl ⟨congrArg (Value.int .i64) ?_, S8.fin⟩;unfold E.evl;simp [h8]
section
variable {σ : Type}
mutual
def E.lf (step : E → σ → σ) : E → σ → σ
 | ⟨op, w, n, ks⟩, s => E.lfs step ks (if ks.length = 0 then step ⟨op, w, n, ks⟩ s else s)
def E.lfs (step : E → σ → σ) : List E → σ → σ
 | [], s => s
 | k :: ks, s => E.lfs step ks (E.lf step k s)
end
theorem E.lf_def (step : E → σ → σ) (e : E) (s : σ) : e.lf step s = E.lfs step e.kids (if e.kids.length = 0 then step e s else s) := by cases e; simp only [E.lf]
theorem v0a.mono {M M' : List Nat} {w w' : World} (h : v0a M w w') (hs : ∀ g ∈ M, g ∈ M') : v0a M' w w' := ⟨h.os, h.tape, h.output, h.size, fun i hi hm => h.block i hi fun hh => hm (hs i hh)⟩
theorem St.more0 {M : List Nat} {w0 w w' : World} (S : St M w0 w []) (h : v0a M w w') : St M w0 w' [] :=
 S.changed (G := M) (L' := []) h (fun _ hg => .inr hg) rfl (by simp)
end
theorem A2b {σ : Type} (M : List Nat) (Inv : σ → World → Prop) (step : E → σ → σ) (f : FuncId) (caps : Array Value) (hf : Has Tryz.prog f)
 (b0 : ∀ (e : E) (s : σ) (w : World) (b o : Nat), e.Shape → e.kids.length = 0 → RdP M w e b o → Inv s w →
   M0a Tryz.prog f (.pointer (some ⟨b, o, none⟩) :: caps.toList).toArray w fun _ w' => Inv (step e s) w' ∧ v0a M w w') :
 ∀ (e : E) (w0 : World) (b o : Nat) (s : σ) (h0 : Int), RdP M w0 e b o → Inv s w0 → e.good h0 = true →
 M0a Tryz.prog 91 #[.pointer (some ⟨b, o, none⟩), .func (.func f) #[] caps] w0 fun _ w' => Inv (e.lf step s) w' ∧ v0a M w0 w' := by
 intro e
 induction e using E.induct with
 | _ e ih =>
 intro w0 b o s h0 hR hI hg;obtain ⟨f0, _, _, _, _, _, _, _, n, _, c3, _, _, _, _, C0, _⟩ := hR.open_;rw [E.good_def] at hg;simp only [Bool.and_eq_true] at hg;have E0 : e.Shape := of_decide_eq_true hg.1.2;have A0 : ∀ k ∈ e.kids, k.good (h0 - 1) = true := (E.goods_iff _ _).1 hg.2;clear hg;have S : St M w0 w0 [] := ⟨v0a.refl _ _, by simp, by simp⟩;have o0 := E.lf_def step e s;refine a0a Tryz.func91 rfl Tryz.ntmps91 rfl ?_;refine wX (fun D ε w => D = [] ∧ ∃ s1 : σ, (Inv s1 w) ∧ (s1 = if e.kids.length = 0 then step e s else s) ∧ St M w0 w [] ∧ ε 0 = .pointer (some ⟨b, o, none⟩) ∧ ε 1 = .func (.func f) #[] caps) ?_ ?_
 ·refine wO0 rfl ⟨⟩ (s0a a2a rfl (by first | exact S.oldM f0 c3) rfl ?_);refine lB0 rfl ⟨⟩ (fun v0 => ?_) fun v0 => ?_
  ·refine lO0 rfl ⟨⟩ (J1b hf rfl rfl rfl (b0 e s _ b o E0 (by omega) (hR.keep S.keepM) hI) ?_);rintro F0 H0 ⟨r0, p0⟩;have t0 := S.more0 p0;exact lP0 rfl ⟨⟩ ⟨rfl, _, r0, by rw [if_pos (by omega)], t0, rfl, rfl⟩
  exact lP0 rfl ⟨⟩ ⟨rfl, _, hI, by rw [if_neg (by omega)], S, rfl, rfl⟩
 rintro D ε w ⟨rfl, s1, y0, D0, S, e0, e1⟩;refine p0a 0 e0 (p0a 1 e1 ?_);clear e0 e1;rw [← D0] at o0;refine wO0 rfl ⟨⟩ (s0a a2a rfl (by first | exact S.oldM f0 c3) rfl ?_);refine lC0 rfl ⟨⟩ (wL (fun μ D ε w => D = [] ∧ ∃ k : Nat, ∃ s2 : σ, (k + μ = e.kids.length) ∧ (Inv s2 w) ∧ (E.lfs step e.kids s1 = E.lfs step (e.kids.drop k) s2) ∧ St M w0 w [] ∧ ε 0 = .pointer (some ⟨b, o, none⟩) ∧ ε 1 = .func (.func f) #[] caps ∧ ε 18 = .int .i64 n ∧ ε 19 = .int .i64 k) (μ := e.kids.length) ⟨rfl, 0, s1, by omega, y0, rfl, S, rfl, rfl, rfl, rfl⟩ ?_);rintro μ D ε w ⟨rfl, k, s2, _, n0, a0, S, e0, e1, i0, j0⟩;refine p0a 0 e0 (p0a 1 e1 (p0a 18 i0 (p0a 19 j0 ?_)));clear e0 e1 i0 j0;refine wB0 rfl ⟨⟩ (fun x0 => ?_) fun x0 => ?_
 ·refine lO0 rfl ⟨⟩ (s0a a2a rfl (by first | exact S.oldM f0 c3) rfl ?_);refine lO0 rfl ⟨⟩ ?_;have d0 : k < e.kids.length := by omega
  obtain ⟨bk, ok, _, g0, B0⟩ := C0 (by omega);have z0 : e.kids.drop k = e.kids[k] :: e.kids.drop (k + 1) := List.drop_eq_getElem_cons d0;rw [z0] at a0;simp only [E.lfs] at a0;refine x0a b1a.slT rfl (by assumption) rfl (by omega) (by omega) rfl ?_;refine lO0 rfl ⟨⟩ (e2a P9b rfl rfl (ih _ (List.getElem_mem d0) _ bk (ok + k * 4) s2 _ ((RdP.kid g0 B0 k d0).keep S.keepM) n0 (A0 _ (List.getElem_mem d0))) ?_);rintro G0 I0 ⟨s0, q0⟩;have u0 := S.more0 q0;exact lP0 rfl ⟨by omega,⟨⟩⟩ ⟨μ - 1, by omega, rfl, k + 1, _, by omega, s0, a0, u0, rfl, rfl, rfl, rfl⟩
 refine lF0 rfl ⟨⟩ (J1a rfl ?_);obtain rfl : k = e.kids.length := by omega
 rw [List.drop_length] at a0;simp only [E.lfs] at a0;rw [o0, a0];exact ⟨n0, S.below⟩
def F8c (M : List Nat) (gc gp gg : Nat) (vc : Value) (cells : List d2a) (pair : Bool) (s : Bool) (w : World) : Prop :=
 gc ∉ M ∧ gp ∉ M ∧ w.cell? ⟨gc, 0, none⟩ = some vc ∧ w.cell? ⟨gp, 0, none⟩ = some (.bool pair) ∧ o0a w (gg, 4, [.bool s]) ∧ u5c M w vc cells
theorem y9b (M : List Nat) (gc gp gg : Nat) (vc : Value) (cells : List d2a) (a0 : Bool) (L0 : gg ∈ M) (e : E) (s : Bool) (w0 : World) (b o : Nat) (B0 : e.Shape) (P0 : e.kids.length = 0) (hR : RdP M w0 e b o) (hI : F8c M gc gp gg vc cells a0 s w0) :
 M0a Tryz.prog 92 #[.pointer (some ⟨b, o, none⟩), .pointer (some ⟨gc, 0, none⟩), .pointer (some ⟨gp, 0, none⟩), .pointer (some ⟨gg, 0, none⟩)] w0 fun _ w' => F8c M gc gp gg vc cells a0 (s && decide (e.OverN cells a0)) w' ∧ v0a M w0 w' := by
 obtain ⟨y0, z0, s0, x0, q0, hC⟩ := hI;obtain ⟨G0, _, _, _, c0, c1, c2, _, n, _, _, _, _, hm, _, _, _⟩ := hR.open_;obtain ⟨Ac, nc, cc, rfl, _, _, _, _, J0⟩ := id hC;have O0 := u7a B0;have F0 := D2a e.op;have Q0 : (e.op = 3 ∨ e.op = 2) → 0 ≤ e.n ∧ e.n < 32 := fun h => by
  have := (j5a (by omega)).1 B0; omega
 have S := St.borrow1 q0;have d0 : ∀ g ∈ [gg], g ∈ M := fun g hg => by simp at hg; subst hg; exact L0
 have n0 : b ∉ [gg] := fun h => G0 (d0 b h);have r0 : gc ∉ [gg] := fun h => y0 (d0 gc h);have u0 : gp ∉ [gg] := fun h => z0 (d0 gp h);have h0 : ∀ (z : Bool) (w' : World), St [gg] w0 w' [(some gg, 4, [.bool z])] → z = (s && decide (e.OverN cells a0)) → F8c M gc gp gg (.slice Ac nc cc) cells a0 (s && decide (e.OverN cells a0)) w' ∧ v0a M w0 w' := by
  intro z w' S' hz;subst hz;exact ⟨⟨y0, z0, S'.oldM r0 s0, S'.oldM u0 x0, S'.blk 0 rfl, hC.keep (S'.keepM.mono d0)⟩, S'.below.mono d0⟩
 obtain ⟨pr, v0⟩ : ∃ pr, pr = a0 := ⟨_, rfl⟩;have g0 := x0;rw [← v0] at g0;refine a0a Tryz.func92 rfl Tryz.ntmps92 rfl ?_;refine wC0 rfl ⟨⟩ (D0a b0a [0, 1, 2, 3, 4, 5, 6, 7, 8, 9, 10, 11, 12, 13, 14, 15, 16, 17, 18, 19, 20, 21, 22, 23, 24, 25, 26, 27, 28, 29, 30, 31, 32, 33, 34, 35, 36, 37, 38, 39] [] [] (by kernel_rfl) rfl (Cl _ _ _ _) (Cl.start S) ?_);refine qO0 rfl ⟨⟩ (h0a C0a rfl (fun w1 hw => by exact hw.1.oldM n0 c0) rfl ?_);refine qB0 rfl ⟨⟩ (fun h9 => ?_) fun h9 => ?_
 ·refine qO0 rfl ⟨⟩ (h0a C0a rfl (fun w1 hw => by exact hw.1.oldM n0 c2) rfl ?_);refine qO0 rfl ⟨⟩ (h0a J9a rfl (fun w1 hw => by exact hw.1.oldM r0 s0) rfl ?_);refine qB0 rfl ⟨⟩ (fun C0 => ?_) fun C0 => ?_
  ·refine qD rfl ⟨⟩ ?_;rintro wR0 ⟨f0, j0⟩;refine lO0 rfl ⟨⟩ ?_
   first | refine I0a (kk := 0) f0 R1c rfl (by conv => lhs; whnf) rfl rfl (by exact Nat.le_of_ble_eq_true rfl) ?_
   intro o0 e0 i0;refine lF0 rfl ⟨⟩ (J1a rfl ?_);refine h0 _ _ e0 ?_; rw [decide_eq_false (show ¬ e.OverN cells a0 from fun h => by have := h.2 (by omega); omega)]; simp; done
  refine qO0 rfl ⟨⟩ (h0a J9a rfl (fun w1 hw => by exact hw.1.oldM r0 s0) rfl ?_);refine qO0 rfl ⟨⟩ (h0a C0a rfl (fun w1 hw => by exact hw.1.oldM n0 c2) rfl ?_);refine qO0 rfl ⟨⟩ ?_;obtain ⟨bc, oc, _, H0, I0⟩ := J0 (by omega);obtain ⟨m, hm⟩ := Int.eq_ofNat_of_zero_le (show 0 ≤ e.n by omega);have A0 : m < cells.length := by omega
  have p0 : bc ∉ [gg] := fun h => H0 (d0 bc h);obtain ⟨_, _, t0, N0⟩ := I0 m cells[m] (List.getElem?_eq_getElem A0);have K0 : w0.cell? ⟨bc, oc + e.n.toNat * 6 + 1, none⟩ = some (.int .i64 (wAt cells e.n)) := by
   rw [hm]; have := t0 1 (.int .i64 cells[m].w) (by rw [N0.1]; rfl);simpa [wAt, A0] using this
  refine m0a r5a.slT rfl (by assumption) rfl (by omega) (by omega) rfl ?_;refine qO0 rfl ⟨⟩ (h0a C0a rfl (fun w1 hw => by exact hw.1.oldM p0 K0) rfl ?_);refine qO0 rfl ⟨⟩ (h0a C0a rfl (fun w1 hw => by exact hw.1.oldM n0 c1) rfl ?_);refine qB0 rfl ⟨⟩ (fun D0 => ?_) fun D0 => ?_
  ·refine qD rfl ⟨⟩ ?_;rintro wR0 ⟨f0, j0⟩;refine lO0 rfl ⟨⟩ ?_
   first | refine I0a (kk := 0) f0 R1c rfl (by conv => lhs; whnf) rfl rfl (by exact Nat.le_of_ble_eq_true rfl) ?_
   intro o0 e0 i0;refine lF0 rfl ⟨⟩ (J1a rfl ?_);refine h0 _ _ e0 ?_; rw [decide_eq_false (show ¬ e.OverN cells a0 from fun h => by have := h.2 (by omega); omega)]; simp; done
  refine qO0 rfl ⟨⟩ (h0a C0a rfl (fun w1 hw => by exact hw.1.oldM n0 c0) rfl ?_);refine qB0 rfl ⟨⟩ (fun E0 => ?_) fun E0 => ?_
  ·refine qO0 rfl ⟨⟩ ?_;rcases (Bool.eq_false_or_eq_true (pr)).symm with b0 | b0
   ·refine h0a A2a rfl (fun w1 hw => by exact (hw.1.oldM u0 (g0.trans (by rw [b0]))).trans (congrArg (fun b => some (Value.bool b)) b0)) rfl ?_;refine qD rfl ⟨⟩ ?_;rintro wR0 ⟨f0, j0⟩;refine lO0 rfl ⟨⟩ ?_
    first | refine I0a (kk := 0) f0 R1c rfl (by conv => lhs; whnf) rfl rfl (by exact Nat.le_of_ble_eq_true rfl) ?_
    intro o0 e0 i0;refine lF0 rfl ⟨⟩ (J1a rfl ?_);refine h0 _ _ e0 ?_; rw [decide_eq_false (show ¬ e.OverN cells a0 from fun h => by have := h.1 (by omega); rw [← v0, b0] at this; cases this)]; simp; done
   refine h0a A2a rfl (fun w1 hw => by exact (hw.1.oldM u0 (g0.trans (by rw [b0]))).trans (congrArg (fun b => some (Value.bool b)) b0)) rfl ?_;refine qD rfl ⟨⟩ ?_;rintro wR0 ⟨f0, j0⟩;refine lF0 rfl ⟨⟩ (J1a rfl ?_);refine h0 _ _ f0 ?_; rw [decide_eq_true (show e.OverN cells a0 from ⟨fun h => by rw [← v0, b0], fun h => by omega⟩)]; simp; done
  refine qD rfl ⟨⟩ ?_;rintro wR0 ⟨f0, j0⟩;refine lF0 rfl ⟨⟩ (J1a rfl ?_);refine h0 _ _ f0 ?_; rw [decide_eq_true (show e.OverN cells a0 from ⟨fun h => absurd h (by omega), fun h => by omega⟩)]; simp; done
 refine qD rfl ⟨⟩ ?_;rintro wR0 ⟨f0, j0⟩;refine lF0 rfl ⟨⟩ (J1a rfl ?_);refine h0 _ _ f0 ?_; rw [decide_eq_true (show e.OverN cells a0 from ⟨fun h => absurd h (by omega), fun h => by omega⟩)]; simp; done
theorem h6c (cells : List d2a) (a0 : Bool) : ∀ (e : E) (s : Bool) (b0 : Int), e.good b0 = true → e.lf (fun e s => s && decide (e.OverN cells a0)) s = (s && e.over cells a0) := by
 intro e
 induction e using E.induct with
 | _ e ih =>
   intro s b0 hg;rw [E.good_def] at hg;simp only [Bool.and_eq_true] at hg;have g0 : e.Shape := of_decide_eq_true hg.1.2;have f0 : ∀ k ∈ e.kids, k.good (b0 - 1) = true := (E.goods_iff _ _).1 hg.2;have j0 := u7a g0;have e0 := D2a e.op;have key : ∀ (ks : List E), (∀ k ∈ ks, ∀ (s : Bool) (b0 : Int), k.good b0 = true → k.lf (fun e s => s && decide (e.OverN cells a0)) s = (s && k.over cells a0)) → (∀ k ∈ ks, k.good (b0 - 1) = true) →
    ∀ s : Bool, E.lfs (fun e s => s && decide (e.OverN cells a0)) ks s = (s && E.overs cells a0 ks) := by
    intro ks
    induction ks with
    | nil => intro _ _ s; simp [E.lfs, E.overs]
    | cons k ks i0 =>
      intro h1 h2 s;simp only [E.lfs, E.overs];rw [i0 (fun k' d0 => h1 k' (by simp [d0])) (fun k' d0 => h2 k' (by simp [d0])), h1 k (by simp) _ (b0 - 1) (h2 k (by simp)), Bool.and_assoc]
   rw [E.lf_def, key e.kids ih f0, E.over_def];by_cases h0 : e.kids.length = 0
   ·rw [if_pos h0, Bool.and_assoc]
   ·rw [if_neg h0, decide_eq_true (show e.OverN cells a0 by unfold E.OverN; omega)]; simp
theorem K2a (e : E) (M : List Nat) (w0 : World) (cs : List Value) (vc : Value) (cells : List d2a) (b0 : Bool) (hR : RdE M w0 e cs) (hC : u5c M w0 vc cells) (hK : a3a M w0) :
 M0a Tryz.prog 64 #[.agg cs.toArray, vc, .bool b0] w0 fun v w' => v = .bool (e.valid cells b0) ∧ Below w0.heap.size w0 w' := by
 obtain ⟨_, _, _, rfl, _, _, _, _, _, _, _, _⟩ := hR.open_;obtain ⟨Ac, nc, cc, rfl⟩ := hC.form;have S := St.refl w0;refine a0a Tryz.func64 rfl Tryz.ntmps64 rfl ?_;refine wO0 rfl ⟨⟩ (j0a S (by conv => lhs; whnf) rfl ?_);intro g3 w3 S3 X3 G3;refine q6a S3 (v := .slice _ _ _) rfl rfl rfl ?_;intro g4 w4 S4 X4 G4;refine q6a S4 (v := .bool _) rfl rfl rfl ?_;intro g5 w5 S5 X5 G5;refine lO S5.k [.w 2] rfl ⟨⟨rfl,by rfl⟩,⟨⟩⟩ (y0a S5 R7b rfl rfl (m5a e M _ _ (RdE.keep (S5.keep0 M) _ _ hR) (hK.keep (S5.keep0 M))) (fun h9 w9 S9 X9 => ?_) (fun h9 w9 S9 X9 => ?_))
 ·refine lO0 rfl ⟨⟩ (n0a S9 r9c rfl rfl ?_);intro g7 w7 S7 X7 G7;refine I0a (kk := 0) S7 R1c rfl (by conv => lhs; whnf) rfl rfl (by exact Nat.le_of_ble_eq_true rfl) ?_;intro j0 a0 i0;refine lO0 rfl ⟨⟩ (F1a rfl rfl ?_);have f0 : ∀ g ∈ [g7] , g ∈ M ∨ w0.heap.size ≤ g := fun g hg => by
   simp at hg; subst hg; right; have := a0.new 0 rfl; simp at this; exact this
  have d0 : e.good 40 = true := by unfold E.wf at h9; simp only [Bool.and_eq_true] at h9; exact h9.2
  refine e2a P9b rfl rfl (A2b [g7] (F8c [g7] g4 g5 g7 (.slice Ac nc cc) cells b0) (fun e s => s && decide (e.OverN cells b0)) _ _ d7c (fun e s w b o h1 h2 h3 h4 => y9b [g7] g4 g5 g7 _ cells b0 (by simp) e s w b o h1 h2 h3 h4) e _ g3 0 true 40
   ⟨by simpa using (a0.ne 0 3 rfl rfl (by omega)).symm, _, a0.cells 3 rfl, RdE.keep (a0.keep0 _) _ _ (RdE.more f0 _ _ hR)⟩
   ⟨by simpa using (a0.ne 0 2 rfl rfl (by omega)).symm, by simpa using (a0.ne 0 1 rfl rfl (by omega)).symm, a0.cell 2 rfl rfl, a0.cell 1 rfl rfl, a0.blk 0 rfl, (hC.more (by omega) f0).keep (a0.keep0 _)⟩ d0) ?_
  rintro n0 o0 ⟨⟨-, -, -, -, h0, -⟩, g0⟩;have e0 := a0.changed1 0 rfl g0 h0;rw [h6c cells b0 e true 40 d0] at e0;dsimp only [List.set] at e0;refine lR e0.k [.o 0] rfl ⟨rfl,⟨⟩⟩ (q0a rfl (by conv => lhs; whnf) ?_);refine ⟨congrArg Value.bool ?_, e0.fin⟩;unfold E.valid;simp [h9]
 refine lT rfl ⟨⟩ rfl ⟨congrArg Value.bool ?_, S9.fin⟩;unfold E.valid;simp [h9]
theorem x0c {M : List Nat} {w : World} : RdI M w (.slice none 0 0) [] := ⟨none, 0, 0, rfl, rfl, Nat.le_refl _, by unfold maxLen; omega, by omega, fun h => absurd h (by omega)⟩
def I6c (g1 g2 : Nat) (s : List Bool × List Bool) (w : World) : Prop :=
 s.1.length = 32 ∧ s.2.length = 32 ∧ o0a w (g1, 210, s.1.map Value.bool) ∧ o0a w (g2, 210, s.2.map Value.bool)
def X5a (e : E) (s : List Bool × List Bool) : List Bool × List Bool := (if e.op = 3 then s.1.set e.n.toNat true else s.1, if e.op = 2 then s.2.set e.n.toNat true else s.2)
theorem A4b (g1 g2 : Nat) (j0 : g1 ≠ g2) (e : E) (s : List Bool × List Bool) (w0 : World) (b o : Nat) (n0 : e.Shape) (hR : RdP [g1, g2] w0 e b o) (hI : I6c g1 g2 s w0) :
 M0a Tryz.prog 169 #[.pointer (some ⟨b, o, none⟩), .pointer (some ⟨g1, 0, none⟩), .pointer (some ⟨g2, 0, none⟩)] w0 fun _ w' => I6c g1 g2 (X5a e s) w' ∧ v0a [g1, g2] w0 w' := by
 obtain ⟨l1, l2, f0, g0⟩ := hI;obtain ⟨_, _⟩ := s;dsimp only at l1 l2 f0 g0;obtain ⟨e0, _, _, _, c0, _, c2, _, n, _, _, _, _, _, _, _, _⟩ := hR.open_;have q0 : (e.op = 3 ∨ e.op = 2) → 0 ≤ e.n ∧ e.n < 32 := fun h => by
  have := (j5a (by omega)).1 n0; omega
 have S := St.borrow2 f0 g0 j0;refine a0a Tryz.func169 rfl Tryz.ntmps169 rfl ?_;refine wO0 rfl ⟨⟩ (s0a C0a rfl (by exact S.oldM e0 c0) rfl ?_);refine lB0 rfl ⟨⟩ (fun h9 => ?_) fun h9 => ?_
 ·refine lO0 rfl ⟨⟩ (s0a C0a rfl (by exact S.oldM e0 c2) rfl ?_);refine g6a d2b rfl rfl (by omega) (by omega) rfl ?_;refine I0a (kk := 0) S R1c rfl (by conv => lhs; whnf) rfl rfl (by (simp; omega)) ?_;intro o0 a0 h0;refine lF0 rfl ⟨⟩ (J1a rfl ?_);refine ⟨?_, a0.below⟩;unfold I6c X5a;refine ⟨by dsimp only; split <;> simp [l1], by dsimp only; split <;> simp [l2], ?_, ?_⟩
  ·have hh := a0.blk 0 rfl;simpa [h9, List.map_set] using hh; done
  ·have hh := a0.blk 1 rfl;simpa [h9, List.map_set] using hh; done
 refine lB0 rfl ⟨⟩ (fun d0 => ?_) fun d0 => ?_
 ·refine lO0 rfl ⟨⟩ (s0a C0a rfl (by exact S.oldM e0 c2) rfl ?_);refine g6a d2b rfl rfl (by omega) (by omega) rfl ?_;refine I0a (kk := 1) S R1c rfl (by conv => lhs; whnf) rfl rfl (by (simp; omega)) ?_;intro p0 b0 i0;refine lF0 rfl ⟨⟩ (J1a rfl ?_);refine ⟨?_, b0.below⟩;unfold I6c X5a;refine ⟨by dsimp only; split <;> simp [l1], by dsimp only; split <;> simp [l2], ?_, ?_⟩
  ·have hh := b0.blk 0 rfl;simpa [h9, List.map_set] using hh; done
  ·have hh := b0.blk 1 rfl;simpa [h9, d0, List.map_set] using hh; done
 refine lF0 rfl ⟨⟩ (J1a rfl ?_);refine ⟨?_, S.below⟩;unfold I6c X5a;refine ⟨by dsimp only; split <;> simp [l1], by dsimp only; split <;> simp [l2], ?_, ?_⟩
 ·have hh := S.blk 0 rfl;simpa [h9, List.map_set] using hh; done
 ·have hh := S.blk 1 rfl;simpa [h9, d0, List.map_set] using hh; done
theorem S0b (M : List Nat) (w0 : World) (bs : List Bool) (f0 : bs.length = 32) (hM : ∀ g ∈ M, g < w0.heap.size) :
 M0a Tryz.prog 170 #[.agg (bs.map Value.bool).toArray] w0 fun v' w' => RdI M w' v' (h5a bs) ∧ Below w0.heap.size w0 w' := by
 have S := (St.refl w0).nilEnt 3;have y0 : (bs.map Value.bool).length = 32 := by simpa using f0
 refine a0a Tryz.func170 rfl Tryz.ntmps170 rfl ?_;refine wO0 rfl ⟨⟩ (j0a S (by conv => lhs; whnf) rfl ?_);intro g1 w1 S1 X1 G1;refine lC S1.k [.w 0] rfl ⟨⟨rfl,by assumption⟩,⟨⟩⟩ (wL (fun μ D ε w => D = [] ∧ ∃ k : Nat, ∃ G : Option Nat, ∃ cs : List Value, ∃ v : Value, (k + μ = 32) ∧ (C3a G 1 (J2a bs k).length cs v ((J2a bs k).map (Value.int .i64))) ∧ St [] w0 w [(G, 3, cs)] ∧ ε 3 = v ∧ ε 6 = .agg (bs.map Value.bool).toArray ∧ ε 7 = .int .i64 k) (μ := 32) ⟨rfl, 0, none, [], _, by omega, C3a.nil 1, S1.tail, rfl, rfl, rfl⟩ ?_);rintro μ D ε w ⟨rfl, k, G, cs, v, _, b0, S, e3, e6, e7⟩;refine p0a 3 e3 (p0a 6 e6 (p0a 7 e7 ?_));clear e3 e6 e7;refine wB0 rfl ⟨⟩ (fun h8 => ?_) fun h8 => ?_
 ·refine lO0 rfl ⟨⟩ ?_;have d0 : k < bs.length := by omega
  have g0 : ((bs.map Value.bool).toArray)[((k : Nat) : Int).toNat]? = some (.bool bs[k]) := by simp [d0]
  have h0 : bs.getD k false = bs[k] := by simp [d0]
  have o0 := w2a bs k;cases a0 : bs[k]
  ·have d0 : k < bs.length := by omega
   have g0 : ((bs.map Value.bool).toArray)[((k : Nat) : Int).toNat]? = some (.bool bs[k]) := by simp [d0]
   have h0 : bs.getD k false = bs[k] := by simp [d0]
   have o0 := w2a bs k;refine n5b d2b rfl rfl (by omega) (by omega) (g0.trans (by rw [a0])) rfl ?_;refine lP0 rfl ⟨by omega,⟨⟩⟩ ⟨μ - 1, by omega, rfl, k + 1, G, cs, v, by omega, ?_, S, rfl, rfl, rfl⟩;rw [Q3a, h0, a0]; simpa using b0
  have d0 : k < bs.length := by omega
  have g0 : ((bs.map Value.bool).toArray)[((k : Nat) : Int).toNat]? = some (.bool bs[k]) := by simp [d0]
  have h0 : bs.getD k false = bs[k] := by simp [d0]
  have o0 := w2a bs k;refine n5b d2b rfl rfl (by omega) (by omega) (g0.trans (by rw [a0])) rfl ?_;refine lOn 11 S.k [] rfl ⟨⟩ (m1a (by conv => lhs; whnf) rfl ?_);refine lO0 rfl ⟨⟩ (E0a S Y0a (vs := [.int .i64 _]) (cs := [_]) (by rfl) rfl rfl rfl rfl rfl rfl ?_);intro x0 z0 n0 u0 t0;refine d1b (k := 1) n0 Y0a rfl b0 rfl rfl (n0.cells 0 rfl) rfl (by simp [Value.oneCell']) (by omega) (by omega) rfl ?_;intro s0 p0 j0 A0 i0 e0 v0;have q0 := i0.tail;refine T0a (by conv => lhs; whnf) rfl ?_;refine lP0 rfl ⟨by omega,⟨⟩⟩ ⟨μ - 1, by omega, rfl, k + 1, p0, j0, s0, by omega, ?_, q0, rfl, rfl, rfl⟩;rw [Q3a, h0, a0]; simpa using e0
 refine lOn 8 S.k [] rfl ⟨⟩ (m1a (by conv => lhs; whnf) rfl ?_);refine T0a (by conv => lhs; whnf) rfl ?_;refine lR0 rfl ⟨⟩ (q0a rfl (by conv => lhs; whnf) ?_);obtain rfl : k = 32 := by omega
 have r0 : J2a bs 32 = h5a bs := by unfold h5a; rw [f0]
 rw [r0] at b0;refine ⟨b0.rdI (k := 0) S rfl hM (fun x hx => ?_) ?_, S.nil.fin⟩
 ·obtain ⟨_, rfl, _, _⟩ := (F5a _ _ _).1 hx; unfold i64; omega
 ·have := w2a bs bs.length; unfold h5a; omega
theorem M7c : ∀ (e : E) (a1 a2 : List Bool) (a0 : Int), e.good a0 = true → e.lf X5a (a1, a2) = (e.mark 3 a1, e.mark 2 a2) := by
 intro e
 induction e using E.induct with
 | _ e ih =>
   intro a1 a2 a0 hg;rw [E.good_def] at hg;simp only [Bool.and_eq_true] at hg;have f0 : e.Shape := of_decide_eq_true hg.1.2;have d0 : ∀ k ∈ e.kids, k.good (a0 - 1) = true := (E.goods_iff _ _).1 hg.2;have i0 := u7a f0;have e0 := D2a e.op;have key : ∀ (ks : List E), (∀ k ∈ ks, ∀ (a1 a2 : List Bool) (a0 : Int), k.good a0 = true → k.lf X5a (a1, a2) = (k.mark 3 a1, k.mark 2 a2)) → (∀ k ∈ ks, k.good (a0 - 1) = true) →
    ∀ a1 a2 : List Bool, E.lfs X5a ks (a1, a2) = (E.markAll 3 ks a1, E.markAll 2 ks a2) := by
    intro ks
    induction ks with
    | nil => intro _ _ a1 a2; simp [E.lfs, E.markAll]
    | cons k ks g0 =>
      intro h1 h2 a1 a2;simp only [E.lfs, E.markAll];rw [h1 k (by simp) _ _ (a0 - 1) (h2 k (by simp)), g0 (fun k' b0 => h1 k' (by simp [b0])) (fun k' b0 => h2 k' (by simp [b0]))]
   rw [E.lf_def, E.mark_def, E.mark_def];by_cases h0 : e.kids.length = 0
   ·rw [if_pos h0]; exact key e.kids ih d0 _ _
   ·rw [if_neg h0, if_neg (by omega), if_neg (by omega)]; exact key e.kids ih d0 _ _
theorem x3b (e : E) (M : List Nat) (w0 : World) (cs : List Value) (hR : RdE M w0 e cs) (hK : a3a M w0) (hM : ∀ g ∈ M, g < w0.heap.size) :
 M0a Tryz.prog 156 #[.agg cs.toArray] w0 fun v w' => (∃ a b, v = .tuple #[a, b] ∧ RdI M w' a (e.sup 3) ∧ RdI M w' b (e.sup 2)) ∧ Below w0.heap.size w0 w' := by
 obtain ⟨_, _, _, rfl, _, _, _, _, _, _, _, _⟩ := hR.open_;have S := St.refl w0;refine a0a Tryz.func156 rfl Tryz.ntmps156 rfl ?_;refine wO0 rfl ⟨⟩ (j0a S (by conv => lhs; whnf) rfl ?_);intro g1 w1 S1 X1 G1;refine lO S1.k [.w 0] rfl ⟨⟨rfl,by rfl⟩,⟨⟩⟩ (y0a S1 R7b rfl rfl (m5a e M _ _ (RdE.keep (S1.keep0 M) _ _ hR) (hK.keep (S1.keep0 M))) (fun h7 w7 S7 X7 => ?_) (fun h7 w7 S7 X7 => ?_))
 ·refine lO0 rfl ⟨⟩ (n0a S7 a3c rfl rfl ?_);intro g4 w4 S4 X4 G4;refine n0a S4 a3c rfl rfl ?_;intro g5 w5 S5 X5 G5;refine lO0 rfl ⟨⟩ (F1a rfl rfl ?_);have i0 : ∀ g ∈ [g4, g5] , g ∈ M ∨ w0.heap.size ≤ g := fun g hg => by
   simp at hg; rcases hg with rfl | rfl
   ·right; have := S5.new 1 rfl; simp at this; exact this
   ·right; have := S5.new 0 rfl; simp at this; exact this
  have a0 : e.good 40 = true := by unfold E.wf at h7; simp only [Bool.and_eq_true] at h7; exact h7.2
  have j0 := (S5.ne 0 1 rfl rfl (by omega)).symm;refine e2a P9b rfl rfl (A2b [g4, g5] (I6c g4 g5) X5a _ _ a4c (fun e s w b o h1 _ h3 h4 => A4b g4 g5 j0 e s w b o h1 h3 h4) e _ g1 0 (List.replicate 32 false, List.replicate 32 false) 40
   ⟨by simpa using ⟨(S5.ne 1 2 rfl rfl (by omega)).symm, (S5.ne 0 2 rfl rfl (by omega)).symm⟩, _, S5.cells 2 rfl, RdE.keep (S5.keep0 _) _ _ (RdE.more i0 _ _ hR)⟩
   ⟨rfl, rfl, S5.blk 1 rfl, S5.blk 0 rfl⟩ a0) ?_
  rintro q0 t0 ⟨⟨-, -, I1, I2⟩, f0⟩;rw [M7c e _ _ 40 a0] at I1 I2;dsimp only at I1 I2;have b0 := S5.changed2 1 0 rfl rfl f0 I1 I2;dsimp only [List.set] at b0;have q1 : (e.mark 3 (List.replicate 32 false)).length = 32 := by rw [E.mark_len]; simp
  have q2 : (e.mark 2 (List.replicate 32 false)).length = 32 := by rw [E.mark_len]; simp
  have o0 : ((e.mark 3 (List.replicate 32 false)).map Value.bool).length = 32 := by simpa using q1
  have p0 : ((e.mark 2 (List.replicate 32 false)).map Value.bool).length = 32 := by simpa using q2
  refine lC0 rfl ⟨⟩ (D0a b0a [0, 2] [1] [3, 4, 5] (by kernel_rfl) rfl (Cl _ _ _ _) (Cl.start b0) ?_);refine qN b0.q [.w 1,.w 0] rfl ⟨⟨rfl,by assumption⟩,⟨rfl,by assumption⟩,⟨⟩⟩ (t5a ?_);refine g2b (fun v w => RdI M w v (h5a (e.mark 3 (List.replicate 32 false)))) rfl rfl i9b rfl (fun v w w' h hk => h.keep hk.of_nil) (fun w1 S1 X1 => S0b M _ _ q1 (fun g hg => Nat.lt_of_lt_of_le (hM g hg) S1.size)) ?_;refine q2a ?_;rintro v0 ⟨e0, _⟩;rintro r0 d0;dsimp only [K3a];refine B0a e0 i9b rfl rfl (S0b M _ _ q2 (fun g hg => Nat.lt_of_lt_of_le (hM g hg) e0.size)) ?_;rintro s0 u0 n0 g0 h0;replace d0 := d0.keep (h0.of_nil);refine T0a (by conv => lhs; whnf) rfl ?_;refine T0a (by conv => lhs; whnf) rfl ?_;refine lT2 rfl ⟨⟩ rfl ⟨⟨_, _, rfl, ?_⟩, g0.fin⟩;unfold E.sup;rw [if_pos h7, if_pos h7]; exact ⟨d0, n0⟩
 refine lT2 rfl ⟨⟩ rfl ⟨⟨_, _, rfl, ?_⟩, S7.fin⟩;unfold E.sup;rw [if_neg (by simp [h7]), if_neg (by simp [h7])]; exact ⟨x0c, x0c⟩
theorem w0a.fresh {a b c : World} {g : Nat} (h : w0a [] a b) (k : w0a [g] b c) (hg : a.heap.size ≤ g) : w0a [] a c :=
 ⟨Nat.le_trans h.size k.size, fun i hi hm => (k.same i (Nat.lt_of_lt_of_le hi h.size) (fun hh => by rw [List.mem_singleton] at hh; omega)).trans (h.same i hi hm)⟩
def shQ (p : f0a) (c : Int) : Bool := decide ((0 ≤ c ∧ c < p.cells.length) ∧ y1a p.cells c = -1)
def O8a (p : f0a) (t : Int) (c : Int) : Bool := decide ((0 ≤ c ∧ c < p.cells.length) ∧ y1a p.cells c = t)
def m1b (p : f0a) (t : Int) (c : Int) : Bool := shQ p c || O8a p t c
def Y2a (e : E) (q : Int → Bool) : Bool := (e.sup 3).all q && (e.sup 2).all q
theorem v9a {cells : List d2a} {a0 : Bool} {e : E} (h : e.valid cells a0 = true) : ∀ x ∈ e.sup 3 ++ e.sup 2, 0 ≤ x ∧ x < cells.length := fun x hx => by
 obtain ⟨e0, b0, d0⟩ := i5a h;rcases List.mem_append.1 hx with hx | hx
 ·have h1 := (S1b e0 (.inr rfl) x).1 hx;have h2 := B5a (.inr rfl) e 40 b0 d0 x h1.2.2;omega
 ·have h1 := (S1b e0 (.inl rfl) x).1 hx;have h2 := B5a (.inl rfl) e 40 b0 d0 x h1.2.2;omega
theorem i8a {e : E} {q : Int → Bool} : Y2a e q = true ↔ ∀ x ∈ e.sup 3 ++ e.sup 2, q x = true := by
 simp only [Y2a, Bool.and_eq_true, List.all_eq_true, List.mem_append];exact ⟨fun h x hx => hx.elim (h.1 x) (h.2 x), fun h => ⟨fun x hx => h x (.inl hx), fun x hx => h x (.inr hx)⟩⟩
theorem a1a.thr {p : f0a} (hp : a1a p) {x : Int} (h0 : 0 ≤ x) (h1 : x < p.cells.length) : -1 ≤ y1a p.cells x := by
 obtain ⟨i, rfl⟩ := Int.eq_ofNat_of_zero_le h0;have hi : i < p.cells.length := by omega
 have := (hp.cells _ (List.getElem_mem hi)).thread;rw [e1a (c := p.cells[i]) (by simp [hi])];omega
theorem r6b {p : f0a} (hp : a1a p) {e : E} {a0 : Bool} (hv : e.valid p.cells a0 = true) (h : J4a p.cells e true (-1)) : Y2a e (shQ p) = true := i8a.2 fun x hx => by
 have h1 := v9a hv x hx;have h2 := h x hx;have h3 := hp.thr h1.1 h1.2;exact decide_eq_true ⟨h1, by omega⟩
theorem G7a {p : f0a} (hp : a1a p) {e : E} {a0 : Bool} {t : Int} (hv : e.valid p.cells a0 = true) (h : J4a p.cells e false t) : Y2a e (O8a p t) = true := i8a.2 fun x hx => by
 have h1 := v9a hv x hx;have h2 := h x hx;have h3 := hp.thr h1.1 h1.2;have h4 : y1a p.cells x ≠ -1 := fun hh => by have := h2.1 hh; cases this
 exact decide_eq_true ⟨h1, by omega⟩
theorem g1b {p : f0a} (hp : a1a p) {e : E} {a0 : Bool} {t : Int} (hv : e.valid p.cells a0 = true) (h : J4a p.cells e true t) : Y2a e (m1b p t) = true := i8a.2 fun x hx => by
 have h1 := v9a hv x hx;have h2 := h x hx;have h3 := hp.thr h1.1 h1.2;unfold m1b shQ O8a;rw [Bool.or_eq_true, decide_eq_true_eq, decide_eq_true_eq];by_cases h5 : y1a p.cells x = -1
 ·exact .inl ⟨h1, h5⟩
 ·exact .inr ⟨h1, by omega⟩
theorem f2a (i n : Int) (w0 : World) : M0a Tryz.prog 119 #[.int .i64 i, .int .i64 n] w0 fun v w' => v = .bool (decide (0 ≤ i ∧ i < n)) ∧ Below w0.heap.size w0 w' := by
 have S := St.refl w0;refine a0a Tryz.func119 rfl Tryz.ntmps119 rfl ?_;refine wB0 rfl ⟨⟩ (fun h6 => ?_) fun h6 => ?_
 ·refine lB0 rfl ⟨⟩ (fun a0 => ?_) fun a0 => ?_
  ·refine lT rfl ⟨⟩ rfl ?_;exact ⟨congrArg Value.bool (by (rw [decide_eq_true]; omega)), S.fin⟩
  refine lT rfl ⟨⟩ rfl ?_;exact ⟨congrArg Value.bool (by (rw [decide_eq_false]; omega)), S.fin⟩
 refine lT rfl ⟨⟩ rfl ?_;exact ⟨congrArg Value.bool (by (rw [decide_eq_false]; omega)), S.fin⟩
theorem r7a (s : ByteArray) (w0 : World) (hs : E6a s) : M0a Tryz.prog 118 #[.string s] w0 fun v w' => v = .bool true ∧ Below w0.heap.size w0 w' := by
 have S := St.refl w0;have h1 := hs.1;have h2 := hs.2.1;refine a0a Tryz.func118 rfl Tryz.ntmps118 rfl ?_;refine wO0 rfl ⟨⟩ (Q0b Tryz.underlying9 rfl rfl ?_);refine lB0 rfl ⟨⟩ (fun h6 => by exfalso; omega) fun h6 => ?_;refine lO0 rfl ⟨⟩ (Q0b Tryz.underlying9 rfl rfl ?_);refine lB0 rfl ⟨⟩ (fun d0 => by exfalso; omega) fun d0 => ?_;refine lO0 rfl ⟨⟩ (Q0b Tryz.underlying9 rfl rfl ?_);refine lC0 rfl ⟨⟩ (wL (fun μk D ε w => D = [] ∧ ∃ k : Nat, (k + μk = (s.size)) ∧ St [] w0 w [] ∧ Sl ε [(0, .string s), (13, .int .i64 s.size), (14, .int .i64 k)]) (μ := (s.size)) ⟨rfl, 0, by omega, S, rfl⟩ ?_);rintro μk D ε w ⟨rfl, k, _, S, eZ⟩;refine wK eZ (wB0 rfl ⟨⟩ (fun e0 => ?_) fun e0 => ?_)
 ·refine lO0 rfl ⟨⟩ ?_;have h3 := hs.2.2 k (by omega);refine I8a Tryz.underlying9 rfl rfl (by omega) (by omega) rfl ?_;refine lB0 rfl ⟨⟩ (fun a0 => by exfalso; simp only [Int.toNat_natCast] at a0; omega) (fun a0 => ?_);refine lO0 rfl ⟨⟩ (I8a Tryz.underlying9 rfl rfl (by omega) (by omega) rfl ?_);refine lB0 rfl ⟨⟩ (fun b0 => by exfalso; simp only [Int.toNat_natCast] at b0; omega) (fun b0 => ?_);refine lP0 rfl ⟨by omega,⟨⟩⟩ ⟨μk - 1, by omega, rfl, (k + 1), (by omega), S, rfl⟩
 exact lT rfl ⟨⟩ rfl ⟨rfl, S.fin⟩
theorem Z6b (e : E) (M : List Nat) (w0 : World) (cs : List Value) (hR : RdE M w0 e cs) : M0a Tryz.prog 121 #[.agg cs.toArray] w0 fun v w' => v = .bool (dec e.absent) ∧ Below w0.heap.size w0 w' := by
 obtain ⟨_, _, _, rfl, hn, _, _, _, _⟩ := hR.cells;have S := St.refl w0;refine a0a Tryz.func121 rfl Tryz.ntmps121 rfl ?_;refine wO0 rfl ⟨⟩ (j0a S (by conv => lhs; whnf) rfl ?_);intro g1 w1 S1 X1 G1;refine lB S1.k [.o 0] rfl ⟨rfl,⟨⟩⟩ (fun h5 => ?_) fun h5 => ?_
 ·refine lB S1.k [.o 0] rfl ⟨rfl,⟨⟩⟩ (fun h9 => ?_) fun h9 => ?_
  ·refine lB S1.k [.o 0] rfl ⟨rfl,⟨⟩⟩ (fun a0 => ?_) fun a0 => ?_
   ·refine lB S1.k [.o 0] rfl ⟨rfl,⟨⟩⟩ (fun b0 => ?_) fun b0 => ?_
    ·exact lT rfl ⟨⟩ rfl ⟨P3a ⟨by omega, by omega, by omega, List.length_eq_zero_iff.1 (by omega)⟩, S1.fin⟩
    refine lT rfl ⟨⟩ rfl ?_;refine ⟨g1a (fun h => ?_), S1.fin⟩; obtain ⟨a1, a2, a3, a4⟩ := h; rw [a4] at hn; simp at hn; omega
   refine lT rfl ⟨⟩ rfl ?_;refine ⟨g1a (fun h => ?_), S1.fin⟩; obtain ⟨a1, a2, a3, a4⟩ := h; rw [a4] at hn; simp at hn; omega
  refine lT rfl ⟨⟩ rfl ?_;refine ⟨g1a (fun h => ?_), S1.fin⟩; obtain ⟨a1, a2, a3, a4⟩ := h; rw [a4] at hn; simp at hn; omega
 refine lT rfl ⟨⟩ rfl ?_;refine ⟨g1a (fun h => ?_), S1.fin⟩; obtain ⟨a1, a2, a3, a4⟩ := h; rw [a4] at hn; simp at hn; omega
theorem k5a (M : List Nat) (w0 : World) (v : Value) (l : List Int) (hR : RdI M w0 v l) (hr : A5a l) : M0a Tryz.prog 124 #[v] w0 fun v w' => v = .bool true ∧ Below w0.heap.size w0 w' := by
 obtain ⟨A, n, c, rfl⟩ := hR.form;obtain ⟨_, _, _⟩ := hR.len;have S := St.refl w0;refine a0a Tryz.func124 rfl Tryz.ntmps124 rfl ?_;refine wC0 rfl ⟨⟩ (wL (fun μk D ε w => D = [] ∧ ∃ k : Nat, (k + μk = max (l.length) 1) ∧ (1 ≤ k) ∧ St [] w0 w [] ∧ Sl ε [(0, .slice A n c), (3, .int .i64 k)]) (μ := (max (l.length) 1 - 1)) ⟨rfl, 1, by omega, by omega, S, rfl⟩ ?_);rintro μk D ε w ⟨rfl, k, _, _, S, eZ⟩;refine wK eZ (wB0 rfl ⟨⟩ (fun h7 => ?_) fun h7 => ?_)
 ·refine lC0 rfl ⟨⟩ (D0a b0a [0, 1, 2, 3, 4, 5, 6, 7, 8, 9] [] [] (by kernel_rfl) rfl (Cl _ _ _ _) (Cl.start S) ?_);obtain ⟨_, i0, s0, _, q0, b0, _, _, e0, f0⟩ := RdS.get (hR) (k) (by omega);obtain ⟨rfl, _⟩ := id f0;obtain ⟨x, j0, t0, _, p0, d0, _, _, a0, g0⟩ := RdS.get (hR) (k - 1) (by omega);obtain ⟨rfl, _⟩ := id g0;have n0 : ((k : Int) - 1).toNat = k - 1 := by omega
  rw [← n0] at a0;have r0 := c9b hr p0 q0 (by omega);refine qB ((S.q.a a0).a e0) [.x i0 s0,.f 0 0,.x j0 t0,.f 1 0] rfl ⟨rfl,⟨d0,by omega⟩,by omega,rfl,⟨b0,by omega⟩,⟨⟩⟩ (fun o0 => by exfalso; omega) fun o0 => ?_;refine qD rfl ⟨⟩ ?_;rintro u0 ⟨h0, _⟩;refine lP0 rfl ⟨by omega,⟨⟩⟩ ⟨μk - 1, by omega, rfl, (k + 1), (by omega), (by omega), h0, rfl⟩
 exact lT rfl ⟨⟩ rfl ⟨rfl, S.fin⟩
theorem m3b (M : List Nat) (w0 : World) (v vf : Value) (l : List Int) (q : Int → Bool) (hR : RdI M w0 v l) (hp : i2a Tryz.prog M w0 vf q) :
 M0a Tryz.prog 160 #[v, vf] w0 fun v w' => (∃ n, v = .int .i64 n ∧ (0 ≤ n ↔ l.any q = true)) ∧ Below w0.heap.size w0 w' := by
 obtain ⟨A, n, c, rfl⟩ := hR.form;obtain ⟨_, _, _⟩ := hR.len;have S := St.refl w0;refine a0a Tryz.func160 rfl Tryz.ntmps160 rfl ?_;refine wC0 rfl ⟨⟩ (wL (fun μk D ε w => D = [] ∧ ∃ k : Nat, (k + μk = (l.length)) ∧ (v1a (l) k (fun x => q x = false)) ∧ St [] w0 w [] ∧ Sl ε [(0, .slice A n c), (1, vf), (7, .int .i64 n), (8, .int .i64 k)]) (μ := (l.length)) ⟨rfl, 0, by omega, v1a.zero, S, rfl⟩ ?_);rintro μk D ε w ⟨rfl, k, _, ha, S, eZ⟩;refine wK eZ (wB0 rfl ⟨⟩ (fun h9 => ?_) fun h9 => ?_)
 ·refine lOn 16 S.k [] rfl ⟨⟩ (m1a (by conv => lhs; whnf) rfl ?_);obtain ⟨x, j0, n0, _, h0, d0, _, _, e0, f0⟩ := RdS.get (hR) (k) (by omega);obtain ⟨rfl, g0⟩ := id f0;refine lO (S.k.a e0) [.x j0 n0,.f 0 0] rfl ⟨rfl,⟨d0,by omega⟩,⟨⟩⟩ (Z1b S (hp.keep (S.keep0 M)) rfl rfl (g0) rfl (fun b0 o0 a0 i0 => ?_) (fun b0 o0 a0 i0 => ?_))
  ·exact lT rfl ⟨⟩ rfl ⟨⟨_, rfl, ⟨fun _ => List.any_eq_true.2 ⟨x, c0a h0, b0⟩, fun _ => by omega⟩⟩, a0.fin⟩
  refine lP0 rfl ⟨by omega,⟨⟩⟩ ⟨μk - 1, by omega, rfl, (k + 1), (by omega), (ha.succ h0 (b0)), a0, rfl⟩
 refine lT rfl ⟨⟩ rfl ?_;refine ⟨⟨_, rfl, ⟨fun h => by omega, fun h => ?_⟩⟩, S.fin⟩; obtain ⟨x, h1, h2⟩ := List.any_eq_true.1 h; rw [ha.all (by omega) x h1] at h2; cases h2
theorem j9a (M : List Nat) (w0 : World) (v vf : Value) (l : List Int) (q : Int → Bool) (hR : RdI M w0 v l) (hp : i2a Tryz.prog M w0 vf q) :
 M0a Tryz.prog 151 #[v, vf] w0 fun v w' => v = .bool (l.any q) ∧ Below w0.heap.size w0 w' := by
 obtain ⟨_, _, _, rfl⟩ := hR.form;have S := St.refl w0;refine a0a Tryz.func151 rfl Tryz.ntmps151 rfl ?_;refine wOn 8 S.k [] rfl ⟨⟩ (m1a (by conv => lhs; whnf) rfl ?_);refine B0a S d4c rfl rfl (m3b M _ _ _ l q (hR.keep (S.keep0 M)) (hp.keep (S.keep0 M))) ?_;rintro v7 w7 ⟨_, rfl, hm⟩ S7 X7;refine lB0 rfl ⟨⟩ (fun h8 => ?_) fun h8 => ?_
 ·refine lR0 rfl ⟨⟩ (q0a rfl (by conv => lhs; whnf) ?_);exact ⟨by rw [hm.1 (by omega)], S7.fin⟩
 refine lT rfl ⟨⟩ rfl ?_;refine ⟨congrArg Value.bool ?_, S7.fin⟩; cases hq : l.any q with | false => rfl | true => exact absurd (hm.2 hq) (by omega)
theorem F7b (g : Nat) (c : Int) (M : List Nat) (w0 : World) (vf : Value) (q : Int → Bool) (hc : w0.cell? ⟨g, 0, none⟩ = some vf) (hp : i2a Tryz.prog M w0 vf q) (hi : i64 c) :
 M0a Tryz.prog 152 #[.int .i64 c, .pointer (some ⟨g, 0, none⟩)] w0 fun v w' => v = .bool (!q c) ∧ Below w0.heap.size w0 w' := by
 have S := St.refl w0;refine a0a Tryz.func152 rfl Tryz.ntmps152 rfl ?_;refine wO0 rfl ⟨⟩ (s0a W8a rfl (by first | exact S.old hc) rfl ?_);refine lO0 rfl ⟨⟩ (Z1b S (hp.keep (S.keep0 M)) rfl rfl (hi) rfl (fun h6 w6 S6 X6 => ?_) (fun h6 w6 S6 X6 => ?_))
 ·refine lR0 rfl ⟨⟩ (q0a rfl (by conv => lhs; whnf) ?_);exact ⟨by rw [h6], S6.fin⟩
 refine lR0 rfl ⟨⟩ (q0a rfl (by conv => lhs; whnf) ?_);exact ⟨by rw [h6], S6.fin⟩
theorem U0a {M : List Nat} {w : World} {g : Nat} (hM : ∀ g ∈ M, g < w.heap.size) (h : w.heap.size ≤ g ∨ g ∈ ([] : List Nat)) : g ∉ M := fun hh => by
 rcases h with h | h
 ·have := hM g hh; omega
 ·cases h
theorem L5a (M : List Nat) (w0 : World) (v vf : Value) (l : List Int) (q : Int → Bool) (hR : RdI M w0 v l) (hp : i2a Tryz.prog M w0 vf q) (hM : ∀ g ∈ M, g < w0.heap.size) :
 M0a Tryz.prog 125 #[v, vf] w0 fun v w' => v = .bool (l.all q) ∧ Below w0.heap.size w0 w' := by
 obtain ⟨_, _, c, rfl⟩ := hR.form;obtain ⟨_, _, _, rfl, _, _⟩ := id hp;have S := St.refl w0;refine a0a Tryz.func125 rfl Tryz.ntmps125 rfl ?_;refine wO0 rfl ⟨⟩ (q6a S (v := .func _ _ _) rfl rfl rfl ?_);intro g3 w3 S3 X3 G3;refine lO0 rfl ⟨⟩ (F1a rfl rfl ?_);refine y0a S3 E5c rfl rfl (j9a M _ _ _ l (fun c => !q c) (hR.keep (S3.keep0 M)) ⟨152, #[], _, rfl, X5c, fun w' hk c hc => F7b g3 c M w' _ q (hk.cell (a := ⟨g3, 0, none⟩) (U0a hM (S3.new 0 rfl)) (S3.cell 0 rfl rfl)) (hp.keep ((S3.keep0 M).trans hk)) hc⟩) (fun h7 w7 S7 X7 => ?_) (fun h7 w7 S7 X7 => ?_)
 ·refine lT rfl ⟨⟩ rfl ⟨congrArg Value.bool ?_, S7.fin⟩;have h8 : l.all q = !(l.any fun c => !q c) := by simp [List.all_eq_not_any_not]
  rw [h8, h7] <;> rfl
 refine lT rfl ⟨⟩ rfl ⟨congrArg Value.bool ?_, S7.fin⟩;have h8 : l.all q = !(l.any fun c => !q c) := by simp [List.all_eq_not_any_not]
 rw [h8, h7] <;> rfl
theorem F4a (p : f0a) (M : List Nat) (w0 : World) (cs : List Value) (c : Int) (hP : k1a M w0 p cs) :
 M0a Tryz.prog 123 #[.agg cs.toArray, .int .i64 c] w0 fun v w' => v = .bool (shQ p c) ∧ Below w0.heap.size w0 w' := by
 obtain ⟨_, _, _, _, _, _, _, _, _, _, _, _, rfl, hC, _, _, _, _, _, _, _, _, _, _, _⟩ := hP.open_;have S := St.refl w0;refine a0a Tryz.func123 rfl Tryz.ntmps123 rfl ?_;refine wO0 rfl ⟨⟩ (j0a S (by conv => lhs; whnf) rfl ?_);intro g2 w2 S2 X2 G2;refine lO S2.k [.o 0] rfl ⟨rfl,⟨⟩⟩ (y0a S2 R2a rfl rfl (f2a _ _ _) (fun b0 o0 a0 h0 => ?_) (fun b0 o0 a0 h0 => ?_))
 ·have p0 := of_decide_eq_true b0;obtain ⟨x, i0, n0, _, g0, d0, _, _, e0, f0⟩ := RdS.get (hC) (c.toNat) (by omega);obtain ⟨rfl, _, _, _, _⟩ := Z2a.open_ f0;refine lB (a0.k.a e0) [.o 0,.x i0 n0,.f 0 3] rfl ⟨rfl,⟨d0,by omega⟩,rfl,⟨⟩⟩ (fun j0 => ?_) fun j0 => ?_
  ·refine lT rfl ⟨⟩ rfl ⟨congrArg Value.bool ?_, a0.fin⟩;unfold shQ;rw [decide_eq_true]; exact ⟨by omega, by rw [e1a g0]; omega⟩
  refine lT rfl ⟨⟩ rfl ⟨congrArg Value.bool ?_, a0.fin⟩;unfold shQ;rw [decide_eq_false]; intro hh; rw [e1a g0] at hh; omega
 refine lT rfl ⟨⟩ rfl ⟨congrArg Value.bool ?_, a0.fin⟩;unfold shQ;rw [decide_eq_false]; intro hh; have := of_decide_eq_false b0; omega
theorem u3a {p : f0a} {M : List Nat} {w : World} {cs : List Value} (hP : k1a M w p cs) : i2a Tryz.prog M w (.func (.func 123) #[.agg cs.toArray] #[]) (shQ p) :=
 ⟨_, _, _, rfl, w9a, fun w' hk c _ => F4a p M w' cs c (hP.keep hk)⟩
theorem W3c (p : f0a) (t c : Int) (g g' : Nat) (M : List Nat) (w0 : World) (cs : List Value) (hP : k1a M w0 p cs) (hg : i1a w0 g 0 cs) (o0 : w0.cell? ⟨g', 0, none⟩ = some (.int .i64 t)) :
 M0a Tryz.prog 161 #[.int .i64 c, .pointer (some ⟨g, 0, none⟩), .pointer (some ⟨g', 0, none⟩)] w0 fun v w' => v = .bool (O8a p t c) ∧ Below w0.heap.size w0 w' := by
 obtain ⟨_, _, _, _, _, _, _, _, _, _, _, _, rfl, hC, _, _, _, _, _, _, _, _, _, _, _⟩ := hP.open_;have S := St.refl w0;refine a0a Tryz.func161 rfl Tryz.ntmps161 rfl ?_;refine wC0 rfl ⟨⟩ (D0a b0a [0, 1, 2, 3, 4, 5, 6, 7, 8, 9, 10, 11, 12, 13, 14, 15, 16, 17] [] [] (by kernel_rfl) rfl (Cl _ _ _ _) (Cl.start S) ?_);refine qO0 rfl ⟨⟩ (h0a J9a rfl (fun w1 hw => by exact hw.1.old (hg _ _ rfl)) rfl ?_);refine qO0 rfl ⟨⟩ (X1a R2a rfl rfl (fun w1 S1 X1 => f2a _ _ _) (fun b0 => ?_) fun b0 => ?_)
 ·refine qO0 rfl ⟨⟩ (h0a J9a rfl (fun w1 hw => by exact hw.1.old (hg _ _ rfl)) rfl ?_);have q0 := of_decide_eq_true b0;obtain ⟨x, j0, p0, _, h0, d0, _, _, e0, f0⟩ := RdS.get (hC) (c.toNat) (by omega);obtain ⟨rfl, _, _, _, _⟩ := Z2a.open_ f0;refine qO (S.q.a e0) [.x j0 p0,.f 0 3] rfl ⟨rfl,⟨d0,by omega⟩,⟨⟩⟩ (h0a C0a rfl (fun w1 hw => by exact hw.1.old o0) rfl ?_);refine qB0 rfl ⟨⟩ (fun n0 => ?_) fun n0 => ?_
  ·refine qD rfl ⟨⟩ ?_;rintro i0 ⟨a0, g0⟩;refine lT rfl ⟨⟩ rfl ⟨congrArg Value.bool ?_, a0.fin⟩;unfold O8a;rw [decide_eq_true]; exact ⟨by omega, by rw [e1a h0]; omega⟩
  refine qD rfl ⟨⟩ ?_;rintro i0 ⟨a0, g0⟩;refine lT rfl ⟨⟩ rfl ⟨congrArg Value.bool ?_, a0.fin⟩;unfold O8a;rw [decide_eq_false]; intro hh; rw [e1a h0] at hh; omega
 refine qD rfl ⟨⟩ ?_;rintro i0 ⟨a0, g0⟩;refine lT rfl ⟨⟩ rfl ⟨congrArg Value.bool ?_, a0.fin⟩;unfold O8a;rw [decide_eq_false]; intro hh; have := of_decide_eq_false b0; omega
theorem x1b (p : f0a) (t : Int) (M : List Nat) (w0 : World) (cs : List Value) (hP : k1a M w0 p cs) (hM : ∀ g ∈ M, g < w0.heap.size) :
 M0a Tryz.prog 153 #[.agg cs.toArray, .int .i64 t] w0 fun v w' => i2a Tryz.prog M w' v (O8a p t) ∧ Below w0.heap.size w0 w' := by
 obtain ⟨_, _, _, _, _, _, _, _, _, _, _, _, rfl, _, _, _, _, _, _, _, _, _, _, _, _⟩ := hP.open_;have S := St.refl w0;refine a0a Tryz.func153 rfl Tryz.ntmps153 rfl ?_;refine wO0 rfl ⟨⟩ (j0a S (by conv => lhs; whnf) rfl ?_);intro g2 w2 S2 X2 G2;refine q6a S2 (v := .int .i64 _) rfl rfl rfl ?_;intro g3 w3 S3 X3 G3;refine lO0 rfl ⟨⟩ (F1a rfl rfl ?_);exact lT rfl ⟨⟩ rfl ⟨⟨_, _, _, rfl, N3c, fun w' hk c _ => W3c p t c g2 g3 M w' _ (hP.keep ((S3.keep0 M).trans hk)) ((S3.cells 1 rfl).keep hk (U0a hM (S3.new 1 rfl))) (hk.cell (a := ⟨g3, 0, none⟩) (U0a hM (S3.new 0 rfl)) (S3.cell 0 rfl rfl))⟩, S3.fin⟩
theorem Z4b (p : f0a) (t c : Int) (g g' : Nat) (M : List Nat) (w0 : World) (cs : List Value) (vf : Value) (hP : k1a M w0 p cs) (hg : i1a w0 g 0 cs) (e0 : w0.cell? ⟨g', 0, none⟩ = some vf) (hp : i2a Tryz.prog M w0 vf (O8a p t)) (hc : i64 c) :
 M0a Tryz.prog 154 #[.int .i64 c, .pointer (some ⟨g, 0, none⟩), .pointer (some ⟨g', 0, none⟩)] w0 fun v w' => v = .bool (m1b p t c) ∧ Below w0.heap.size w0 w' := by
 obtain ⟨_, _, _, _, _, _, _, _, _, _, _, _, rfl, _, _, _, _, _, _, _, _, _, _, _, _⟩ := hP.open_;have S := St.refl w0;refine a0a Tryz.func154 rfl Tryz.ntmps154 rfl ?_;refine wO0 rfl ⟨⟩ ?_
 first | refine x1a i1b rfl ((fun j v hj => S.old (hg j v hj))) (by rfl) rfl ?_
 refine lO0 rfl ⟨⟩ (y0a S w9a rfl rfl (F4a p M _ _ _ (hP.keep (S.keep0 M))) (fun h7 w7 S7 X7 => ?_) (fun h7 w7 S7 X7 => ?_))
 ·refine lT rfl ⟨⟩ rfl ⟨congrArg Value.bool ?_, S7.fin⟩;unfold m1b;rw [h7] <;> rfl
 refine lO0 rfl ⟨⟩ (s0a W8a rfl (by first | exact S7.old e0) rfl ?_);refine lO0 rfl ⟨⟩ (Z1b S7 (hp.keep (S7.keep0 M)) rfl rfl (hc) rfl (fun b0 f0 a0 d0 => ?_) (fun b0 f0 a0 d0 => ?_))
 ·refine lT rfl ⟨⟩ rfl ⟨congrArg Value.bool ?_, a0.fin⟩;unfold m1b;rw [h7, b0] <;> rfl
 refine lT rfl ⟨⟩ rfl ⟨congrArg Value.bool ?_, a0.fin⟩;unfold m1b;rw [h7, b0] <;> rfl
theorem x6a (p : f0a) (t : Int) (M : List Nat) (w0 : World) (cs : List Value) (hP : k1a M w0 p cs) (hM : ∀ g ∈ M, g < w0.heap.size) :
 M0a Tryz.prog 127 #[.agg cs.toArray, .int .i64 t] w0 fun v w' => i2a Tryz.prog M w' v (m1b p t) ∧ Below w0.heap.size w0 w' := by
 obtain ⟨_, _, _, _, _, _, _, _, _, _, _, _, rfl, _, _, _, _, _, _, _, _, _, _, _, _⟩ := hP.open_;have S := St.refl w0;refine a0a Tryz.func127 rfl Tryz.ntmps127 rfl ?_;refine wO0 rfl ⟨⟩ (j0a S (by conv => lhs; whnf) rfl ?_);intro g2 w2 S2 X2 G2;refine lO S2.k [.w 0] rfl ⟨⟨rfl,by rfl⟩,⟨⟩⟩ ?_;refine B0a S2 b2b rfl rfl (x1b p t M _ _ (hP.keep (S2.keep0 M)) (fun g hg => by have := hM g hg; have := S2.size; omega)) ?_;rintro v8 w8 d0 S8 X8;obtain ⟨_, _, _, rfl, _, _⟩ := id d0;refine n0a S8 b3c rfl rfl ?_;intro g5 w5 S5 X5 G5;refine I0a (kk := 0) S5 p3c rfl (by conv => lhs; whnf) rfl rfl (by exact Nat.le_of_ble_eq_true rfl) ?_;intro e0 a0 b0;refine lO0 rfl ⟨⟩ (F1a rfl rfl ?_);exact lT rfl ⟨⟩ rfl ⟨⟨_, _, _, rfl, a5c, fun w' hk c hc => Z4b p t c g2 g5 M w' _ _ (hP.keep ((a0.keep0 M).trans hk)) ((a0.cells 1 rfl).keep hk (U0a hM (a0.new 1 rfl))) (hk.cell (a := ⟨g5, 0, none⟩) (U0a hM (a0.new 0 rfl)) (a0.cell 0 rfl rfl)) (d0.keep ((w0a.fresh X5 b0 G5).of_nil.trans hk)) hc⟩, a0.fin⟩
theorem f6a (e : E) (M : List Nat) (w0 : World) (es : List Value) (vf : Value) (q : Int → Bool) (hR : RdE M w0 e es) (hp : i2a Tryz.prog M w0 vf q) (hK : a3a M w0) (hM : ∀ g ∈ M, g < w0.heap.size) :
 M0a Tryz.prog 130 #[.agg es.toArray, vf] w0 fun v w' => v = .bool (Y2a e q) ∧ Below w0.heap.size w0 w' := by
 obtain ⟨_, _, _, rfl, _, _, _, _, _⟩ := hR.cells;obtain ⟨_, _, _, rfl, _, _⟩ := id hp;have S := St.refl w0;have g0 : ∀ w' : World, w0.heap.size ≤ w'.heap.size → ∀ g ∈ M, g < w'.heap.size := fun w' h g hg => by have := hM g hg; omega
 refine a0a Tryz.func130 rfl Tryz.ntmps130 rfl ?_;refine wO0 rfl ⟨⟩ (j0a S (by conv => lhs; whnf) rfl ?_);intro g2 w2 S2 X2 G2;refine lO S2.k [.w 0] rfl ⟨⟨rfl,by rfl⟩,⟨⟩⟩ (B0a S2 t5c rfl rfl (x3b e M _ _ (RdE.keep (S2.keep0 M) _ _ hR) (hK.keep (S2.keep0 M)) (g0 _ S2.size)) ?_);rintro v9 w9 ⟨_, _, rfl, ra, rb⟩ S9 X9;obtain ⟨_, _, _, rfl⟩ := ra.form;obtain ⟨_, _, _, rfl⟩ := rb.form;refine lOn 10 S9.k [] rfl ⟨⟩ (m1a (by conv => lhs; whnf) rfl ?_);refine y0a S9 k8a rfl rfl (L5a M _ _ _ _ q ra (hp.keep (S9.keep0 M)) (g0 _ S9.size)) (fun b0 i0 a0 e0 => ?_) (fun b0 i0 a0 e0 => ?_)
 ·replace ra := ra.keep (e0.of_nil);replace rb := rb.keep (e0.of_nil);refine lOn 2 a0.k [] rfl ⟨⟩ (V3b rfl rfl rfl ?_);refine m1a (by conv => lhs; whnf) rfl ?_;refine lO0 rfl ⟨⟩ (y0a a0 k8a rfl rfl (L5a M _ _ _ _ q rb (hp.keep (a0.keep0 M)) (g0 _ a0.size)) (fun f0 j0 d0 h0 => ?_) (fun f0 j0 d0 h0 => ?_))
  ·replace ra := ra.keep (h0.of_nil);refine lT rfl ⟨⟩ rfl ⟨congrArg Value.bool ?_, d0.fin⟩;unfold Y2a;rw [b0, f0] <;> rfl
  refine lT rfl ⟨⟩ rfl ⟨congrArg Value.bool ?_, d0.fin⟩;unfold Y2a;rw [b0, f0] <;> rfl
 refine lT rfl ⟨⟩ rfl ⟨congrArg Value.bool ?_, a0.fin⟩;unfold Y2a;rw [b0] <;> rfl
theorem y9a (p : f0a) (e : E) (M : List Nat) (w0 : World) (cs es : List Value) (a0 : Bool) (vf : Value) (q : Int → Bool) (hP : k1a M w0 p cs) (hR : RdE M w0 e es) (hp : i2a Tryz.prog M w0 vf q) (hK : a3a M w0) (hM : ∀ g ∈ M, g < w0.heap.size)
 (hw : e.w = 1) (hv : e.valid p.cells a0 = true) (hs : Y2a e q = true) :
 M0a Tryz.prog 122 #[.agg cs.toArray, .agg es.toArray, .bool a0, vf] w0 fun v w' => v = .bool true ∧ Below w0.heap.size w0 w' := by
 obtain ⟨_, _, _, _, _, _, _, _, _, _, _, _, rfl, hC, _, _, _, _, _, _, _, _, _, _, _⟩ := hP.open_;obtain ⟨_, _, _, rfl, _, _, _, _, _⟩ := hR.cells;obtain ⟨_, _, _, rfl, _, _⟩ := id hp;have S := St.refl w0;have f0 : ∀ w' : World, w0.heap.size ≤ w'.heap.size → ∀ g ∈ M, g < w'.heap.size := fun w' h g hg => by have := hM g hg; omega
 refine a0a Tryz.func122 rfl Tryz.ntmps122 rfl ?_;refine wO0 rfl ⟨⟩ (j0a S (by conv => lhs; whnf) rfl ?_);intro g4 w4 S4 X4 G4;refine j0a S4 (by conv => lhs; whnf) rfl ?_;intro g5 w5 S5 X5 G5;refine lB S5.k [.o 0] rfl ⟨rfl,⟨⟩⟩ (fun e0 => ?_) (fun e0 => by exfalso; omega);refine lO S5.k [.w 0,.o 1] rfl ⟨rfl,⟨rfl,by rfl⟩,⟨⟩⟩ (g0a S5 R6a rfl rfl (hv ▸ K2a e M _ _ _ p.cells a0 (RdE.keep (S5.keep0 M) _ _ hR) (hC.keep (S5.keep0 M)) (hK.keep (S5.keep0 M))) ?_);intro i0 b0 g0;refine lOn 3 b0.k [.w 0] rfl ⟨⟨rfl,by rfl⟩,⟨⟩⟩ (V3b rfl rfl rfl ?_);refine m1a (by conv => lhs; whnf) rfl ?_;refine lO0 rfl ⟨⟩ (g0a b0 n8a rfl rfl (hs ▸ f6a e M _ _ _ q (RdE.keep (b0.keep0 M) _ _ hR) (hp.keep (b0.keep0 M)) (hK.keep (b0.keep0 M)) (f0 _ b0.size)) ?_);intro j0 d0 h0;exact lT rfl ⟨⟩ rfl ⟨rfl, d0.fin⟩
theorem x5a (p : f0a) (M : List Nat) (w0 : World) (cs : List Value) (c : Int) (hP : k1a M w0 p cs) (h0 : 0 ≤ c) (h1 : c < p.cells.length) :
 M0a Tryz.prog 174 #[.agg cs.toArray, .int .i64 c] w0 fun v w' => v = .bool (n0b p.cells c) ∧ Below w0.heap.size w0 w' := by
 obtain ⟨_, _, _, _, _, _, _, _, _, _, _, _, rfl, hC, _, _, _, _, _, _, _, _, _, _, _⟩ := hP.open_;have S := St.refl w0;refine a0a Tryz.func174 rfl Tryz.ntmps174 rfl ?_;refine wO0 rfl ⟨⟩ (j0a S (by conv => lhs; whnf) rfl ?_);intro g2 w2 S2 X2 G2;obtain ⟨x, b9, p9, _, e0, a0, _, _, b0, d0⟩ := RdS.get (hC) (c.toNat) (by omega);obtain ⟨rfl, _, _, _, _⟩ := Z2a.open_ d0;refine lR (S2.k.a b0) [.o 0,.x b9 p9,.f 0 4] rfl ⟨rfl,⟨a0,by omega⟩,rfl,⟨⟩⟩ (q0a rfl (by conv => lhs; whnf) ?_);exact ⟨by rw [C2a e0], S2.fin⟩
theorem c5a (n : Nat) : N4a n = ((2 ^ n : Nat) : Int) := by
 induction n with
 | zero => rfl
 | succ n ih => simp only [N4a, ih, Nat.pow_succ]; omega
theorem N6b (a : Int) (h0 : 0 ≤ a) (h1 : a < 9223372036854775808) : IntKind.i64.wrap a = a := by
 unfold IntKind.wrap;have hm : a % (2 ^ IntKind.i64.bits : Int) = a := Int.emod_eq_of_lt h0 (by simp [IntKind.bits]; omega);simp only [hm];rw [if_neg];simp [IntKind.bits, IntKind.signed]; omega
theorem M9a (a : Int) (n : Nat) (hn : n ≤ 62) : e4b a (N4a n - 1) = a % N4a n := by
 have h2 : (2 : Nat) ^ n ≤ 2 ^ 62 := Nat.pow_le_pow_right (by omega) hn;have d0 : 0 < (2 : Nat) ^ n := Nat.pow_pos (by omega);rw [c5a];have e1 : (((2 ^ n : Nat) : Int) - 1) = ((2 ^ n - 1 : Nat) : Int) := by omega
 have key : (BitVec.ofInt 64 a &&& BitVec.ofInt 64 (((2 ^ n : Nat) : Int) - 1)).toNat = (a % ((2 ^ n : Nat) : Int)).toNat := by
  rw [BitVec.toNat_and, e1, BitVec.ofInt_natCast, BitVec.toNat_ofNat, BitVec.toNat_ofInt];rw [Nat.mod_eq_of_lt (show 2 ^ n - 1 < 2 ^ 64 by omega), Nat.and_two_pow_sub_one_eq_mod];have hd : ((2 ^ n : Nat) : Int) ∣ ((2 ^ 64 : Nat) : Int) := Int.natCast_dvd_natCast.2 (Nat.pow_dvd_pow 2 (by omega));have b0 : 0 ≤ a % ((2 ^ 64 : Nat) : Int) := Int.emod_nonneg _ (by decide);have a0 : 0 ≤ a % ((2 ^ n : Nat) : Int) := Int.emod_nonneg _ (by omega);have : (((a % ((2 ^ 64 : Nat) : Int)).toNat % 2 ^ n : Nat) : Int) = ((a % ((2 ^ n : Nat) : Int)).toNat : Int) := by
   rw [Int.natCast_emod, Int.toNat_of_nonneg b0, Int.toNat_of_nonneg a0, Int.emod_emod_of_dvd _ hd]
  omega
 have hb : e4b a (((2 ^ n : Nat) : Int) - 1) = IntKind.i64.wrap ((BitVec.ofInt 64 a &&& BitVec.ofInt 64 (((2 ^ n : Nat) : Int) - 1)).toNat : Int) := rfl;rw [hb, key];have a0 : 0 ≤ a % ((2 ^ n : Nat) : Int) := Int.emod_nonneg _ (by omega);have e0 : a % ((2 ^ n : Nat) : Int) < ((2 ^ n : Nat) : Int) := Int.emod_lt_of_pos _ (by omega);rw [Int.toNat_of_nonneg a0];exact N6b _ a0 (by omega)
theorem a1a.thread {p : f0a} (hp : a1a p) {k : Nat} {x : Q0a} (hx : p.threads[k]? = some x) : Y5a p k x := by
 obtain ⟨h, rfl⟩ := List.getElem?_eq_some_iff.1 hx;exact hp.threads k h
theorem P1c {a : Int} (h0 : 0 ≤ a) (h1 : a < 18446744073709551616) : IntKind.u64.wrap a = a := by
 unfold IntKind.wrap;have hm : a % (2 ^ IntKind.u64.bits : Int) = a := Int.emod_eq_of_lt h0 (by simp [IntKind.bits]; omega);simp only [hm];rw [if_neg];simp [IntKind.bits, IntKind.signed]
def E4a (l : List Value) : List (Value × Value) := l.map fun x => (x, .agg #[])
theorem X7a (l : List Value) (x : Value) : E4a (l ++ [x]) = E4a l ++ [(x, .agg #[])] := by simp [E4a]
theorem I4a {l : List Value} {x : Value} (h : x ∉ l) : ∀ y ∈ E4a l, y.1 ≠ x := fun y hy e => by
 obtain ⟨_, hz, rfl⟩ := List.mem_map.1 hy;simp only at e;subst e;exact h hz
theorem W3a {α : Type} {l : List α} {k : Nat} {x : α} {f : α → Value} (hp : l.Pairwise fun a b => f a ≠ f b) (hx : l[k]? = some x) : f x ∉ (l.take k).map f := fun hm => by
 obtain ⟨_, hy, he⟩ := List.mem_map.1 hm;obtain ⟨j, _, rfl⟩ := List.mem_take_iff_getElem.1 hy;obtain ⟨hk, rfl⟩ := List.getElem?_eq_some_iff.1 hx;exact (List.pairwise_iff_getElem.1 hp) j k _ hk (by omega) he
theorem p7b (p : f0a) (M : List Nat) (w0 : World) (cs : List Value) (hP : k1a M w0 p cs) (hp : a1a p) :
 M0a Tryz.prog 96 #[.agg cs.toArray] w0 fun v w' => v = .tuple #[.int .i64 0, .int .i64 (-1)] ∧ Below w0.heap.size w0 w' := by
 obtain ⟨Ac, nc, cc, Am, nm, cm, Al, nl, cl, At, nt, ct, rfl, _, _, _, x0, _, _, _, _, _, _, _, _⟩ := hP.open_;have S := St.refl w0;have q1 := hp.ncells;have q2 := hp.nmodules;have q3 := hp.nlocks;have q4 := hp.nthreads;refine a0a Tryz.func96 rfl Tryz.ntmps96 rfl ?_;refine wO0 rfl ⟨⟩ (j0a S (by conv => lhs; whnf) rfl ?_);intro g1 w1 S1 X1 G1;refine lO S1.k [.w 0] rfl ⟨⟨rfl,rfl⟩,⟨⟩⟩ (n0a S1 m4c rfl rfl ?_);intro g4 w4 S4 X4 G4;refine e0a (kk := 0) (vs := [_, _, _, _]) S4 K4c rfl rfl rfl rfl rfl rfl rfl ?_;intro A0 a0 i0;dsimp only [k0a, List.set] at a0;refine lB a0.k [.o 0] rfl ⟨rfl,⟨⟩⟩ (fun o0 => by exfalso; omega) fun o0 => ?_;refine lB a0.k [.o 0] rfl ⟨rfl,⟨⟩⟩ (fun p0 => by exfalso; omega) fun p0 => ?_;refine lB a0.k [.o 0] rfl ⟨rfl,⟨⟩⟩ (fun q0 => by exfalso; omega) fun q0 => ?_;refine lB a0.k [.o 0] rfl ⟨rfl,⟨⟩⟩ (fun r0 => by exfalso; omega) fun r0 => ?_;refine lC a0.k [.o 0] rfl ⟨rfl,⟨⟩⟩ (wL (fun μk D ε w => D = [] ∧ ∃ k : Nat, (k + μk = (p.threads.length)) ∧ St [] w0 w [(some g4, 27, [.slice Ac nc cc, .slice Am nm cm, .slice Al nl cl, .slice At nt ct]), (some g1, 154, [.slice Ac nc cc, .slice Am nm cm, .slice Al nl cl, .slice At nt ct])] ∧ Sl ε [(32, .slice At nt ct), (33, .int .i64 nt), (34, .int .i64 k)]) (μ := (p.threads.length)) ⟨rfl, 0, by omega, a0, rfl⟩ ?_);rintro μk D ε w ⟨rfl, k, _, S, eZ⟩;refine wK eZ (wB0 rfl ⟨⟩ (fun s0 => ?_) fun s0 => ?_)
 ·obtain ⟨x, n0, z0, _, y0, d0, _, f0, e0, g0⟩ := RdS.get (x0) (k) (by omega);obtain ⟨_, _, _, _, _, _, _, _, _, _, _, _, rfl, _, _, _, _, _, _, _, _, _, _, _, _, _⟩ := N0a.open_ g0;have h0 := hp.thread y0;have q5 := h0.points;have q6 := h0.nsteps;have q7 := h0.nloops;refine lO (S.k.a e0) [.x n0 z0,.v 0] rfl ⟨⟨rfl,f0⟩,⟨d0,by omega⟩,⟨⟩⟩ (n0a S Y2b rfl rfl ?_);intro g6 w6 S6 X6 G6;refine lO0 rfl ⟨⟩ (e0a (kk := 0) (vs := [_, _, _, _, _, _, _]) S6 k3b rfl rfl rfl rfl rfl rfl rfl ?_);intro B0 b0 j0;dsimp only [k0a, List.set] at b0;refine lB b0.k [.o 0] rfl ⟨rfl,⟨⟩⟩ (fun t0 => by exfalso; omega) fun t0 => ?_;refine lB b0.k [.o 0] rfl ⟨rfl,⟨⟩⟩ (fun u0 => by exfalso; omega) fun u0 => ?_;refine lB b0.k [.o 0] rfl ⟨rfl,⟨⟩⟩ (fun v0 => by exfalso; omega) fun v0 => ?_;refine lP0 rfl ⟨by omega,⟨⟩⟩ ⟨μk - 1, by omega, rfl, (k + 1), (by omega), b0.tail, rfl⟩
 exact lT2 rfl ⟨⟩ rfl ⟨rfl, S.fin⟩
theorem R8a (b : Nat) (l : List Value) (s : ByteArray) (w0 : World) (hm : v2a Tryz.prog 9 w0 b (E4a l)) (hs : s.size ≤ 140737488355328) (b0 : Value.string s ∉ l) :
 M0a Tryz.prog 120 #[.map (some b), .string s] w0 fun v w' => v = .bool false ∧ v0a [b] w0 w' ∧ v2a Tryz.prog 9 w' b (E4a (l ++ [.string s])) := by
 have S := St.reflM [b] w0;have hk : keyOf Tryz.prog 9 (.string s) = some (.string s.data.toList) := Go.WideMaps.keyOf_string_mk Tryz.underlying9 (by unfold maxLen; omega);refine a0a Tryz.func120 rfl Tryz.ntmps120 rfl ?_;refine wO0 rfl ⟨⟩ (Q9a (Go.Maps.string_keyed Tryz.underlying9) Tryz.underlying158 v0b hm rfl rfl hk rfl (fun v hv => absurd rfl (I4a b0 _ hv)) (fun _ => ?_));refine lO0 rfl ⟨⟩ (n0a S v0b rfl rfl ?_);intro g5 w5 S5 X5 G5;replace hm := hm.keep X5 (List.not_mem_nil)
 first | refine e0a (kk := 0) (vs := []) S5 N7b rfl rfl rfl rfl rfl rfl rfl ?_
 intro e0 a0 d0;dsimp only [k0a, List.set] at a0;replace hm := hm.keep d0 (fun hh => by rw [List.mem_singleton] at hh; first | exact hm.ne (S5.blk 0 rfl) hh);refine lO0 rfl ⟨⟩ (j1a T3b (vs := []) (cs := []) rfl rfl rfl rfl ?_);refine s7a a0 (Go.Maps.string_keyed Tryz.underlying9) Tryz.underlying158 hm rfl rfl rfl hk (I4a b0) (.inr (by simp)) ?_;intro wm Sm Xm Mm;refine lT rfl ⟨⟩ rfl ?_;exact ⟨rfl, Sm.below, by rw [X7a]; exact Mm⟩
theorem U7b (p : f0a) (M : List Nat) (w0 : World) (cs : List Value) (hP : k1a M w0 p cs) (hp : a1a p) :
 M0a Tryz.prog 97 #[.agg cs.toArray] w0 fun v w' => v = .int .i64 0 ∧ Below w0.heap.size w0 w' := by
 obtain ⟨Ac, nc, cc, Am, nm, cm, Al, nl, cl, At, nt, ct, rfl, hC, _, _, _, _, _, _, _, _, _, _, _⟩ := hP.open_;have S := St.refl w0;have g0 : p.cells.Pairwise fun a b => Value.string a.name ≠ .string b.name := hp.cellNames.imp fun h e => h (by injection e);refine a0a Tryz.func97 rfl Tryz.ntmps97 rfl ?_;refine wO0 rfl ⟨⟩ (j0a S (by conv => lhs; whnf) rfl ?_);intro g1 w1 S1 X1 G1;refine lO0 rfl ⟨⟩ (e4a (k := 9) S1 rfl ?_);intro g6 w6 S6 X6 G6 a0;have y0 : w0.heap.size ≤ g6 := by have := S1.size; omega
 refine lC S6.k [.o 0] rfl ⟨rfl,⟨⟩⟩ (wL (fun μk D ε w => D = [] ∧ ∃ k : Nat, (k + μk = (p.cells.length)) ∧ (v2a Tryz.prog 9 w g6 (E4a ((p.cells.take k).map fun c => .string c.name))) ∧ St [] w0 w [(some g1, 154, [.slice Ac nc cc, .slice Am nm cm, .slice Al nl cl, .slice At nt ct])] ∧ Sl ε [(1, .pointer (some ⟨g1, 0, none⟩)), (3, .map (some g6)), (9, .slice Ac nc cc), (10, .int .i64 nc), (11, .int .i64 k)]) (μ := (p.cells.length)) ⟨rfl, 0, by omega, (by simpa [E4a] using a0), S6, rfl⟩ ?_);rintro μk D ε w ⟨rfl, k, _, a0, S, eZ⟩;refine wK eZ (wB0 rfl ⟨⟩ (fun D0 => ?_) fun D0 => ?_)
 ·obtain ⟨x, C0, H0, _, h0, r0, _, t0, s0, u0⟩ := RdS.get (hC) (k) (by omega);obtain ⟨rfl, _, _, _, _⟩ := Z2a.open_ u0;have q1 := hp.cells x (c0a h0);have q2 := q1.w;have q3 := q1.init;have q4 := q1.thread;refine lO (S.k.a s0) [.x C0 H0,.v 0] rfl ⟨⟨rfl,t0⟩,⟨r0,by omega⟩,⟨⟩⟩ (n0a S u9b rfl rfl ?_);intro g5 w5 S5 X5 G5;replace a0 := a0.keep X5 (List.not_mem_nil);refine e0a (kk := 0) (vs := [_, _, _, _, _, _]) S5 j0c rfl rfl rfl rfl rfl rfl rfl ?_;intro J0 b0 p0;dsimp only [k0a, List.set] at b0;replace a0 := a0.keep p0 (fun hh => by rw [List.mem_singleton] at hh; exact a0.ne (S5.blk 0 rfl) hh);refine lO b0.k [.o 0] rfl ⟨rfl,⟨⟩⟩ (g0a b0 u1b rfl rfl (r7a _ _ q1.name) ?_);intro N0 i0 z0;replace a0 := a0.keep z0 (List.not_mem_nil);refine lB i0.k [.o 0] rfl ⟨rfl,⟨⟩⟩ (fun E0 => by exfalso; omega) fun E0 => ?_;refine lB i0.k [.o 0] rfl ⟨rfl,⟨⟩⟩ (fun F0 => by exfalso; omega) fun F0 => ?_;refine lO i0.k [.o 0,.o 0] rfl ⟨rfl,rfl,⟨⟩⟩ (u0c Tryz.underlying3 Tryz.underlying125 rfl rfl ?_);rw [P1c (by omega) (by omega), show x.w = ((x.w.toNat : Nat) : Int) by omega];refine v4c (n := x.w.toNat) rfl (by rfl) (by omega) rfl ?_;refine g0a i0 R2a rfl rfl ((show decide (0 ≤ x.init ∧ x.init < ((2 ^ x.w.toNat : Nat) : Int)) = true from decide_eq_true (by rw [← c5a]; exact q3)) ▸ f2a _ _ _) ?_;intro O0 e0 A0;replace a0 := a0.keep A0 (List.not_mem_nil);refine lB e0.k [.o 0] rfl ⟨rfl,⟨⟩⟩ (fun G0 => ?_) fun G0 => ?_
  ·refine lO e0.k [.o 0,.o 1] rfl ⟨rfl,rfl,⟨⟩⟩ (g0a e0 R2a rfl rfl ((show decide (0 ≤ x.thread ∧ x.thread < (nt : Int)) = true from decide_eq_true (by omega)) ▸ f2a _ _ _) ?_);intro P0 x0 B0;replace a0 := a0.keep B0 (List.not_mem_nil);refine lO x0.k [.o 0,.o 1] rfl ⟨rfl,rfl,⟨⟩⟩ ?_;refine g0a x0 R2a rfl rfl ((show decide (0 ≤ x.module_ ∧ x.module_ < (nm : Int)) = true from decide_eq_true (by have := q1.mod; unfold t2a at this; omega)) ▸ f2a _ _ _) ?_;intro K0 f0 q0;replace a0 := a0.keep q0 (List.not_mem_nil);refine lO f0.k [.o 0] rfl ⟨rfl,⟨⟩⟩ ?_;have d0 := W3a g0 h0;have v0 : x.name.size ≤ 140737488355328 := by have := q1.name.2.1; omega
   refine e2a c2b rfl rfl (R8a g6 _ x.name _ a0 v0 d0) ?_;rintro I0 L0 ⟨rfl, j0, n0⟩;have o0 := f0.turned a0 (.inl y0) j0;refine lP0 rfl ⟨by omega,⟨⟩⟩ ?_;refine ⟨μk - 1, by omega, rfl, (k + 1), (by omega), ((by rw [J0a h0, List.map_append]; exact n0)), o0.tail, rfl⟩
  refine lO e0.k [.o 0,.o 1] rfl ⟨rfl,rfl,⟨⟩⟩ ?_;refine g0a e0 R2a rfl rfl ((show decide (0 ≤ x.module_ ∧ x.module_ < (nm : Int)) = true from decide_eq_true (by have := q1.mod; unfold t2a at this; omega)) ▸ f2a _ _ _) ?_;intro K0 f0 q0;replace a0 := a0.keep q0 (List.not_mem_nil);refine lO f0.k [.o 0] rfl ⟨rfl,⟨⟩⟩ ?_;have d0 := W3a g0 h0;have v0 : x.name.size ≤ 140737488355328 := by have := q1.name.2.1; omega
  refine e2a c2b rfl rfl (R8a g6 _ x.name _ a0 v0 d0) ?_;rintro I0 L0 ⟨rfl, j0, n0⟩;have o0 := f0.turned a0 (.inl y0) j0;refine lP0 rfl ⟨by omega,⟨⟩⟩ ?_;refine ⟨μk - 1, by omega, rfl, (k + 1), (by omega), ((by rw [J0a h0, List.map_append]; exact n0)), o0.tail, rfl⟩
 exact lT rfl ⟨⟩ rfl ⟨rfl, S.fin⟩
theorem f4b (p : f0a) (M : List Nat) (w0 : World) (cs : List Value) (hP : k1a M w0 p cs) (hp : a1a p) (hK : a3a M w0) (hM : ∀ g ∈ M, g < w0.heap.size) :
 M0a Tryz.prog 98 #[.agg cs.toArray] w0 fun v w' => v = .int .i64 0 ∧ Below w0.heap.size w0 w' := by
 obtain ⟨Ac, nc, cc, Am, nm, cm, Al, nl, cl, At, nt, ct, rfl, _, P0, _, _, _, _, _, _, _, _, _, _⟩ := hP.open_;have S := St.refl w0;have n0 : ∀ w' : World, w0.heap.size ≤ w'.heap.size → ∀ g ∈ M, g < w'.heap.size := fun w' h g hg => by have := hM g hg; omega
 have A0 : p.modules.Pairwise fun a b => Value.string a.name ≠ .string b.name := hp.moduleNames.imp fun h e => h (by injection e);refine a0a Tryz.func98 rfl Tryz.ntmps98 rfl ?_;refine wO0 rfl ⟨⟩ (j0a S (by conv => lhs; whnf) rfl ?_);intro g1 w1 S1 X1 G1;refine lO0 rfl ⟨⟩ (e4a (k := 9) S1 rfl ?_);intro g6 w6 S6 X6 G6 a0;have Q0 : w0.heap.size ≤ g6 := by have := S1.size; omega
 refine lC S6.k [.o 0] rfl ⟨rfl,⟨⟩⟩ (wL (fun μk D ε w => D = [] ∧ ∃ k : Nat, (k + μk = (p.modules.length)) ∧ (v2a Tryz.prog 9 w g6 (E4a ((p.modules.take k).map fun c => .string c.name))) ∧ St [] w0 w [(some g1, 154, [.slice Ac nc cc, .slice Am nm cm, .slice Al nl cl, .slice At nt ct])] ∧ Sl ε [(1, .pointer (some ⟨g1, 0, none⟩)), (3, .map (some g6)), (9, .slice Am nm cm), (10, .int .i64 nm), (11, .int .i64 k)]) (μ := (p.modules.length)) ⟨rfl, 0, by omega, (by simpa [E4a] using a0), S6, rfl⟩ ?_);rintro μk D ε w ⟨rfl, k, _, a0, S, eZ⟩;refine wK eZ (wB0 rfl ⟨⟩ (fun O0 => ?_) fun O0 => ?_)
 ·obtain ⟨x, N0, S0, _, p0, y0, _, B0, z0, D0⟩ := RdS.get (P0) (k) (by omega);obtain ⟨_, _, _, _, _, _, _, _, _, rfl, o0, j0, e0, _, _⟩ := u1a.open_ D0;have q1 := hp.modules x (c0a p0);refine lO (S.k.a z0) [.x N0 S0,.v 0] rfl ⟨⟨rfl,B0⟩,⟨y0,by omega⟩,⟨⟩⟩ (n0a S V7b rfl rfl ?_);intro g5 w5 S5 X5 G5;replace a0 := a0.keep X5 (List.not_mem_nil);refine e0a (kk := 0) (vs := [_, _, _, _, _, _, _, _, _, _, _]) S5 o9b rfl rfl rfl rfl rfl rfl rfl ?_;intro V0 i0 u0;dsimp only [k0a, List.set] at i0;replace a0 := a0.keep u0 (fun hh => by rw [List.mem_singleton] at hh; exact a0.ne (S5.blk 0 rfl) hh);refine lO i0.k [.o 0] rfl ⟨rfl,⟨⟩⟩ (g0a i0 u1b rfl rfl (r7a _ _ q1.name) ?_);intro Z0 E0 J0;replace a0 := a0.keep J0 (List.not_mem_nil);refine lO E0.k [.o 0] rfl ⟨rfl,⟨⟩⟩ (g0a E0 u1b rfl rfl (r7a _ _ q1.owner) ?_);intro a1 F0 K0;replace a0 := a0.keep K0 (List.not_mem_nil);refine lO F0.k [.o 0] rfl ⟨rfl,⟨⟩⟩ ?_;have C0 := W3a A0 p0;have R0 : x.name.size ≤ 140737488355328 := by have := q1.name.2.1; omega
  refine e2a c2b rfl rfl (R8a g6 _ x.name _ a0 R0 C0) ?_;rintro Y0 b1 ⟨rfl, H0, I0⟩;have q0 := F0.turned a0 (.inl Q0) H0;clear a0;have a0 := I0;refine lO q0.k [.o 0] rfl ⟨rfl,⟨⟩⟩ (y0a q0 j4c rfl rfl (Z6b x.rely M _ _ (RdE.keep (q0.keep0 M) _ _ o0)) (fun G0 T0 b0 s0 => ?_) (fun G0 T0 b0 s0 => ?_))
  ·replace a0 := a0.keep s0 (List.not_mem_nil);refine lO b0.k [.w 1,.o 0,.w 1] rfl ⟨⟨rfl,rfl⟩,rfl,⟨rfl,rfl⟩,⟨⟩⟩ (g2a rfl rfl rfl ?_);refine g0a b0 g9a rfl rfl (y9a p x.guar M _ _ _ true _ (shQ p) (hP.keep (b0.keep0 M)) (RdE.keep (b0.keep0 M) _ _ j0) (u3a (hP.keep (b0.keep0 M))) (hK.keep (b0.keep0 M)) (n0 _ b0.size) q1.guar.2.1 q1.guar.1 (r6b hp q1.guar.1 q1.guar.2.2)) ?_;intro U0 h0 t0;replace a0 := a0.keep t0 (List.not_mem_nil);refine lO h0.k [.o 0] rfl ⟨rfl,⟨⟩⟩ (g0a h0 T4b rfl rfl (k5a M _ _ _ (e0.keep (h0.keep0 M)) q1.up) ?_);intro W0 d0 v0;replace a0 := a0.keep v0 (List.not_mem_nil);refine lO d0.k [.o 0,.w 1] rfl ⟨⟨rfl,rfl⟩,rfl,⟨⟩⟩ (g2a rfl rfl rfl ?_);refine g0a d0 k8a rfl rfl ((show x.frame.all (shQ p) = true from List.all_eq_true.2 fun z hz => decide_eq_true (q1.frame z hz)) ▸ L5a M _ _ _ x.frame (shQ p) (e0.keep (d0.keep0 M)) (u3a (hP.keep (d0.keep0 M))) (n0 _ d0.size)) ?_;intro X0 r0 x0;replace a0 := a0.keep x0 (List.not_mem_nil);refine lP0 rfl ⟨by omega,⟨⟩⟩ ?_;refine ⟨μk - 1, by omega, rfl, (k + 1), (by omega), ((by rw [J0a p0, List.map_append]; exact a0)), r0.tail, rfl⟩
  replace a0 := a0.keep s0 (List.not_mem_nil);refine lO b0.k [.w 1,.o 0,.w 1] rfl ⟨⟨rfl,rfl⟩,rfl,⟨rfl,rfl⟩,⟨⟩⟩ (g2a rfl rfl rfl ?_);refine lO0 rfl ⟨⟩ ?_;have f0 := q1.rely.resolve_left (G1a G0);refine g0a b0 g9a rfl rfl (y9a p x.rely M _ _ _ true _ (shQ p) (hP.keep (b0.keep0 M)) (RdE.keep (b0.keep0 M) _ _ o0) (u3a (hP.keep (b0.keep0 M))) (hK.keep (b0.keep0 M)) (n0 _ b0.size) f0.2.1 f0.1 (r6b hp f0.1 f0.2.2)) ?_;intro d1 g0 L0;replace a0 := a0.keep L0 (List.not_mem_nil);refine lO g0.k [.w 1,.o 0,.w 1] rfl ⟨⟨rfl,rfl⟩,rfl,⟨rfl,rfl⟩,⟨⟩⟩ (g2a rfl rfl rfl ?_);refine g0a g0 g9a rfl rfl (y9a p x.guar M _ _ _ true _ (shQ p) (hP.keep (g0.keep0 M)) (RdE.keep (g0.keep0 M) _ _ j0) (u3a (hP.keep (g0.keep0 M))) (hK.keep (g0.keep0 M)) (n0 _ g0.size) q1.guar.2.1 q1.guar.1 (r6b hp q1.guar.1 q1.guar.2.2)) ?_;intro U0 h0 t0;replace a0 := a0.keep t0 (List.not_mem_nil);refine lO h0.k [.o 0] rfl ⟨rfl,⟨⟩⟩ (g0a h0 T4b rfl rfl (k5a M _ _ _ (e0.keep (h0.keep0 M)) q1.up) ?_);intro W0 d0 v0;replace a0 := a0.keep v0 (List.not_mem_nil);refine lO d0.k [.o 0,.w 1] rfl ⟨⟨rfl,rfl⟩,rfl,⟨⟩⟩ (g2a rfl rfl rfl ?_);refine g0a d0 k8a rfl rfl ((show x.frame.all (shQ p) = true from List.all_eq_true.2 fun z hz => decide_eq_true (q1.frame z hz)) ▸ L5a M _ _ _ x.frame (shQ p) (e0.keep (d0.keep0 M)) (u3a (hP.keep (d0.keep0 M))) (n0 _ d0.size)) ?_;intro X0 r0 x0;replace a0 := a0.keep x0 (List.not_mem_nil);refine lP0 rfl ⟨by omega,⟨⟩⟩ ?_;refine ⟨μk - 1, by omega, rfl, (k + 1), (by omega), ((by rw [J0a p0, List.map_append]; exact a0)), r0.tail, rfl⟩
 exact lT rfl ⟨⟩ rfl ⟨rfl, S.fin⟩
theorem Z2c {x : Int} (h : i64 x) : keyOf Tryz.prog 3 (.int .i64 x) = some (.int .i64 x) := Go.Maps.keyOf_int_mk Tryz.underlying3 (by unfold i64 at h; simp [Lit.wf, IntKind.min, IntKind.max, IntKind.signed, IntKind.bits]; omega)
theorem j8b (p : f0a) (M : List Nat) (w0 : World) (cs : List Value) (hP : k1a M w0 p cs) (hp : a1a p) (hK : a3a M w0) (hM : ∀ g ∈ M, g < w0.heap.size) :
 M0a Tryz.prog 99 #[.agg cs.toArray] w0 fun v w' => v = .int .i64 0 ∧ Below w0.heap.size w0 w' := by
 obtain ⟨Ac, nc, cc, Am, nm, cm, Al, nl, cl, At, nt, ct, rfl, hC, _, O0, _, _, _, _, _, _, _, _, _⟩ := hP.open_;have S := St.refl w0;have P0 : ∀ w' : World, w0.heap.size ≤ w'.heap.size → ∀ g ∈ M, g < w'.heap.size := fun w' h g hg => by have := hM g hg; omega
 have t0 : p.locks.Pairwise fun a b => Value.int .i64 a.cell ≠ .int .i64 b.cell := hp.lockCells.imp fun h e => h (by injection e);refine a0a Tryz.func99 rfl Tryz.ntmps99 rfl ?_;refine wO0 rfl ⟨⟩ (j0a S (by conv => lhs; whnf) rfl ?_);intro g1 w1 S1 X1 G1;refine lO0 rfl ⟨⟩ (e4a (k := 3) S1 rfl ?_);intro g8 w8 S8 X8 G8 a0;have Q0 : w0.heap.size ≤ g8 := by have := S1.size; omega
 refine lC S8.k [.o 0] rfl ⟨rfl,⟨⟩⟩ (wL (fun μk D ε w => D = [] ∧ ∃ k : Nat, (k + μk = (p.locks.length)) ∧ (v2a Tryz.prog 3 w g8 (E4a ((p.locks.take k).map fun c => .int .i64 c.cell))) ∧ St [] w0 w [(some g1, 154, [.slice Ac nc cc, .slice Am nm cm, .slice Al nl cl, .slice At nt ct])] ∧ Sl ε [(1, .pointer (some ⟨g1, 0, none⟩)), (3, .map (some g8)), (11, .slice Al nl cl), (12, .int .i64 nl), (13, .int .i64 k)]) (μ := (p.locks.length)) ⟨rfl, 0, by omega, (by simpa [E4a] using a0), S8, rfl⟩ ?_);rintro μk D ε w ⟨rfl, k, _, a0, S, eZ⟩;refine wK eZ (wB0 rfl ⟨⟩ (fun L0 => ?_) fun L0 => ?_)
 ·obtain ⟨x, I0, R0, _, B0, j0, _, u0, q0, v0⟩ := RdS.get (O0) (k) (by omega);obtain ⟨_, _, _, rfl, C0, _, p0⟩ := R4a.open_ v0;have q1 := hp.locks x (c0a B0);have q2 := q1.cell;have q3 := q2.1;unfold t2a at q3;refine lO (S.k.a q0) [.x I0 R0,.v 0] rfl ⟨⟨rfl,u0⟩,⟨j0,by omega⟩,⟨⟩⟩ (n0a S U9b rfl rfl ?_);intro g5 w5 S5 X5 G5;replace a0 := a0.keep X5 (List.not_mem_nil);refine e0a (kk := 0) (vs := [_, _, _, _, _, _]) S5 k0c rfl rfl rfl rfl rfl rfl rfl ?_;intro U0 b0 h0;dsimp only [k0a, List.set] at b0;replace a0 := a0.keep h0 (fun hh => by rw [List.mem_singleton] at hh; exact a0.ne (S5.blk 0 rfl) hh);refine lO b0.k [.w 1,.o 0] rfl ⟨rfl,⟨rfl,rfl⟩,⟨⟩⟩ (g0a b0 w9a rfl rfl ((show shQ p x.cell = true from decide_eq_true ⟨q3, q2.2.1⟩) ▸ F4a p M _ _ _ (hP.keep (b0.keep0 M))) ?_);intro W0 e0 F0;replace a0 := a0.keep F0 (List.not_mem_nil);obtain ⟨c, J0, S0, _, A0, n0, _, _, r0, x0⟩ := RdS.get (hC) (x.cell.toNat) (by omega);obtain ⟨rfl, _, _, _, _⟩ := Z2a.open_ x0;have q4 := q2.2.2.1;rw [E5a q3.1 A0] at q4;refine lB (e0.k.a r0) [.o 1,.o 0,.x J0 S0,.f 0 1] rfl ⟨rfl,⟨n0,by omega⟩,rfl,rfl,⟨⟩⟩ (fun N0 => by exfalso; omega) fun N0 => ?_;obtain ⟨_, K0, T0, _, z0, o0, _, _, s0, y0⟩ := RdS.get (hC) (x.cell.toNat) (by omega);obtain rfl := Option.some.inj (A0.symm.trans z0);obtain ⟨rfl, _, _, _, _⟩ := Z2a.open_ y0;refine lO e0.k [.o 1,.o 0,.x K0 T0] rfl ⟨⟨o0,by omega⟩,rfl,rfl,⟨⟩⟩ ?_;refine s0a A2a rfl (v := .bool false) (by have h4 := e0.old (s0 4 _ rfl); rw [← C2a A0, q2.2.2.2] at h4; exact h4) rfl ?_;refine lO e0.k [.o 0] rfl ⟨rfl,⟨⟩⟩ ?_;have f0 := Z2c C0;have g0 := W3a t0 B0;refine Q9a (Go.Maps.int_keyed Tryz.underlying3) Tryz.underlying183 v0b a0 rfl rfl f0 rfl (fun v hv => absurd rfl (I4a g0 _ hv)) (fun _ => ?_);refine lO0 rfl ⟨⟩ (n0a e0 v0b rfl rfl ?_);intro g6 w6 S6 X6 G6;replace a0 := a0.keep X6 (List.not_mem_nil);refine e0a (kk := 0) (vs := []) S6 N7b rfl rfl rfl rfl rfl rfl rfl ?_;intro V0 d0 i0;dsimp only [k0a, List.set] at d0;replace a0 := a0.keep i0 (fun hh => by rw [List.mem_singleton] at hh; exact a0.ne (S6.blk 0 rfl) hh);refine lO d0.k [.o 1,.o 2] rfl ⟨rfl,rfl,⟨⟩⟩ ?_;refine g0a d0 R2a rfl rfl ((show decide (0 ≤ x.module_ ∧ x.module_ < (nm : Int)) = true from decide_eq_true (by have := q1.mod; unfold t2a at this; omega)) ▸ f2a _ _ _) ?_;intro X0 D0 G0;replace a0 := a0.keep G0 (List.not_mem_nil);refine lO D0.k [.o 1] rfl ⟨rfl,⟨⟩⟩ (j1a T3b (vs := []) (cs := []) rfl rfl rfl rfl ?_);refine s7a (key := .int .i64 x.cell) (v := .agg #[]) D0 (Go.Maps.int_keyed Tryz.underlying3) Tryz.underlying183 a0 rfl rfl rfl f0 (I4a g0) (.inl Q0) ?_;intro wm Sm Xm Mm;clear a0;have a0 := Mm;refine lO Sm.k [.w 2,.o 1,.w 2] rfl ⟨⟨rfl,rfl⟩,rfl,⟨rfl,rfl⟩,⟨⟩⟩ (g2a rfl rfl rfl ?_);refine g0a Sm g9a rfl rfl (y9a p x.inv M _ _ _ false _ (shQ p) (hP.keep (Sm.keep0 M)) (RdE.keep (Sm.keep0 M) _ _ p0) (u3a (hP.keep (Sm.keep0 M))) (hK.keep (Sm.keep0 M)) (P0 _ Sm.size) q1.inv.2.1 q1.inv.1 (r6b hp q1.inv.1 q1.inv.2.2)) ?_;intro Y0 E0 H0;replace a0 := a0.keep H0 (List.not_mem_nil);refine lP0 rfl ⟨by omega,⟨⟩⟩ ?_;refine ⟨μk - 1, by omega, rfl, (k + 1), (by omega), ((by rw [J0a B0, List.map_append, List.map_singleton, X7a]; exact a0)), E0.tail.tail, rfl⟩
 exact lT rfl ⟨⟩ rfl ⟨rfl, S.fin⟩
section
variable {P : Program} {r : Option Nat} {N : Nat} {l : List Oper} {D : List Deferred} {C : World → Prop} {K : List Deferred → Env → World → Prop}
def C2b (l : List Oper) (pur : Nat → Bool) (m : Nat) : Bool :=
 m4a l && ((List.range l.length).all fun i => (d1a l i).all fun j => decide (j < i)) && ((List.range m).all fun i => (List.range i).all fun j => (R3a l i).contains j || C8a l pur j i) && ((List.range m).all fun j => (R3a l m).contains j) && decide (l.length = m + 1)
abbrev Y9c {M : List Nat} {w0 w : World} {L : List Ent} (_ : St M w0 w L) : World → Prop := Cl M w0 w L
def V6a (m : Nat) (f : Nat → Bool) : List Nat := (List.range m).filter fun i => !f i
theorem k9a {m : Nat} (f : Nat → Bool) {i : Nat} (hi : i < m) (hf : f i = false) : ∃ b0 a0, V6a m f = b0 ++ i :: a0 ∧ V6a m (fun j => f j || j == i) = b0 ++ a0 ∧ ∀ j ∈ b0, j < i ∧ f j = false := by
 have hr : List.range m = List.range i ++ i :: (List.range' (i + 1) (m - (i + 1))) := by
  have h1 : m = i + (m - i) := by omega
  have h2 : m - i = (m - (i + 1)) + 1 := by omega
  rw [List.range_eq_range', List.range_eq_range', show List.range' 0 m = List.range' 0 (i + ((m - (i + 1)) + 1)) by rw [← h2, ← h1], ← List.range'_append_1];simp [List.range'_succ]
 refine ⟨(List.range i).filter fun j => !f j, (List.range' (i + 1) (m - (i + 1))).filter fun j => !f j, ?_, ?_, ?_⟩
 ·unfold V6a; rw [hr, List.filter_append, List.filter_cons]; simp [hf]
 ·unfold V6a; rw [hr, List.filter_append, List.filter_cons];simp only [beq_self_eq_true, Bool.or_true, Bool.not_true, Bool.false_eq_true, if_false]
  congr 1
  ·apply List.filter_congr; intro j hj; have := List.mem_range.1 hj; have : (j == i) = false := by simp; omega
   simp [this]
  ·apply List.filter_congr; intro j hj; have := List.mem_range'.1 hj; have : (j == i) = false := by simp; omega
   simp [this]
 ·intro j hj; rw [List.mem_filter] at hj; exact ⟨List.mem_range.1 hj.1, by simpa using hj.2⟩
theorem g0b {id : Nat} {n t : List Deferred → Env → World → Prop} {b : Nat → List Deferred → Env → World → Prop} {e : Env} {w : World} (hm : P.follows .mixedOrders = true) (pur : Nat → Bool) (ix : List Nat)
 (m : Nat) (i0 : C2b l pur m = true) (B0 : (List.range m == ix) = true) (C : World → Prop) (ol : Oper) (D0 : l[m]? = some ol)
 (h : WM P r N l C pur (fun D e w => WL P r N l.toArray [ol] (fun D' e' w' => D' = D ∧ n D e' w') D e w) D ix e w.drew) : W P r N (.region id l.toArray true) ⟨n, b, t⟩ D e w := by
 obtain rfl : List.range m = ix := eq_of_beq B0;generalize q0 : (fun (D : List Deferred) (e : Env) (w : World) => WL P r N l.toArray [ol] (fun D' e' w' => D' = D ∧ n D e' w') D e w) = K' at h;unfold C2b at i0;simp only [Bool.and_eq_true, decide_eq_true_eq] at i0;obtain ⟨⟨⟨⟨t0, x0⟩, A0⟩, g0⟩, _⟩ := i0;have s0 : ∀ j, j < m → j ∈ R3a l m := fun j hj => by
  have := List.all_eq_true.1 g0 j (List.mem_range.2 hj);simpa using this
 have hz : (∀ i, N ≤ i → e i = undef) → W P r N (.region id l.toArray true) ⟨n, b, t⟩ D e w := by
  intro hz;refine t0c hm x0 (fun f e w => (∀ i, N ≤ i → e i = undef) ∧ (∀ i, f i = true → ∀ j ∈ d1a l i, f j = true) ∧ ((f m = false ∧ WM P r N l C pur K' D (V6a m f) e w) ∨ (f m = true ∧ n D e w))) ⟨hz, by simp, .inl ⟨rfl, ?_⟩⟩ ?_ ?_
  ·have : V6a m (fun _ => false) = List.range m := by unfold V6a; simp
   rw [this]; exact h
  ·rintro f e w i o ⟨hz, f0, hM⟩ ho h0 j0;have y0 : i < l.length := (List.getElem?_eq_some_iff.1 ho).1;have a0 : ∀ k, (f k || k == i) = true → ∀ j ∈ d1a l k, (f j || j == i) = true := by
    intro k hk j hj;simp only [Bool.or_eq_true, beq_iff_eq] at hk ⊢;rcases hk with hk | rfl
    ·exact .inl (f0 k hk j hj)
    ·exact .inl (j0 j hj)
   rcases hM with ⟨d0, hM⟩ | ⟨d0, -⟩
   rotate_left
   ·have := c3a f0 l.length (d1a l m) (f0 m d0) i (s0 i (by
     rcases Nat.lt_or_ge i m with h | h
     ·exact h
     ·have : i = m := by omega
      subst this; rw [h0] at d0; cases d0))
    rw [h0] at this; cases this
   by_cases z0 : i = m
   ·subst z0;obtain rfl : ol = o := Option.some.inj (D0.symm.trans ho);have b0 : ∀ j, j < i → f j = true := fun j hj => c3a f0 _ _ j0 j (s0 j hj);have n0 : V6a i f = [] := by
     unfold V6a; rw [List.filter_eq_nil_iff]; intro j hj; simp [b0 j (List.mem_range.1 hj)]
    rw [n0] at hM;have h4 := hM.2;rw [← q0] at h4;clear hM h q0;unfold WL at *;refine fun a Q hs hD he hK => h4 a Q hs hD he (fun a' w' o0 hh => hK a' w' o0 ?_);refine ⟨hh.1, fun j hj => ?_, a0, .inr ⟨by simp, hh.2⟩⟩;simp only [P0a, Array.getD_eq_getD_getElem?]; rw [Array.getElem?_eq_none (by omega)]; rfl
   have r0 : i < m := by omega
   have e0 : (f m || m == i) = false := by simp [d0]; omega
   obtain ⟨G0, _, h1, h2, h3⟩ := k9a (m := m) f r0 h0;rw [h1] at hM;have F0 : ∀ j ∈ R3a l i, f j = true := c3a f0 _ _ j0;obtain ⟨o', _, C0, hd, hN, h4⟩ := WM.first t0 G0 e w (fun j hj => by
    have := List.all_eq_true.1 (List.all_eq_true.1 A0 i (List.mem_range.2 r0)) j (List.mem_range.2 (h3 j hj).1);simp only [Bool.or_eq_true, List.contains_eq_mem, decide_eq_true_eq] at this;rcases this with h | h
    ·have := F0 j h; rw [(h3 j hj).2] at this; cases this
    ·exact h) hz hM
   obtain rfl : o' = o := Option.some.inj (C0.symm.trans ho);rcases h4 with ⟨E0, v, hv, h4⟩ | ⟨E0, h4⟩
   ·have u0 := hM.inC;rcases hv with ⟨hw, hv⟩ | ⟨hw, rfl⟩
    ·unfold WL; intro a Q hs hD he hK;simp only [wpListIn];have p0 : Region.wanted o' (yielded l.toArray a.tmps) = true := by rw [h1a, he]; exact hw
     simp only [p0, if_true];refine ⟨u0a _ _ _, ?_⟩;rw [Oper.semAt_eq _ _ _ (z0a t0 ho).2, c2a, he, hv w u0, Oper.uponIn_value];refine hK _ _ (by simp [Act.put, hd, hs]) ⟨by simp [Act.put, hd, hD], ?_⟩;rw [hd, W0a v (by rw [hs]; exact hN), he];exact ⟨I1a hN hz, a0, .inl ⟨e0, by rw [h2]; exact h4⟩⟩
    ·unfold WL; intro a Q hs hD he hK;simp only [wpListIn];have p0 : Region.wanted o' (yielded l.toArray a.tmps) = false := by rw [h1a, he]; exact hw
     simp only [p0];refine ⟨u0a _ _ _, ?_⟩;refine hK _ _ (by simp [Act.put, hd, hs]) ⟨by simp [Act.put, hd, hD], ?_⟩;rw [hd, W0a undef (by rw [hs]; exact hN), he];exact ⟨I1a hN hz, a0, .inl ⟨e0, by rw [h2]; exact h4⟩⟩
   ·unfold WL at *;refine fun a Q hs hD he hK => h4 a Q hs hD he (fun a' w' o0 hh => hK a' w' o0 ?_);obtain ⟨v0, v, hv, h5⟩ := hh;exact ⟨v0, by rw [hv]; exact I1a hN hz, a0, .inl ⟨e0, by rw [h2]; exact h5⟩⟩
  ·rintro f e w ⟨hz, f0, hM⟩ b0;rcases hM with ⟨d0, -⟩ | ⟨-, hM⟩
   ·have := b0 m (by omega); rw [d0] at this; cases this
   ·exact hM
 unfold W at *;intro a hs hd he;refine hz (fun i hi => ?_) a hs hd he;rw [← he]; simp only [P0a, Array.getD_eq_getD_getElem?]; rw [Array.getElem?_eq_none (by omega)]; rfl
end
theorem RdS.dropped {α : Type} {M : List Nat} {w : World} {size b o n c : Nat} {R : List Value → α → Prop} {l : List α} (h : RdS M w size R (.slice (some ⟨b, o, none⟩) n c) l) (lo : Nat) (b0 : lo ≤ n) :
 RdS M w size R (.slice (some (if c = lo then ⟨b, o, none⟩ else ⟨b, o + lo * size, none⟩)) (n - lo) (c - lo)) (l.drop lo) := by
 obtain ⟨_, _, _, _, h5⟩ := h.at;refine ⟨_, _, _, rfl, by simp; omega, by omega, by omega, by omega, fun h0 => ?_⟩;obtain ⟨_, _, hA, hb, a0⟩ := h5 (by omega);cases hA;rw [if_neg (by omega)];refine ⟨b, o + lo * size, rfl, hb, fun i x hx => ?_⟩;rw [List.getElem?_drop] at hx;obtain ⟨cs, h6, h7, h8⟩ := a0 _ x hx;refine ⟨cs, h6, ?_, h8⟩;rw [Nat.add_mul, ← Nat.add_assoc] at h7;exact h7
theorem Y7a (s : t1a) (M : List Nat) (w0 : World) (ss : List Value) (vf : Value) (q : Int → Bool) (hS : n2a M w0 ss s) (hp : i2a Tryz.prog M w0 vf q) (hK : a3a M w0) (hM : ∀ g ∈ M, g < w0.heap.size)
 (hg : Y2a s.guard q = true) (hs : ∀ a ∈ s.set, Y2a a.to q = true) :
 M0a Tryz.prog 172 #[.agg ss.toArray, vf] w0 fun v w' => v = .bool true ∧ Below w0.heap.size w0 w' := by
 obtain ⟨Ag, ng, cg, As, ns, j0, rfl, ⟨_, _, _, _, _⟩, hG, e0, _, _⟩ := hS.open_;obtain ⟨f, first, caps, rfl, _, _⟩ := id hp;have S := St.refl w0;have n0 : ∀ w' : World, w0.heap.size ≤ w'.heap.size → ∀ g ∈ M, g < w'.heap.size := fun w' h g hg => by have := hM g hg; omega
 refine a0a Tryz.func172 rfl Tryz.ntmps172 rfl ?_;refine wO0 rfl ⟨⟩ (j0a S (by conv => lhs; whnf) rfl ?_);intro g2 w2 S2 X2 G2;refine lOn 8 S2.k [.o 0] rfl ⟨rfl,⟨⟩⟩ (m1a (by conv => lhs; whnf) rfl ?_);refine g0a S2 n8a rfl rfl (hg ▸ f6a _ M _ _ _ q (RdE.keep (S2.keep0 M) _ _ hG) (hp.keep (S2.keep0 M)) (hK.keep (S2.keep0 M)) (n0 _ S2.size)) ?_;intro y0 i0 v0;refine lC i0.k [.o 0] rfl ⟨rfl,⟨⟩⟩ (wL (fun μk D ε w => D = [] ∧ ∃ k : Nat, (k + μk = (s.set.length)) ∧ St [] w0 w [(some g2, 90, [.int .i64 s.kind, .int .i64 s.frm, .int .i64 s.to, .int .i64 s.guard.op, .int .i64 s.guard.w, .int .i64 s.guard.n, .slice Ag ng cg, .slice As ns j0, .bool s.release, .int .i64 s.target, .int .i64 s.module_])] ∧ Sl ε [(1, .func (.func f) first caps), (13, .slice As ns j0), (14, .int .i64 ns), (15, .int .i64 k)]) (μ := (s.set.length)) ⟨rfl, 0, by omega, i0, rfl⟩ ?_);rintro μk D ε w ⟨rfl, k, _, S, eZ⟩;refine wK eZ (wB0 rfl ⟨⟩ (fun r0 => ?_) fun r0 => ?_)
 ·obtain ⟨a, q0, t0, _, s0, b0, _, g0, f0, h0⟩ := RdS.get (e0) (k) (by omega);obtain ⟨_, _, _, rfl, _, d0⟩ := R0a.open_ h0;refine lO (S.k.a f0) [.x q0 t0,.v 0] rfl ⟨⟨rfl,g0⟩,⟨b0,by omega⟩,⟨⟩⟩ (n0a S q2b rfl rfl ?_);intro g6 w6 S6 X6 G6;refine e0a (kk := 0) (vs := [_, _, _, _, _]) S6 Q2b rfl rfl rfl rfl rfl rfl rfl ?_;intro u0 a0 p0;dsimp only [k0a, List.set] at a0;refine lO a0.k [.o 0] rfl ⟨rfl,⟨⟩⟩ (g0a a0 n8a rfl rfl ((hs a (c0a s0)) ▸ f6a _ M _ _ _ q (RdE.keep (a0.keep0 M) _ _ d0) (hp.keep (a0.keep0 M)) (hK.keep (a0.keep0 M)) (n0 _ a0.size)) ?_);intro z0 o0 x0;refine lP0 rfl ⟨by omega,⟨⟩⟩ ⟨μk - 1, by omega, rfl, (k + 1), (by omega), o0.tail, rfl⟩
 exact lT rfl ⟨⟩ rfl ⟨rfl, S.fin⟩
theorem p9a (l : List E1a) (M : List Nat) (w0 : World) (v vf : Value) (q : Int → Bool) (hS : m5c M w0 v l) (hp : i2a Tryz.prog M w0 vf q) (hs : ∀ a ∈ l, q a.cell = true) :
 M0a Tryz.prog 173 #[v, vf] w0 fun v w' => v = .bool true ∧ Below w0.heap.size w0 w' := by
 obtain ⟨As, ns, n0, rfl⟩ := hS.form;obtain ⟨_, _, _⟩ := hS.len;obtain ⟨f, first, caps, rfl, _, _⟩ := id hp;have S := St.refl w0;refine a0a Tryz.func173 rfl Tryz.ntmps173 rfl ?_;refine wC0 rfl ⟨⟩ (wL (fun μk D ε w => D = [] ∧ ∃ k : Nat, (k + μk = (l.length)) ∧ St [] w0 w [] ∧ Sl ε [(1, .func (.func f) first caps), (7, .slice As ns n0), (8, .int .i64 ns), (9, .int .i64 k)]) (μ := (l.length)) ⟨rfl, 0, by omega, S, rfl⟩ ?_);rintro μk D ε w ⟨rfl, k, _, S, eZ⟩;refine wK eZ (wB0 rfl ⟨⟩ (fun o0 => ?_) fun o0 => ?_)
 ·obtain ⟨a, j0, q0, _, p0, b0, _, e0, d0, f0⟩ := RdS.get (hS) (k) (by omega);obtain ⟨_, _, _, rfl, g0, _⟩ := R0a.open_ f0;refine lO (S.k.a d0) [.x j0 q0,.v 0] rfl ⟨⟨rfl,e0⟩,⟨b0,by omega⟩,⟨⟩⟩ (n0a S q2b rfl rfl ?_);intro g6 w6 S6 X6 G6
  first | refine e0a (kk := 0) (vs := [_, _, _, _, _]) S6 Q2b rfl rfl rfl rfl rfl rfl rfl ?_
  intro r0 a0 i0;dsimp only [k0a, List.set] at a0;refine lO a0.k [.o 0] rfl ⟨rfl,⟨⟩⟩ (S8a a0 (hp.keep (a0.keep0 M)) rfl rfl (g0) (hs a (c0a p0)) rfl (fun t0 h0 s0 => ?_));refine lP0 rfl ⟨by omega,⟨⟩⟩ ⟨μk - 1, by omega, rfl, (k + 1), (by omega), h0.tail, rfl⟩
 exact lT rfl ⟨⟩ rfl ⟨rfl, S.fin⟩
theorem q5c (e : E) (M : List Nat) (w0 : World) (cs : List Value) (hR : RdE M w0 e cs) (he : e = ⟨1, 1, 1, []⟩) : M0a Tryz.prog 177 #[.agg cs.toArray] w0 fun v w' => v = .bool true ∧ Below w0.heap.size w0 w' := by
 obtain ⟨_, n, _, rfl, _, _, _, _, _⟩ := hR.cells;have e1 : e.op = 1 := by rw [he]
 have e2 : e.w = 1 := by rw [he]
 have e3 : e.n = 1 := by rw [he]
 have e4 : e.kids.length = 0 := by rw [he]; rfl
 have S := St.refl w0;refine a0a Tryz.func177 rfl Tryz.ntmps177 rfl ?_;refine wO0 rfl ⟨⟩ (j0a S (by conv => lhs; whnf) rfl ?_);intro g1 w1 S1 X1 G1;refine lB S1.k [.o 0] rfl ⟨rfl,⟨⟩⟩ (fun h5 => ?_) (fun h5 => by exfalso; omega);refine lB S1.k [.o 0] rfl ⟨rfl,⟨⟩⟩ (fun h9 => ?_) (fun h9 => by exfalso; omega);refine lB S1.k [.o 0] rfl ⟨rfl,⟨⟩⟩ (fun a0 => ?_) (fun a0 => by exfalso; omega);refine lB S1.k [.o 0] rfl ⟨rfl,⟨⟩⟩ (fun b0 => ?_) (fun b0 => by exfalso; omega);exact lT rfl ⟨⟩ rfl ⟨rfl, S1.fin⟩
theorem r5b (s : t1a) (M : List Nat) (w0 : World) (ss : List Value) (hS : n2a M w0 ss s) (hg : s.guard = ⟨1, 1, 1, []⟩) (hs : s.set = []) :
 M0a Tryz.prog 176 #[.agg ss.toArray] w0 fun v w' => v = .bool true ∧ Below w0.heap.size w0 w' := by
 obtain ⟨_, _, _, _, _, _, rfl, ⟨_, _, _, _, _⟩, hG, _, a0, _⟩ := hS.open_;have S := St.refl w0;rw [hs] at a0;simp only [List.length_nil] at a0;refine a0a Tryz.func176 rfl Tryz.ntmps176 rfl ?_;refine wO0 rfl ⟨⟩ (j0a S (by conv => lhs; whnf) rfl ?_);intro g1 w1 S1 X1 G1;refine lO S1.k [.o 0] rfl ⟨rfl,⟨⟩⟩ (g0a S1 v5c rfl rfl (q5c _ M _ _ (RdE.keep (S1.keep0 M) _ _ hG) hg) ?_);intro w5 S5 X5;refine lB S5.k [.o 0] rfl ⟨rfl,⟨⟩⟩ (fun b0 => ?_) (fun b0 => by exfalso; omega);exact lT rfl ⟨⟩ rfl ⟨rfl, S5.fin⟩
theorem I1c {p : f0a} {s : t1a} {t : Int} {z : Bool} (h : ∀ (i : Nat) (hi : i < s.set.length), 0 < i ∨ s.kind ≠ 2 → J4a p.cells (s.set[i]).to z t) {k : Nat} {a : E1a} (ha : s.set[k + 1]? = some a) : J4a p.cells a.to z t := by
 obtain ⟨h1, rfl⟩ := List.getElem?_eq_some_iff.1 ha;exact h _ h1 (.inl (by omega))
structure e7a (p : f0a) (t : Nat) (x : Q0a) (s : t1a) (M : List Nat) (w : World) (cs ss : List Value) : Prop where
 prog : k1a M w p cs
 step : n2a M w ss s
 ok : a1a p
 sok : X6a p t x.points s
 masks : a3a M w
 low : ∀ g ∈ M, g < w.heap.size
theorem R2b (p : f0a) (t : Nat) (x : Q0a) (s : t1a) (M : List Nat) (w0 : World) (cs ss : List Value) (h : e7a p t x s M w0 cs ss) (hk : s.kind = 1) :
 M0a Tryz.prog 162 #[.agg cs.toArray, .int .i64 t, .agg ss.toArray] w0 fun v w' => v = .bool true ∧ Below w0.heap.size w0 w' := by
 obtain ⟨hP, hS, hp, a0, hK, hM⟩ := h;obtain ⟨_, _, _, _, _, _, _, _, _, _, _, _, rfl, _, _, _, _, _, _, _, _, _, _, _, _⟩ := hP.open_;obtain ⟨_, _, _, _, _, _, rfl, ⟨_, _, _, _, _⟩, _, e0, _, _⟩ := hS.open_;have S := St.refl w0;have f0 : ∀ w' : World, w0.heap.size ≤ w'.heap.size → ∀ g ∈ M, g < w'.heap.size := fun w' h g hg => by have := hM g hg; omega
 have h4 : decide (s.kind = 4) = false := decide_eq_false (by omega);have j0 : Y2a s.guard (O8a p t) = true := G7a hp a0.guard.1 (h4 ▸ a0.row.guard);have n0 : ∀ a ∈ s.set, Y2a a.to (O8a p t) = true := fun a ha => by
  obtain ⟨i, hi, rfl⟩ := List.getElem_of_mem ha;exact G7a hp (a0.set _ ha).2.1 (h4 ▸ a0.row.vals i hi (.inr (by omega)))
 have i0 : ∀ a ∈ s.set, O8a p t a.cell = true := fun a ha => decide_eq_true ⟨(a0.set a ha).1, a0.row.k1 hk a ha⟩;refine a0a Tryz.func162 rfl Tryz.ntmps162 rfl ?_;refine wO0 rfl ⟨⟩ (j0a S (by conv => lhs; whnf) rfl ?_);intro g3 w3 S3 X3 G3;refine j0a S3 (by conv => lhs; whnf) rfl ?_;intro g5 w5 S5 X5 G5;refine lO S5.k [.w 1] rfl ⟨⟨rfl,by rfl⟩,⟨⟩⟩ (B0a S5 b2b rfl rfl (x1b p t M _ _ (hP.keep (S5.keep0 M)) (f0 _ S5.size)) ?_);rintro q0 r0 hq b0 o0;obtain ⟨_, _, _, rfl, _, _⟩ := id hq;refine lO b0.k [.w 0] rfl ⟨⟨rfl,by rfl⟩,⟨⟩⟩ (g0a b0 g4b rfl rfl (Y7a s M _ _ _ (O8a p t) (n2a.keep (b0.keep0 M) _ _ hS) hq (hK.keep (b0.keep0 M)) (f0 _ b0.size) j0 n0) ?_);intro s0 d0 h0;replace hq := hq.keep (h0.of_nil);refine lO d0.k [.o 0] rfl ⟨rfl,⟨⟩⟩ (g0a d0 C4b rfl rfl (p9a s.set M _ _ _ (O8a p t) (RdS.keepW e0 (d0.keep0 M) (R0a.keep (d0.keep0 M))) hq i0) ?_);intro t0 g0 p0;exact lT rfl ⟨⟩ rfl ⟨rfl, g0.fin⟩
theorem Y0b (p : f0a) (t : Nat) (x : Q0a) (s : t1a) (M : List Nat) (w0 : World) (cs ss : List Value) (h : e7a p t x s M w0 cs ss) (hk : s.kind = 4) :
 M0a Tryz.prog 165 #[.agg cs.toArray, .int .i64 t, .agg ss.toArray] w0 fun v w' => v = .bool true ∧ Below w0.heap.size w0 w' := by
 obtain ⟨hP, hS, hp, a0, hK, hM⟩ := h;obtain ⟨_, _, _, _, _, _, _, _, _, _, _, _, rfl, _, _, _, _, _, _, _, _, _, _, _, _⟩ := hP.open_;obtain ⟨_, _, _, _, _, _, rfl, ⟨_, _, _, _, _⟩, _, e0, _, _⟩ := hS.open_;have S := St.refl w0;have f0 : ∀ w' : World, w0.heap.size ≤ w'.heap.size → ∀ g ∈ M, g < w'.heap.size := fun w' h g hg => by have := hM g hg; omega
 have h4 : decide (s.kind = 4) = true := decide_eq_true (by omega);have j0 : Y2a s.guard (m1b p t) = true := g1b hp a0.guard.1 (h4 ▸ a0.row.guard);have n0 : ∀ a ∈ s.set, Y2a a.to (m1b p t) = true := fun a ha => by
  obtain ⟨i, hi, rfl⟩ := List.getElem_of_mem ha;exact g1b hp (a0.set _ ha).2.1 (h4 ▸ a0.row.vals i hi (.inr (by omega)))
 have i0 : ∀ a ∈ s.set, m1b p t a.cell = true := fun a ha => by
  unfold m1b shQ O8a;rw [Bool.or_eq_true, decide_eq_true_eq, decide_eq_true_eq];rcases a0.row.cells a ha with h | h
  ·exact .inr ⟨(a0.set a ha).1, h⟩
  ·exact .inl ⟨(a0.set a ha).1, h⟩
 refine a0a Tryz.func165 rfl Tryz.ntmps165 rfl ?_;refine wO0 rfl ⟨⟩ (j0a S (by conv => lhs; whnf) rfl ?_);intro g3 w3 S3 X3 G3;refine j0a S3 (by conv => lhs; whnf) rfl ?_;intro g5 w5 S5 X5 G5;refine lO S5.k [.w 1] rfl ⟨⟨rfl,by rfl⟩,⟨⟩⟩ (B0a S5 I4b rfl rfl (x6a p t M _ _ (hP.keep (S5.keep0 M)) (f0 _ S5.size)) ?_);rintro q0 r0 hq b0 o0;obtain ⟨_, _, _, rfl, _, _⟩ := id hq;refine lO b0.k [.w 0] rfl ⟨⟨rfl,by rfl⟩,⟨⟩⟩ (g0a b0 g4b rfl rfl (Y7a s M _ _ _ (m1b p t) (n2a.keep (b0.keep0 M) _ _ hS) hq (hK.keep (b0.keep0 M)) (f0 _ b0.size) j0 n0) ?_);intro s0 d0 h0;replace hq := hq.keep (h0.of_nil);refine lO d0.k [.o 0] rfl ⟨rfl,⟨⟩⟩ (g0a d0 C4b rfl rfl (p9a s.set M _ _ _ (m1b p t) (RdS.keepW e0 (d0.keep0 M) (R0a.keep (d0.keep0 M))) hq i0) ?_);intro t0 g0 p0;exact lT rfl ⟨⟩ rfl ⟨rfl, g0.fin⟩
theorem u3b (p : f0a) (t : Nat) (x : Q0a) (s : t1a) (M : List Nat) (w0 : World) (cs ss : List Value) (h : e7a p t x s M w0 cs ss) (hk : 5 ≤ s.kind) :
 M0a Tryz.prog 166 #[.agg cs.toArray, .int .i64 t, .agg ss.toArray] w0 fun v w' => v = .bool true ∧ Below w0.heap.size w0 w' := by
 obtain ⟨hP, hS, _, a0, _, _⟩ := h;obtain ⟨_, _, _, _, _, _, _, _, _, _, _, _, rfl, _, _, _, _, _, _, _, _, _, _, _, _⟩ := hP.open_;obtain ⟨_, _, _, _, _, _, rfl, ⟨_, _, _, _, _⟩, _, _, _, _⟩ := hS.open_;have S := St.refl w0;refine a0a Tryz.func166 rfl Tryz.ntmps166 rfl ?_;refine wO0 rfl ⟨⟩ (j0a S (by conv => lhs; whnf) rfl ?_);intro g3 w3 S3 X3 G3;refine j0a S3 (by conv => lhs; whnf) rfl ?_;intro g5 w5 S5 X5 G5;refine lO S5.k [.w 0] rfl ⟨⟨rfl,by rfl⟩,⟨⟩⟩ (g0a S5 Z8b rfl rfl (r5b s M _ _ (n2a.keep (S5.keep0 M) _ _ hS) (a0.row.k5 hk).2 (a0.row.k5 hk).1) ?_);intro w8 S8 X8;exact lT rfl ⟨⟩ rfl ⟨rfl, S8.fin⟩
theorem e9a (p : f0a) (t : Nat) (x : Q0a) (s : t1a) (M : List Nat) (w0 : World) (cs ss : List Value) (h : e7a p t x s M w0 cs ss) (hk : 6 ≤ s.kind) :
 M0a Tryz.prog 168 #[.agg cs.toArray, .int .i64 t, .agg ss.toArray] w0 fun v w' => v = .bool true ∧ Below w0.heap.size w0 w' := by
 obtain ⟨hP, hS, _, a0, _, _⟩ := h;obtain ⟨_, _, _, _, _, _, _, _, _, _, nt, _, rfl, _, _, _, _, _, _, _, _, _, _, _, _⟩ := hP.open_;obtain ⟨_, _, _, _, _, _, rfl, ⟨_, _, _, _, _⟩, _, _, _, _⟩ := hS.open_;have S := St.refl w0;have h6 := a0.row.k6 hk;have e0 := h6.1;have g0 := h6.2;unfold t2a at e0;refine a0a Tryz.func168 rfl Tryz.ntmps168 rfl ?_;refine wO0 rfl ⟨⟩ (j0a S (by conv => lhs; whnf) rfl ?_);intro g3 w3 S3 X3 G3;refine j0a S3 (by conv => lhs; whnf) rfl ?_;intro g5 w5 S5 X5 G5;refine lO S5.k [.w 0] rfl ⟨⟨rfl,by rfl⟩,⟨⟩⟩ (g0a S5 Z8b rfl rfl (r5b s M _ _ (n2a.keep (S5.keep0 M) _ _ hS) (a0.row.k5 (by omega)).2 (a0.row.k5 (by omega)).1) ?_);intro w8 S8 X8;refine lB S8.k [.o 0] rfl ⟨rfl,⟨⟩⟩ (fun d0 => ?_) (fun d0 => by exfalso; omega);refine lO S8.k [.o 0,.o 1] rfl ⟨rfl,rfl,⟨⟩⟩ (g0a S8 R2a rfl rfl ((show decide (0 ≤ s.target ∧ s.target < (nt : Int)) = true from decide_eq_true (by omega)) ▸ f2a _ _ _) ?_);intro h0 b0 f0;exact lT rfl ⟨⟩ rfl ⟨rfl, b0.fin⟩
theorem r3b (p : f0a) (t : Nat) (x : Q0a) (s : t1a) (M : List Nat) (w0 : World) (cs ss : List Value) (h : e7a p t x s M w0 cs ss) (hk : s.kind = 6) :
 M0a Tryz.prog 167 #[.agg cs.toArray, .int .i64 t, .agg ss.toArray] w0 fun v w' => v = .bool true ∧ Below w0.heap.size w0 w' := by
 have h0 := h;obtain ⟨hP, hS, hp, f0, hK, hM⟩ := h;obtain ⟨_, _, _, _, _, _, _, _, _, _, _, _, rfl, _, _, _, n0, _, _, _, _, _, _, _, _⟩ := hP.open_;obtain ⟨_, _, _, _, _, _, rfl, ⟨_, _, _, _, _⟩, _, _, _, _⟩ := hS.open_;have S := St.refl w0;have j0 : ∀ w' : World, w0.heap.size ≤ w'.heap.size → ∀ g ∈ M, g < w'.heap.size := fun w' h g hg => by have := hM g hg; omega
 have h6 := f0.row.k6 (by omega);have i0 := h6.1;unfold t2a at i0;refine a0a Tryz.func167 rfl Tryz.ntmps167 rfl ?_;refine wO0 rfl ⟨⟩ (j0a S (by conv => lhs; whnf) rfl ?_);intro g3 w3 S3 X3 G3;refine j0a S3 (by conv => lhs; whnf) rfl ?_;intro g5 w5 S5 X5 G5;refine lO S5.k [.w 1,.w 0] rfl ⟨⟨rfl,by rfl⟩,⟨rfl,by rfl⟩,⟨⟩⟩ (g0a S5 M9b rfl rfl (e9a p t x s M _ _ _ ⟨hP.keep (S5.keep0 M), n2a.keep (S5.keep0 M) _ _ hS, hp, f0, hK.keep (S5.keep0 M), j0 _ S5.size⟩ (by omega)) ?_);intro r0 a0 q0;obtain ⟨u, g0, p0, _, o0, b0, _, _, d0, e0⟩ := RdS.get (n0) (s.target.toNat) (by omega);obtain ⟨_, _, _, _, _, _, _, _, _, _, _, _, rfl, _, _, _, _, _, _, _, _, _, _, _, _, _⟩ := N0a.open_ e0;refine lO a0.k [.o 1,.o 0,.x g0 p0] rfl ⟨⟨b0,by omega⟩,rfl,rfl,⟨⟩⟩ ?_;refine s0a A2a rfl (v := .bool true) (by have h4 := a0.old (d0 6 _ rfl); rw [f0.row.k7 hk u o0] at h4; exact h4) rfl ?_;exact lT rfl ⟨⟩ rfl ⟨rfl, a0.fin⟩
theorem O3b (p : f0a) (t : Nat) (x : Q0a) (s : t1a) (M : List Nat) (w0 : World) (cs ss : List Value) (h : e7a p t x s M w0 cs ss) (hk : s.kind = 2) :
 M0a Tryz.prog 163 #[.agg cs.toArray, .int .i64 t, .agg ss.toArray] w0 fun v w' => v = .bool true ∧ Below w0.heap.size w0 w' := by
 obtain ⟨hP, hS, hp, j0, hK, hM⟩ := h;obtain ⟨Ac, nc, cc, Am, nm, cm, Al, nl, cl, At, nt, ct, rfl, _, _, _, _, _, _, _, _, _, _, _, _⟩ := hP.open_;obtain ⟨Ag, ng, cg, _, ns, F0, rfl, ⟨_, _, _, _, _⟩, hG, h0, _, _⟩ := hS.open_;have S := St.refl w0;have I0 : ∀ w' : World, w0.heap.size ≤ w'.heap.size → ∀ g ∈ M, g < w'.heap.size := fun w' h g hg => by have := hM g hg; omega
 have h4 : decide (s.kind = 4) = false := decide_eq_false (by omega);have H1 : Y2a s.guard (O8a p t) = true := G7a hp j0.guard.1 (h4 ▸ j0.row.guard);obtain ⟨a0, l, g0, G1, A1, D1, F1, B1, hl⟩ := j0.row.k2 hk;have C1 : s.set.length = l.length + 1 := by rw [g0]; rfl
 have X0 : a0 ∈ s.set := by rw [g0]; simp
 have A0 := (j0.set a0 X0).1;have L0 := N0b (j0.set a0 X0).2.1 D1;have P0 : s.set[0]? = some a0 := by rw [g0]; rfl
 unfold t2a at A0;obtain ⟨_, b0, p0, _, Q0, rfl, x1, _, x0, E1⟩ := RdS.get h0 0 (by omega);obtain rfl := Option.some.inj (P0.symm.trans Q0);obtain ⟨a1, J1, s1, rfl, I1, _⟩ := R0a.open_ E1;have z1 : s.set.drop 1 = l := by rw [g0]; rfl
 have V0 := RdS.dropped h0 1 (by omega);rw [z1] at V0;refine a0a Tryz.func163 rfl Tryz.ntmps163 rfl ?_;refine wO0 rfl ⟨⟩ (j0a S (by conv => lhs; whnf) rfl ?_);intro g3 w3 S3 X3 G3;refine j0a S3 (by conv => lhs; whnf) rfl ?_;intro g5 w5 S5 X5 G5;refine lO S5.k [.w 1] rfl ⟨⟨rfl,rfl⟩,⟨⟩⟩ (B0a S5 b2b rfl rfl (x1b p t M _ _ (hP.keep (S5.keep0 M)) (I0 _ S5.size)) ?_);rintro P1 Y0 hq q0 N1;obtain ⟨f, first, caps, rfl, _, _⟩ := id hq;have d0 := w0a.refl [] Y0;refine lB q0.k [.o 0] rfl ⟨rfl,⟨⟩⟩ (fun t1 => by exfalso; omega) fun t1 => ?_;refine lO q0.k [.o 0] rfl ⟨rfl,⟨⟩⟩ (g0a q0 n8a rfl rfl (H1 ▸ f6a _ M _ _ _ (O8a p t) (RdE.keep (q0.keep0 M) _ _ hG) (hq.keep d0.of_nil) (hK.keep (q0.keep0 M)) (I0 _ q0.size)) ?_);intro S0 T0 h1;replace d0 := d0.trans h1;refine lC0 rfl ⟨⟩ (g0b b0a (fun i => [0, 1, 2, 3, 4, 5, 6, 7, 8, 9, 11].contains i) [0, 1, 2, 3, 4, 5, 6, 7, 8, 9, 10, 11] 12 (by kernel_rfl) (by kernel_rfl) (Y9c T0) _ rfl ?_);have f0 := T0.drew;have e0 : w0a [] S0 S0.drew := x2a _ _;generalize S0.drew = Z1 at f0 e0 ⊢;replace d0 := d0.trans e0;refine N1a ⟨f0, e0⟩ rfl rfl rfl ?_;refine F0a b5b rfl rfl ?_;refine d0a ?_;refine N1a ⟨f0, e0⟩ rfl rfl rfl ?_;refine h0a t8b rfl (fun w1 hw => by exact hw.1.cell 0 rfl rfl) rfl ?_;refine d0a ?_;refine N1a ⟨f0, e0⟩ rfl rfl rfl ?_;refine m0a A8a.slT rfl (by rfl) rfl (by omega) (by omega) rfl ?_;refine d0a ?_;refine N1a ⟨f0, e0⟩ rfl rfl rfl ?_;refine F0a X8b rfl rfl ?_;refine d0a ?_;refine N1a ⟨f0, e0⟩ rfl rfl rfl ?_;refine h0a C0a rfl (fun w1 hw => by exact hw.1.old (x0 _ _ rfl)) rfl ?_;refine d0a ?_;refine N1a ⟨f0, e0⟩ rfl rfl rfl ?_;refine F0a b5b rfl rfl ?_;refine d0a ?_;refine N1a ⟨f0, e0⟩ rfl rfl rfl ?_;refine h0a t8b rfl (fun w1 hw => by exact hw.1.cell 0 rfl rfl) rfl ?_;refine d0a ?_;refine N1a ⟨f0, e0⟩ rfl rfl rfl ?_;refine m0a A8a.slT rfl (by rfl) rfl (by omega) (by omega) rfl ?_;refine d0a ?_;refine N1a ⟨f0, e0⟩ rfl rfl rfl ?_;refine F0a N9b rfl rfl ?_;refine d0a ?_;refine N1a ⟨f0, e0⟩ rfl rfl rfl ?_;refine H1a w1a rfl (fun w1 hw => (i1a.sub x0 1 4).keep (hw.1.keep0 M) x1) (by rfl) rfl ?_;refine d0a ?_;refine T9a ⟨f0, e0⟩ rfl rfl rfl rfl ?_;refine n0a f0 S6a rfl rfl ?_;intro g9 w9 S9 X9 G9;have r0 := Nat.le_trans d0.size G9;have u0 := e0.trans X9;replace d0 := d0.trans X9;refine S0a ⟨rfl, ?_⟩;refine N1a ⟨S9.tail, u0⟩ rfl rfl rfl ?_;refine e3a (v := .int .i64 _) rfl rfl ?_;refine d0a ?_;refine K5a ⟨S9.tail, u0⟩ ?_;refine e0a (kk := 0) (vs := [_, _, _, _]) S9 T5a rfl rfl rfl rfl rfl rfl rfl ?_;intro Z0 i0 t0;dsimp only [k0a, List.set] at i0;replace d0 := d0.fresh t0 (by first | exact r0);refine S0a ⟨rfl, ?_⟩;refine fO0 rfl ⟨⟩ (S8a i0 (hq.keep d0.of_nil) rfl rfl (I1) (decide_eq_true ⟨A0, G1⟩) rfl (fun R1 B0 i1 => ?_));replace d0 := d0.trans i1;refine lO B0.k [.w 2] rfl ⟨⟨rfl,rfl⟩,⟨⟩⟩ (g0a B0 z9a rfl rfl (A1 ▸ x5a p M _ _ _ (hP.keep (B0.keep0 M)) A0.1 A0.2) ?_);intro T1 y0 j1;replace d0 := d0.trans j1;refine lB y0.k [.o 0] rfl ⟨rfl,⟨⟩⟩ (fun u1 => by exfalso; omega) fun u1 => ?_;refine lO y0.k [.w 2,.o 0] rfl ⟨rfl,⟨rfl,rfl⟩,⟨⟩⟩ (g0a y0 w9a rfl rfl ((show shQ p a0.to.n = true from decide_eq_true ⟨L0, F1⟩) ▸ F4a p M _ _ _ (hP.keep (y0.keep0 M))) ?_);intro U1 C0 m1;replace d0 := d0.trans m1;refine lO C0.k [.w 2,.o 0] rfl ⟨rfl,⟨rfl,rfl⟩,⟨⟩⟩ (g0a C0 z9a rfl rfl (B1 ▸ x5a p M _ _ _ (hP.keep (C0.keep0 M)) L0.1 L0.2) ?_);intro V1 U0 n1;replace d0 := d0.trans n1;refine lO U0.k [.o 1] rfl ⟨rfl,⟨⟩⟩ ?_;refine A1b (kd := .i64) (lo := 1) (hi := ns) A8a.slT rfl (.inr rfl) (.inl ⟨rfl, rfl⟩) (by omega) (by have := h0.len; omega) (by have := h0.len; omega) rfl ?_;refine lC0 rfl ⟨⟩ (wL (fun μk D ε w => D = [] ∧ ∃ k : Nat, (k + μk = (l.length)) ∧ (w0a [] Y0 w) ∧ St [] w0 w [(some g9, 53, [.int .i64 a0.to.op, .int .i64 a0.to.w, .int .i64 a0.to.n, .slice a1 J1 s1]), (some g5, 90, [.int .i64 s.kind, .int .i64 s.frm, .int .i64 s.to, .int .i64 s.guard.op, .int .i64 s.guard.w, .int .i64 s.guard.n, .slice Ag ng cg, .slice (some ⟨b0, p0, none⟩) ns F0, .bool s.release, .int .i64 s.target, .int .i64 s.module_]), (some g3, 154, [.slice Ac nc cc, .slice Am nm cm, .slice Al nl cl, .slice At nt ct])] ∧ Sl ε [(3, .pointer (some ⟨g3, 0, none⟩)), (7, .func (.func f) first caps), (65, .slice (some (if F0 = 1 then ⟨b0, p0, none⟩ else ⟨b0, p0 + 1 * 5, none⟩)) (ns - 1) (F0 - 1)), (66, .int .i64 (ns - 1 : Nat)), (67, .int .i64 k)]) (μ := (l.length)) ⟨rfl, 0, by omega, d0, U0, rfl⟩ ?_);rintro μk D ε w ⟨rfl, k, hk, d0, S, eZ⟩;refine wK eZ (wB0 rfl ⟨⟩ (fun v1 => ?_) fun v1 => ?_)
 ·obtain ⟨a, r1, K1, _, O0, G0, _, K0, J0, N0⟩ := RdS.get (V0) (k) (by omega);obtain ⟨_, _, _, rfl, R0, H0⟩ := R0a.open_ N0;have W0 := hl a (c0a O0);have v0 : a ∈ s.set := by rw [g0]; exact List.mem_cons_of_mem _ (c0a O0)
  have z0 := (j0.set a v0).1;unfold t2a at z0;have y1 : Y2a a.to (O8a p t) = true := G7a hp (j0.set a v0).2.1 (h4 ▸ I1c j0.row.vals (k := k) (a := a) (by rw [g0]; exact O0));refine lO (S.k.a J0) [.x r1 K1,.v 0] rfl ⟨⟨rfl,K0⟩,⟨G0,by omega⟩,⟨⟩⟩ (n0a S q2b rfl rfl ?_);intro O1 Q1 d1 g1 b1;have n0 := Nat.le_trans d0.size b1;replace d0 := d0.trans g1;refine e0a (kk := 0) (vs := [_, _, _, _, _]) d1 Q2b rfl rfl rfl rfl rfl rfl rfl ?_;intro M1 o0 E0;dsimp only [k0a, List.set] at o0;replace d0 := d0.fresh E0 (by exact n0);refine lO o0.k [.o 0] rfl ⟨rfl,⟨⟩⟩ (S8a o0 (hq.keep d0.of_nil) rfl rfl (R0) (decide_eq_true ⟨z0, W0.1⟩) rfl (fun W1 D0 o1 => ?_));replace d0 := d0.trans o1;refine lO D0.k [.w 3,.o 0] rfl ⟨rfl,⟨rfl,rfl⟩,⟨⟩⟩ (g0a D0 z9a rfl rfl (W0.2 ▸ x5a p M _ _ _ (hP.keep (D0.keep0 M)) z0.1 z0.2) ?_);intro X1 s0 p1;replace d0 := d0.trans p1;refine lO s0.k [.o 0] rfl ⟨rfl,⟨⟩⟩ (g0a s0 n8a rfl rfl (y1 ▸ f6a _ M _ _ _ (O8a p t) (RdE.keep (s0.keep0 M) _ _ H0) (hq.keep d0.of_nil) (hK.keep (s0.keep0 M)) (I0 _ s0.size)) ?_);intro Y1 f1 q1;replace d0 := d0.trans q1;refine lP0 rfl ⟨by omega,⟨⟩⟩ ⟨μk - 1, by omega, rfl, (k + 1), (by omega), (d0), f1.tail, rfl⟩
 exact lT rfl ⟨⟩ rfl ⟨rfl, S.fin⟩
theorem G1b (p : f0a) (t c : Int) (g g' : Nat) (M : List Nat) (w0 : World) (cs : List Value) (vf : Value) (hP : k1a M w0 p cs) (hg : i1a w0 g 0 cs) (b0 : w0.cell? ⟨g', 0, none⟩ = some vf) (hp : i2a Tryz.prog M w0 vf (m1b p t)) (hc : i64 c) (h0 : 0 ≤ c ∧ c < p.cells.length) (h1 : n0b p.cells c = true) (h2 : m1b p t c = true) :
 M0a Tryz.prog 175 #[.int .i64 c, .pointer (some ⟨g, 0, none⟩), .pointer (some ⟨g', 0, none⟩)] w0 fun v w' => v = .bool true ∧ Below w0.heap.size w0 w' := by
 obtain ⟨_, _, _, _, _, _, _, _, _, _, _, _, rfl, _, _, _, _, _, _, _, _, _, _, _, _⟩ := hP.open_;have S := St.refl w0;refine a0a Tryz.func175 rfl Tryz.ntmps175 rfl ?_;refine wO0 rfl ⟨⟩ ?_
 first | refine x1a i1b rfl ((fun j v hj => S.old (hg j v hj))) (by rfl) rfl ?_
 refine lO0 rfl ⟨⟩ (g0a S z9a rfl rfl (h1 ▸ x5a p M _ _ _ (hP.keep (S.keep0 M)) h0.1 h0.2) ?_);intro w7 S7 X7;refine lO0 rfl ⟨⟩ (s0a W8a rfl (by first | exact S7.old b0) rfl ?_);refine lO0 rfl ⟨⟩ (S8a S7 (hp.keep (S7.keep0 M)) rfl rfl (hc) (h2) rfl (fun e0 a0 d0 => ?_));exact lT rfl ⟨⟩ rfl ⟨rfl, a0.fin⟩
theorem d5b (l : List E1a) (M : List Nat) (w0 : World) (v : Value) (f : FuncId) (first caps : Array Value) (hS : m5c M w0 v l) (hH : Has Tryz.prog f)
 (hf : ∀ w', w0a M w0 w' → ∀ a ∈ l, i64 a.cell → M0a Tryz.prog f (first.toList ++ [Value.int .i64 a.cell] ++ caps.toList).toArray w' fun v s0 => v = .bool true ∧ Below w'.heap.size w' s0) :
 M0a Tryz.prog 173 #[v, .func (.func f) first caps] w0 fun v w' => v = .bool true ∧ Below w0.heap.size w0 w' := by
 obtain ⟨As, ns, o0, rfl⟩ := hS.form;obtain ⟨_, _, _⟩ := hS.len;have S := St.refl w0;refine a0a Tryz.func173 rfl Tryz.ntmps173 rfl ?_;refine wC0 rfl ⟨⟩ (wL (fun μk D ε w => D = [] ∧ ∃ k : Nat, (k + μk = (l.length)) ∧ St [] w0 w [] ∧ Sl ε [(1, .func (.func f) first caps), (7, .slice As ns o0), (8, .int .i64 ns), (9, .int .i64 k)]) (μ := (l.length)) ⟨rfl, 0, by omega, S, rfl⟩ ?_);rintro μk D ε w ⟨rfl, k, _, S, eZ⟩;refine wK eZ (wB0 rfl ⟨⟩ (fun p0 => ?_) fun p0 => ?_)
 ·obtain ⟨a, n0, r0, _, q0, b0, _, e0, d0, f0⟩ := RdS.get (hS) (k) (by omega);obtain ⟨_, _, _, rfl, g0, _⟩ := R0a.open_ f0;refine lO (S.k.a d0) [.x n0 r0,.v 0] rfl ⟨⟨rfl,e0⟩,⟨b0,by omega⟩,⟨⟩⟩ (n0a S q2b rfl rfl ?_);intro g6 w6 S6 X6 G6
  first | refine e0a (kk := 0) (vs := [_, _, _, _, _]) S6 Q2b rfl rfl rfl rfl rfl rfl rfl ?_
  intro t0 a0 j0;dsimp only [k0a, List.set] at a0;refine lO a0.k [.o 0] rfl ⟨rfl,⟨⟩⟩ (s4a (vs := first.toList ++ [Value.int .i64 a.cell] ++ caps.toList) hH rfl rfl rfl (hf _ (a0.keep0 M) a (c0a q0) g0) ?_);rintro u0 v0 ⟨rfl, h0⟩;have i0 := a0.later h0;refine lP0 rfl ⟨by omega,⟨⟩⟩ ⟨μk - 1, by omega, rfl, (k + 1), (by omega), i0.tail, rfl⟩
 exact lT rfl ⟨⟩ rfl ⟨rfl, S.fin⟩
theorem D3b (p : f0a) (t : Nat) (x : Q0a) (s : t1a) (M : List Nat) (w0 : World) (cs ss : List Value) (h : e7a p t x s M w0 cs ss) (hk : s.kind = 3) :
 M0a Tryz.prog 164 #[.agg cs.toArray, .int .i64 t, .agg ss.toArray] w0 fun v w' => v = .bool true ∧ Below w0.heap.size w0 w' := by
 obtain ⟨hP, hS, hp, e0, hK, hM⟩ := h;obtain ⟨_, _, _, _, _, _, _, _, _, _, _, _, rfl, _, _, _, _, _, _, _, _, _, _, _, _⟩ := hP.open_;obtain ⟨_, _, _, _, ns, _, rfl, ⟨_, _, _, _, _⟩, _, f0, _, _⟩ := hS.open_;have S := St.refl w0;have s0 : ∀ w' : World, w0.heap.size ≤ w'.heap.size → ∀ g ∈ M, g < w'.heap.size := fun w' h g hg => by have := hM g hg; omega
 have h4 : decide (s.kind = 4) = false := decide_eq_false (by omega);have K0 : Y2a s.guard (O8a p t) = true := G7a hp e0.guard.1 (h4 ▸ e0.row.guard);have L0 : ∀ a ∈ s.set, Y2a a.to (O8a p t) = true := fun a ha => by
  obtain ⟨i, hi, rfl⟩ := List.getElem_of_mem ha;exact G7a hp (e0.set _ ha).2.1 (h4 ▸ e0.row.vals i hi (.inr (by omega)))
 obtain ⟨a0, l, d0, J0, E0, hl⟩ := e0.row.k3 hk;have G0 : s.set.length = l.length + 1 := by rw [d0]; rfl
 have H0 : a0 ∈ s.set := by rw [d0]; simp
 have p0 := (e0.set a0 H0).1;have v0 : s.set[0]? = some a0 := by rw [d0]; rfl
 unfold t2a at p0;obtain ⟨_, _, _, _, x0, rfl, _, _, t0, I0⟩ := RdS.get f0 0 (by omega);obtain rfl := Option.some.inj (v0.symm.trans x0);obtain ⟨_, _, _, rfl, _, _⟩ := R0a.open_ I0;have D0 : s.set.drop 1 = l := by rw [d0]; rfl
 have y0 := RdS.dropped f0 1 (by omega);rw [D0] at y0;have u0 : ∀ a ∈ l, (0 ≤ a.cell ∧ a.cell < p.cells.length) ∧ n0b p.cells a.cell = true ∧ m1b p t a.cell = true := fun a ha => by
  have g0 : a ∈ s.set := by rw [d0]; exact List.mem_cons_of_mem _ ha
  refine ⟨(e0.set a g0).1, hl a ha, ?_⟩;unfold m1b shQ O8a;rw [Bool.or_eq_true, decide_eq_true_eq, decide_eq_true_eq];rcases e0.row.cells a g0 with h | h
  ·exact .inr ⟨(e0.set a g0).1, h⟩
  ·exact .inl ⟨(e0.set a g0).1, h⟩
 refine a0a Tryz.func164 rfl Tryz.ntmps164 rfl ?_;refine wO0 rfl ⟨⟩ (j0a S (by conv => lhs; whnf) rfl ?_);intro g3 w3 S3 X3 G3;refine j0a S3 (by conv => lhs; whnf) rfl ?_;intro g5 w5 S5 X5 G5;refine lC0 rfl ⟨⟩ (D0a b0a [0, 1, 2, 3, 4, 5, 6, 7] [8] [9, 10, 11] (by kernel_rfl) rfl (Cl _ _ _ _) (Cl.start S5) ?_);refine qB S5.q [.o 0] rfl ⟨rfl,⟨⟩⟩ (fun C0 => by exfalso; omega) fun C0 => ?_;refine qN S5.q [.w 0,.w 1] rfl ⟨⟨rfl,by rfl⟩,⟨rfl,by rfl⟩,⟨⟩⟩ (t5a ?_);refine g2b (fun v w => i2a Tryz.prog M w v (O8a p t)) rfl rfl b2b rfl (fun v w w' h hk => h.keep hk.of_nil) (fun w1 S1 X1 => x1b p t M _ _ (hP.keep (S1.keep0 M)) (s0 _ S1.size)) ?_;refine q2a ?_;rintro a1 ⟨o0, _⟩;rintro U0 hq;dsimp only [K3a];obtain ⟨_, first, _, rfl, _, _⟩ := id hq;refine lO0 rfl ⟨⟩ (g0a o0 g4b rfl rfl (Y7a s M _ _ _ (O8a p t) (n2a.keep (o0.keep0 M) _ _ hS) hq (hK.keep (o0.keep0 M)) (s0 _ o0.size) K0 L0) ?_);intro W0 j0 P0;refine lO j0.k [.o 0] rfl ⟨rfl,⟨⟩⟩ (x0a A8a.slT rfl (by rfl) rfl (by omega) (by omega) rfl ?_);refine lO0 rfl ⟨⟩ (s0a C0a rfl (by exact j0.old (t0 _ _ rfl)) rfl ?_);refine lO j0.k [.w 1] rfl ⟨⟨rfl,by rfl⟩,⟨⟩⟩ (g0a j0 w9a rfl rfl ((show shQ p a0.cell = true from decide_eq_true ⟨p0, J0⟩) ▸ F4a p M _ _ _ (hP.keep (j0.keep0 M))) ?_);intro X0 q0 Q0;refine lO q0.k [.w 1] rfl ⟨⟨rfl,by rfl⟩,⟨⟩⟩ (g0a q0 z9a rfl rfl (E0 ▸ x5a p M _ _ _ (hP.keep (q0.keep0 M)) p0.1 p0.2) ?_);intro Y0 n0 R0;refine lO n0.k [.w 1] rfl ⟨⟨rfl,by rfl⟩,⟨⟩⟩ (B0a n0 I4b rfl rfl (x6a p t M _ _ (hP.keep (n0.keep0 M)) (s0 _ n0.size)) ?_);rintro V0 N0 z0 A0 S0;obtain ⟨_, _, _, rfl, _, _⟩ := id z0;have h0 := w0a.refl [] N0;refine n0a A0 b3c rfl rfl ?_;intro g8 w8 S8 X8 G8;have i0 := Nat.le_trans h0.size G8;replace h0 := h0.trans X8;refine I0a (kk := 0) S8 p3c rfl (by conv => lhs; whnf) rfl rfl (by exact Nat.le_of_ble_eq_true rfl) ?_;intro O0 b0 r0;replace h0 := h0.fresh r0 (by first | exact i0);refine lO b0.k [.o 1] rfl ⟨rfl,⟨⟩⟩ ?_;refine A1b (kd := .i64) (lo := 1) (hi := ns) A8a.slT rfl (.inr rfl) (.inl ⟨rfl, rfl⟩) (by omega) (by have := f0.len; omega) (by have := f0.len; omega) rfl ?_;refine F1a rfl rfl ?_;refine g0a b0 C4b rfl rfl (d5b l M _ _ _ _ _ (RdS.keepW y0 (b0.keep0 M) (R0a.keep (b0.keep0 M))) h5c (fun w' hk a ha F0 => G1b p t a.cell g3 g8 M w' _ _ (hP.keep ((b0.keep0 M).trans hk)) ((b0.cells 2 rfl).keep hk (U0a hM (b0.new 2 rfl))) (hk.cell (a := ⟨g8, 0, none⟩) (U0a hM (b0.new 0 rfl)) (b0.cell 0 rfl rfl)) (z0.keep (h0.of_nil.trans hk)) F0 (u0 a ha).1 (u0 a ha).2.1 (u0 a ha).2.2)) ?_;intro Z0 B0 T0;exact lT rfl ⟨⟩ rfl ⟨rfl, B0.fin⟩
def b6b (k : Int) : Nat := if k = 1 then 162 else if k = 2 then 163 else if k = 3 then 164 else if k = 4 then 165 else if k = 5 then 166 else if k = 6 then 167 else 168
def w9b : Array Value := #[.nilFunc, .func (.func 162) #[] #[], .func (.func 163) #[] #[], .func (.func 164) #[] #[], .func (.func 165) #[] #[], .func (.func 166) #[] #[], .func (.func 167) #[] #[], .func (.func 168) #[] #[]]
theorem R5c (p : f0a) (t : Nat) (x : Q0a) (s : t1a) (M : List Nat) (w0 : World) (cs ss : List Value) (h : e7a p t x s M w0 cs ss) :
 M0a Tryz.prog (b6b s.kind) #[.agg cs.toArray, .int .i64 t, .agg ss.toArray] w0 fun v w' => v = .bool true ∧ Below w0.heap.size w0 w' := by
 have hk := h.sok.kind;rcases (show s.kind = 1 ∨ s.kind = 2 ∨ s.kind = 3 ∨ s.kind = 4 ∨ s.kind = 5 ∨ s.kind = 6 ∨ s.kind = 7 by omega) with e | e | e | e | e | e | e <;> rw [e]
 ·exact R2b p t x s M w0 cs ss h e
 ·exact O3b p t x s M w0 cs ss h e
 ·exact D3b p t x s M w0 cs ss h e
 ·exact Y0b p t x s M w0 cs ss h e
 ·exact u3b p t x s M w0 cs ss h (by omega)
 ·exact r3b p t x s M w0 cs ss h e
 ·exact e9a p t x s M w0 cs ss h (by omega)
theorem R6b {k : Int} : Has Tryz.prog (b6b k) := by
 unfold b6b
 repeat' split
 ·exact X3c
 ·exact P5c
 ·exact p5c
 ·exact D6c
 ·exact K3c
 ·exact W4c
 ·exact M9b
theorem K7b {k : Int} (h1 : 1 ≤ k) (h7 : k ≤ 7) : w9b.extract (k.toNat * 1) (k.toNat * 1 + 1) = #[.func (.func (b6b k)) #[] #[]] := by
 rcases (show k = 1 ∨ k = 2 ∨ k = 3 ∨ k = 4 ∨ k = 5 ∨ k = 6 ∨ k = 7 by omega) with e | e | e | e | e | e | e <;> subst e <;> rfl
theorem G1c (wz : World) : M0a Tryz.prog 155 #[] wz fun v w' => v = .agg w9b ∧ Below wz.heap.size wz w' := by
 have S := St.refl wz;refine a0a Tryz.func155 rfl Tryz.ntmps155 rfl ?_;refine wO0 rfl ⟨⟩ (n0a S W7c rfl rfl ?_);intro g0 w0 S0 X0 G0;refine lO0 rfl ⟨⟩ (j1a K6a (vs := [(0, .func _ _ _)]) (cs := [_]) rfl rfl rfl rfl ?_);refine j1a K6a (vs := [(0, .func _ _ _)]) (cs := [_]) rfl rfl rfl rfl ?_;refine j1a K6a (vs := [(0, .func _ _ _)]) (cs := [_]) rfl rfl rfl rfl ?_;refine j1a K6a (vs := [(0, .func _ _ _)]) (cs := [_]) rfl rfl rfl rfl ?_;refine j1a K6a (vs := [(0, .func _ _ _)]) (cs := [_]) rfl rfl rfl rfl ?_;refine j1a K6a (vs := [(0, .func _ _ _)]) (cs := [_]) rfl rfl rfl rfl ?_;refine j1a K6a (vs := [(0, .func _ _ _)]) (cs := [_]) rfl rfl rfl rfl ?_;refine c1a (v := .agg w9b) (w' := w0) rfl rfl rfl (by simp) (by kernel_rfl) ?_
 first | refine e0a (kk := 0) (vs := [_, _, _, _, _, _, _, _]) S0 C7c rfl rfl rfl rfl rfl rfl rfl ?_
 intro d0 a0 b0;dsimp only [k0a, List.set] at a0;refine lR0 rfl ⟨⟩ ?_;exact r1a (n := 8) rfl (b2a (by rw [Tryz.underlying205]; simp) (by kernel_rfl)) rfl (a0.cells 0 rfl) rfl ⟨rfl, a0.fin⟩
section
variable {P : Program} {N : Nat} {ops : Array Oper} {C : World → Prop} {rest : List Oper} {K : Env → Prop} {e : Env} {d : Nat} {t : TypeId} {p : String} {af : Array Edge} {x y : Operand} {kd : IntKind} {a : Int}
theorem f2c {ty len el size : Nat} {cs a0 : Array Value} (hu : P.underlying ty = some (.array len el)) (b0 : ∀ w : World, (sizeOf el).run P w = .ok size w) (ha : ∀ w : World, (isAgg el).run P w = .ok true w) (hx : ev e x = .agg cs) (hy : ev e y = .int kd a) (h0 : 0 ≤ a) (h1 : a < len) (hv : cs.extract (a.toNat * size) (a.toNat * size + size) = a0) (hd : Nat.ble (d + 1) N = true)
 (h : QL P N ops C rest K (upd e d (.agg a0))) : QL P N ops C (⟨some d, .index ty x y, t, p, af, none⟩ :: rest) K e :=
 w3a rfl rfl hd (fun w _ => by simp [execOp, Instr.index, hx, hy, asIntOf, run_underlying hu, h0, h1, b0, part, ha, hv]) h
end
theorem C7a {M : List Nat} {w : World} {g : Nat} (hM : ∀ g ∈ M, g < w.heap.size) (h : w.heap.size ≤ g) : g ∉ M := fun hh => by have := hM g hh; omega
theorem M7b : ∀ w : World, (sizeOf 204).run Tryz.prog w = .ok 1 w := fun _ => by kernel_rfl
theorem N0c : ∀ w : World, (isAgg 204).run Tryz.prog w = .ok true w := fun _ => by kernel_rfl
theorem O1c (p : f0a) (t : Nat) (x : Q0a) (s : t1a) (M : List Nat) (w0 : World) (cs ss ts : List Value) (h : e7a p t x s M w0 cs ss) (hT : N0a M w0 ts x) (a2 : 1 ≤ x.points) (G1 : x.points ≤ 48) :
 M0a Tryz.prog 128 #[.agg cs.toArray, .int .i64 t, .agg ts.toArray, .agg ss.toArray] w0 fun v w' => v = .int .i64 0 ∧ Below w0.heap.size w0 w' := by
 obtain ⟨hP, hS, hp, h0, hK, hM⟩ := h;obtain ⟨Ac, nc, cc, Am, nm, cm, Al, nl, cl, At, nt, ct, rfl, hC, _, _, _, _, _, _, _, _, _, _, _⟩ := hP.open_;obtain ⟨Ag, ng, cg, As, ns, z0, rfl, ⟨_, _, _, _, _⟩, hG, V0, _, _⟩ := hS.open_;obtain ⟨A0, f1, N0, C0, h1, P0, D0, i1, Q0, B0, g1, O0, rfl, _, _, _, _, _, _, _, _, _, _, _, _, _⟩ := hT.open_;have S := St.refl w0;have F1 : ∀ w' : World, w0.heap.size ≤ w'.heap.size → ∀ g ∈ M, g < w'.heap.size := fun w' h g hg => by have := hM g hg; omega
 have k0 := h0.kind;have k1 := h0.frm;have k2 := h0.to;have k3 := h0.mod;have k4 := h0.rel;have k5 := h0.tgt;have k6 := h0.guard;unfold t2a at k3;have X0 : s.set.Pairwise fun a b => Value.int .i64 a.cell ≠ .int .i64 b.cell := h0.once.imp fun h e => h (by injection e);refine a0a Tryz.func128 rfl Tryz.ntmps128 rfl ?_;refine wO0 rfl ⟨⟩ (j0a S (by conv => lhs; whnf) rfl ?_);intro g4 w4 S4 X4 G4;refine j0a S4 (by conv => lhs; whnf) rfl ?_;intro g6 w6 S6 X6 G6;refine j0a S6 (by conv => lhs; whnf) rfl ?_;intro g7 w7 S7 X7 G7;refine lCn 3 S7.k [] rfl ⟨⟩ (wX (fun D ε w => D = [] ∧ ∃ K0 : Bool, (s.kind = 6 ∨ s.kind = 7 → K0 = true) ∧ St [] w0 w [(some g7, 90, [.int .i64 s.kind, .int .i64 s.frm, .int .i64 s.to, .int .i64 s.guard.op, .int .i64 s.guard.w, .int .i64 s.guard.n, .slice Ag ng cg, .slice As ns z0, .bool s.release, .int .i64 s.target, .int .i64 s.module_]), (some g6, 86, [.string x.name, .int .i64 x.points, .slice A0 f1 N0, .slice C0 h1 P0, .slice D0 i1 Q0, .slice B0 g1 O0, .bool x.asleep]), (some g4, 154, [.slice Ac nc cc, .slice Am nm cm, .slice Al nl cl, .slice At nt ct])] ∧ Sl ε [(1, .int .i64 t), (4, .pointer (some ⟨g4, 0, none⟩)), (6, .pointer (some ⟨g6, 0, none⟩)), (7, .pointer (some ⟨g7, 0, none⟩)), (9, .bool K0)]) ?_ ?_)
 ·refine wB S7.k [.o 0] rfl ⟨rfl,⟨⟩⟩ (fun A1 => ?_) fun A1 => ?_
  ·refine lP0 rfl ⟨⟩ ⟨rfl, (_), ?_, S7, rfl⟩;exact fun _ => rfl
  refine lB S7.k [.o 0] rfl ⟨rfl,⟨⟩⟩ (fun B1 => ?_) fun B1 => ?_
  ·refine lP0 rfl ⟨⟩ ⟨rfl, (_), ?_, S7, rfl⟩;exact fun _ => rfl
  refine lP0 rfl ⟨⟩ ⟨rfl, (_), ?_, S7, rfl⟩;exact fun h => absurd h (by omega)
 rintro D ε w ⟨rfl, K0, t0, S, eZ⟩;refine wK eZ (wX (fun D ε w => D = [] ∧ St [] w0 w [(some g7, 90, [.int .i64 s.kind, .int .i64 s.frm, .int .i64 s.to, .int .i64 s.guard.op, .int .i64 s.guard.w, .int .i64 s.guard.n, .slice Ag ng cg, .slice As ns z0, .bool s.release, .int .i64 s.target, .int .i64 s.module_]), (some g6, 86, [.string x.name, .int .i64 x.points, .slice A0 f1 N0, .slice C0 h1 P0, .slice D0 i1 Q0, .slice B0 g1 O0, .bool x.asleep]), (some g4, 154, [.slice Ac nc cc, .slice Am nm cm, .slice Al nl cl, .slice At nt ct])] ∧ Sl ε [(1, .int .i64 t), (4, .pointer (some ⟨g4, 0, none⟩)), (7, .pointer (some ⟨g7, 0, none⟩))]) ?_ ?_)
 ·refine wB S.k [.o 0] rfl ⟨rfl,⟨⟩⟩ (fun C1 => by exfalso; omega) fun C1 => ?_;refine lB S.k [.o 0] rfl ⟨rfl,⟨⟩⟩ (fun D1 => by exfalso; omega) fun D1 => ?_;refine lO S.k [.o 0,.o 1] rfl ⟨by omega,rfl,rfl,⟨⟩⟩ (g0a S R2a rfl rfl ((show decide (0 ≤ s.frm ∧ s.frm < x.points - 1) = true from decide_eq_true (by omega)) ▸ f2a _ _ _) ?_);intro f2 p1 T1;refine lO p1.k [.o 0,.o 1] rfl ⟨rfl,rfl,⟨⟩⟩ (g0a p1 R2a rfl rfl ((show decide (0 ≤ s.to ∧ s.to < x.points) = true from decide_eq_true (by omega)) ▸ f2a _ _ _) ?_);intro g2 r1 U1;refine lO r1.k [.o 0,.o 2] rfl ⟨rfl,rfl,⟨⟩⟩ (g0a r1 R2a rfl rfl ((show decide (0 ≤ s.module_ ∧ s.module_ < (nm : Int)) = true from decide_eq_true (by omega)) ▸ f2a _ _ _) ?_);intro h2 b0 V1;refine lO0 rfl ⟨⟩ ?_;rcases (Bool.eq_false_or_eq_true (s.release)).symm with i0 | i0
  ·refine s0a A2a rfl (by exact (b0.cell 0 rfl rfl).trans (congrArg (fun b => some (Value.bool b)) i0)) rfl ?_;refine lB b0.k [.o 0] rfl ⟨rfl,⟨⟩⟩ (fun r0 => ?_) fun r0 => ?_
   ·refine lOn 1 b0.k [] rfl ⟨⟩ (V3b rfl rfl rfl ?_);have g0 := t0 (k5 r0);subst g0;refine m1a (v := .bool true) rfl rfl ?_;refine lB b0.k [.o 0] rfl ⟨rfl,⟨⟩⟩ (fun n0 => by exfalso; omega) fun n0 => ?_;refine lO b0.k [.o 0,.o 2] rfl ⟨rfl,rfl,⟨⟩⟩ (g0a b0 R6a rfl rfl (k6.1 ▸ K2a s.guard M _ _ _ p.cells false (RdE.keep (b0.keep0 M) _ _ hG) (hC.keep (b0.keep0 M)) (hK.keep (b0.keep0 M))) ?_);intro m1 j0 I0;refine lP0 rfl ⟨⟩ ⟨rfl, j0, rfl⟩
   refine lB b0.k [.o 0] rfl ⟨rfl,⟨⟩⟩ (fun n0 => by exfalso; omega) fun n0 => ?_;refine lO b0.k [.o 0,.o 2] rfl ⟨rfl,rfl,⟨⟩⟩ (g0a b0 R6a rfl rfl (k6.1 ▸ K2a s.guard M _ _ _ p.cells false (RdE.keep (b0.keep0 M) _ _ hG) (hC.keep (b0.keep0 M)) (hK.keep (b0.keep0 M))) ?_);intro m1 j0 I0;refine lP0 rfl ⟨⟩ ⟨rfl, j0, rfl⟩
  refine s0a A2a rfl (by exact (b0.cell 0 rfl rfl).trans (congrArg (fun b => some (Value.bool b)) i0)) rfl ?_;refine lB b0.k [.o 0] rfl ⟨rfl,⟨⟩⟩ (fun t1 => by exact absurd (k4 i0) t1) (fun t1 => ?_);refine lB b0.k [.o 0] rfl ⟨rfl,⟨⟩⟩ (fun r0 => ?_) fun r0 => ?_
  ·refine lOn 1 b0.k [] rfl ⟨⟩ (V3b rfl rfl rfl ?_);have g0 := t0 (k5 r0);subst g0;refine m1a (v := .bool true) rfl rfl ?_;refine lB b0.k [.o 0] rfl ⟨rfl,⟨⟩⟩ (fun n0 => by exfalso; omega) fun n0 => ?_;refine lO b0.k [.o 0,.o 2] rfl ⟨rfl,rfl,⟨⟩⟩ (g0a b0 R6a rfl rfl (k6.1 ▸ K2a s.guard M _ _ _ p.cells false (RdE.keep (b0.keep0 M) _ _ hG) (hC.keep (b0.keep0 M)) (hK.keep (b0.keep0 M))) ?_);intro m1 j0 I0;refine lP0 rfl ⟨⟩ ⟨rfl, j0, rfl⟩
  refine lB b0.k [.o 0] rfl ⟨rfl,⟨⟩⟩ (fun n0 => by exfalso; omega) fun n0 => ?_;refine lO b0.k [.o 0,.o 2] rfl ⟨rfl,rfl,⟨⟩⟩ (g0a b0 R6a rfl rfl (k6.1 ▸ K2a s.guard M _ _ _ p.cells false (RdE.keep (b0.keep0 M) _ _ hG) (hC.keep (b0.keep0 M)) (hK.keep (b0.keep0 M))) ?_);intro m1 j0 I0;refine lP0 rfl ⟨⟩ ⟨rfl, j0, rfl⟩
 rintro D ε w ⟨rfl, S, eZ⟩;refine wK eZ (wO0 rfl ⟨⟩ ?_);refine e4a (k := 3) S rfl ?_;intro R0 i2 s1 W1 R1 a0;have Y0 : w0.heap.size ≤ R0 := by have := S.size; omega
 refine lC s1.k [.o 0] rfl ⟨rfl,⟨⟩⟩ (wL (fun μk D ε w => D = [] ∧ ∃ k : Nat, (k + μk = (s.set.length)) ∧ (v2a Tryz.prog 3 w R0 (E4a ((s.set.take k).map fun c => .int .i64 c.cell))) ∧ St [] w0 w [(some g7, 90, [.int .i64 s.kind, .int .i64 s.frm, .int .i64 s.to, .int .i64 s.guard.op, .int .i64 s.guard.w, .int .i64 s.guard.n, .slice Ag ng cg, .slice As ns z0, .bool s.release, .int .i64 s.target, .int .i64 s.module_]), (some g6, 86, [.string x.name, .int .i64 x.points, .slice A0 f1 N0, .slice C0 h1 P0, .slice D0 i1 Q0, .slice B0 g1 O0, .bool x.asleep]), (some g4, 154, [.slice Ac nc cc, .slice Am nm cm, .slice Al nl cl, .slice At nt ct])] ∧ Sl ε [(1, .int .i64 t), (4, .pointer (some ⟨g4, 0, none⟩)), (7, .pointer (some ⟨g7, 0, none⟩)), (10, .map (some R0)), (81, .slice As ns z0), (82, .int .i64 ns), (83, .int .i64 k)]) (μ := (s.set.length)) ⟨rfl, 0, by omega, (by simpa [E4a] using a0), s1, rfl⟩ ?_);rintro μk D ε w ⟨rfl, k, _, a0, S, eZ⟩;refine wK eZ (wB0 rfl ⟨⟩ (fun E1 => ?_) fun E1 => ?_)
 ·obtain ⟨a, z1, I1, _, b1, T0, _, Z0, W0, a1⟩ := RdS.get (V0) (k) (by omega);obtain ⟨_, _, _, rfl, d1, U0⟩ := R0a.open_ a1;have q1 := h0.set a (c0a b1);have q2 := q1.1;unfold t2a at q2;have q3 := q1.2.2;refine lO (S.k.a W0) [.x z1 I1,.v 0] rfl ⟨⟨rfl,Z0⟩,⟨T0,by omega⟩,⟨⟩⟩ (n0a S q2b rfl rfl ?_);intro Y1 b2 n1 x1 P1;replace a0 := a0.keep x1 (List.not_mem_nil);refine e0a (kk := 0) (vs := [_, _, _, _, _]) n1 Q2b rfl rfl rfl rfl rfl rfl rfl ?_;intro u1 d0 p0;dsimp only [k0a, List.set] at d0;replace a0 := a0.keep p0 (fun hh => by rw [List.mem_singleton] at hh; exact a0.ne (n1.blk 0 rfl) hh);refine lO d0.k [.o 0] rfl ⟨rfl,⟨⟩⟩ ?_;have v0 := Z2c d1;have x0 := W3a X0 b1;refine Q9a (Go.Maps.int_keyed Tryz.underlying3) Tryz.underlying183 v0b a0 rfl rfl v0 rfl (fun v hv => absurd rfl (I4a x0 _ hv)) (fun _ => ?_);refine lO0 rfl ⟨⟩ (n0a d0 v0b rfl rfl ?_);intro Z1 d2 o1 y1 Q1;replace a0 := a0.keep y1 (List.not_mem_nil);refine e0a (kk := 0) (vs := []) o1 N7b rfl rfl rfl rfl rfl rfl rfl ?_;intro v1 e0 q0;dsimp only [k0a, List.set] at e0;replace a0 := a0.keep q0 (fun hh => by rw [List.mem_singleton] at hh; exact a0.ne (o1.blk 0 rfl) hh);refine lO e0.k [.o 1,.o 4] rfl ⟨rfl,rfl,⟨⟩⟩ (g0a e0 R2a rfl rfl ((show decide (0 ≤ a.cell ∧ a.cell < (nc : Int)) = true from decide_eq_true (by omega)) ▸ f2a _ _ _) ?_);intro K1 o0 H0;replace a0 := a0.keep H0 (List.not_mem_nil);refine lO o0.k [.o 1] rfl ⟨rfl,⟨⟩⟩ (j1a T3b (vs := []) (cs := []) rfl rfl rfl rfl ?_);refine s7a (key := .int .i64 a.cell) (v := .agg #[]) o0 (Go.Maps.int_keyed Tryz.underlying3) Tryz.underlying183 a0 rfl rfl rfl v0 (I4a x0) (.inl Y0) ?_;intro wm Sm Xm Mm;clear a0;have a0 := Mm;refine lC0 rfl ⟨⟩ (D0a b0a [0, 1, 2, 3, 4, 5, 6, 7, 8, 9, 10, 11, 12, 13, 14, 15, 16, 17, 18, 19, 20] [] [] (by kernel_rfl) rfl (Cl _ _ _ _) (Cl.start Sm) ?_);obtain ⟨c, L0, j1, _, H1, s0, _, _, u0, y0⟩ := RdS.get (hC) (a.cell.toNat) (by omega);obtain ⟨rfl, _, _, _, _⟩ := Z2a.open_ y0;rw [E5a q2.1 H1] at q3;refine qB (Sm.q.a u0) [.o 1,.o 4,.o 1,.x L0 j1,.f 0 1] rfl ⟨rfl,⟨s0,by omega⟩,rfl,rfl,rfl,⟨⟩⟩ (fun S0 => by exfalso; omega) fun S0 => ?_;refine qO Sm.q [.o 1,.o 4] rfl ⟨rfl,rfl,⟨⟩⟩ (F2a R6a rfl rfl (fun w1 S1 X1 => q1.2.1 ▸ K2a a.to M _ _ _ p.cells false (RdE.keep (S1.keep0 M) _ _ U0) (hC.keep (S1.keep0 M)) (hK.keep (S1.keep0 M))) ?_);refine qD rfl ⟨⟩ ?_;rintro N1 ⟨G0, J0⟩;replace a0 := a0.keep J0 (List.not_mem_nil);refine lP0 rfl ⟨by omega,⟨⟩⟩ ?_;refine ⟨μk - 1, by omega, rfl, (k + 1), (by omega), ((by rw [J0a b1, List.map_append, List.map_singleton, X7a]; exact a0)), G0.tail.tail, rfl⟩
 refine lC0 rfl ⟨⟩ (D0a b0a [0, 1, 2, 3, 4, 5, 6, 7] [] [8, 9] (by kernel_rfl) rfl (Cl _ _ _ _) (Cl.start S) ?_);refine F2a f6c rfl rfl (fun w1 S1 X1 => G1c _) ?_;refine qO S.q [.o 0] rfl ⟨rfl,⟨⟩⟩ (f2c Tryz.underlying205 M7b N0c rfl rfl (by omega) (by omega) (K7b (by omega) (by omega)) rfl ?_);refine qN S.q [.w 2,.w 0] rfl ⟨⟨rfl,rfl⟩,⟨rfl,rfl⟩,⟨⟩⟩ (t5a ?_);refine q2a ?_;rintro O1 ⟨f0, _⟩;refine J1b R6b rfl rfl rfl (R5c p t x s M _ _ _ ⟨hP.keep (f0.keep0 M), n2a.keep (f0.keep0 M) _ _ hS, hp, h0, hK.keep (f0.keep0 M), F1 _ f0.size⟩) ?_;rintro J1 M1 ⟨rfl, E0⟩;have F0 := f0.later E0;exact lT rfl ⟨⟩ rfl ⟨rfl, F0.fin⟩
theorem Q6b (c : Int) (g : Nat) (w0 : World) (Ac Am Al At : Option Addr) (nc cc nm cm nl cl nt ct : Nat) (hg : i1a w0 g 0 [.slice Ac nc cc, .slice Am nm cm, .slice Al nl cl, .slice At nt ct]) :
 M0a Tryz.prog 126 #[.int .i64 c, .pointer (some ⟨g, 0, none⟩)] w0 fun v w' => v = .bool (decide (0 ≤ c ∧ c < (nm : Int))) ∧ Below w0.heap.size w0 w' := by
 have S := St.refl w0;refine a0a Tryz.func126 rfl Tryz.ntmps126 rfl ?_;refine wO0 rfl ⟨⟩ (s0a C3c rfl (by first | exact S.old (hg 1 _ rfl)) rfl ?_);refine lO0 rfl ⟨⟩ (y0a S R2a rfl rfl (f2a _ _ _) (fun h9 w9 S9 X9 => ?_) (fun h9 w9 S9 X9 => ?_))
 ·refine lR0 rfl ⟨⟩ (q0a rfl (by conv => lhs; whnf) ?_);exact ⟨by rw [h9], S9.fin⟩
 refine lR0 rfl ⟨⟩ (q0a rfl (by conv => lhs; whnf) ?_);exact ⟨by rw [h9], S9.fin⟩
theorem V6b (c a0 hd : Int) (g g' : Nat) (w0 : World) (hg : w0.cell? ⟨g, 1, none⟩ = some (.int .i64 a0)) (d0 : w0.cell? ⟨g', 0, none⟩ = some (.int .i64 hd)) :
 M0a Tryz.prog 129 #[.int .i64 c, .pointer (some ⟨g, 0, none⟩), .pointer (some ⟨g', 0, none⟩)] w0 fun v w' => v = .bool (decide ((0 ≤ c ∧ c < a0) ∧ c ≠ hd)) ∧ Below w0.heap.size w0 w' := by
 have S := St.refl w0;refine a0a Tryz.func129 rfl Tryz.ntmps129 rfl ?_;refine wO0 rfl ⟨⟩ (s0a C0a rfl (by exact S.old hg) rfl ?_);refine y0a S R2a rfl rfl (f2a _ _ _) (fun h8 w8 S8 X8 => ?_) (fun h8 w8 S8 X8 => ?_)
 ·refine lO0 rfl ⟨⟩ (s0a C0a rfl (by exact S8.old d0) rfl ?_);refine lB0 rfl ⟨⟩ (fun b0 => ?_) fun b0 => ?_
  ·refine lT rfl ⟨⟩ rfl ⟨congrArg Value.bool ?_, S8.fin⟩;exact (decide_eq_true ⟨of_decide_eq_true h8, by omega⟩).symm
  refine lT rfl ⟨⟩ rfl ⟨congrArg Value.bool ?_, S8.fin⟩;exact (decide_eq_false fun h => by omega).symm
 refine lT rfl ⟨⟩ rfl ⟨congrArg Value.bool ?_, S8.fin⟩;exact (decide_eq_false fun h => of_decide_eq_false h8 h.1).symm
theorem d0b (M : List Nat) (w0 : World) (v vf : Value) (l : List Int) (q : Int → Bool) (hR : RdI M w0 v l) (hp : i2a Tryz.prog M w0 vf q) (hM : ∀ g ∈ M, g < w0.heap.size) (hq : ∀ c ∈ l, q c = true) :
 M0a Tryz.prog 125 #[v, vf] w0 fun v w' => v = .bool true ∧ Below w0.heap.size w0 w' :=
 (L5a M w0 v vf l q hR hp hM).mono fun v w' h => ⟨by rw [h.1, List.all_eq_true.2 hq], h.2⟩
def R9c (nm : Nat) (c : Int) : Bool := decide (0 ≤ c ∧ c < (nm : Int))
def F7c (pts hd c : Int) : Bool := decide ((0 ≤ c ∧ c < pts) ∧ c ≠ hd)
theorem V2b {g : Nat} {M : List Nat} {w0 : World} {Ac Am Al At : Option Addr} {nc cc nm cm nl cl nt ct : Nat} (hg : i1a w0 g 0 [.slice Ac nc cc, .slice Am nm cm, .slice Al nl cl, .slice At nt ct]) (hM : g ∉ M) :
 i2a Tryz.prog M w0 (.func (.func 126) #[] #[.pointer (some ⟨g, 0, none⟩)]) (R9c nm) :=
 ⟨_, _, _, rfl, p6c, fun w' hk c _ => Q6b c g w' Ac Am Al At nc cc nm cm nl cl nt ct (hg.keep hk hM)⟩
theorem d3b {g g' : Nat} {M : List Nat} {w0 : World} {a0 hd : Int} (hg : w0.cell? ⟨g, 1, none⟩ = some (.int .i64 a0)) (d0 : w0.cell? ⟨g', 0, none⟩ = some (.int .i64 hd)) (hM : g ∉ M) (b0 : g' ∉ M) :
 i2a Tryz.prog M w0 (.func (.func 129) #[] #[.pointer (some ⟨g, 0, none⟩), .pointer (some ⟨g', 0, none⟩)]) (F7c a0 hd) :=
 ⟨_, _, _, rfl, S4c, fun w' hk c _ => V6b c a0 hd g g' w' (hk.cell (a := ⟨g, 1, none⟩) hM hg) (hk.cell (a := ⟨g', 0, none⟩) b0 d0)⟩
theorem g7b (p : f0a) (t : Nat) (x : Q0a) (b : Nat) (l : List Value) (M : List Nat) (w0 : World) (cs ts : List Value) (hP : k1a M w0 p cs) (hT : N0a M w0 ts x) (hp : a1a p) (hK : a3a M w0) (hM : ∀ g ∈ M, g < w0.heap.size) (hb : b ∈ M)
 (hx : p.threads[t]? = some x) (hm : v2a Tryz.prog 9 w0 b (E4a l)) (p1 : Value.string x.name ∉ l) :
 M0a Tryz.prog 100 #[.agg cs.toArray, .int .i64 t, .agg ts.toArray, .map (some b)] w0 fun v w' => v = .tuple #[.int .i64 0, .int .i64 (-1)] ∧ v0a [b] w0 w' ∧ v2a Tryz.prog 9 w' b (E4a (l ++ [.string x.name])) := by
 obtain ⟨Ac, nc, cc, Am, nm, cm, Al, nl, cl, At, nt, ct, rfl, hC, _, _, _, _, _, _, _, _, _, _, _⟩ := hP.open_;obtain ⟨H0, E0, L0, Q0, t1, T0, J0, G0, O0, I0, F0, N0, rfl, _, X0, f1, g1, Z0, _, _, _, _, _, _, _, _⟩ := hT.open_;have S := St.reflM [b] w0;have b0 : ∀ g ∈ [b], g ∈ M := fun g hg => by rw [List.mem_singleton] at hg; subst hg; exact hb
 have u0 : ∀ w' : World, w0.heap.size ≤ w'.heap.size → ∀ g ∈ M, g < w'.heap.size := fun w' h g hg => by have := hM g hg; omega
 have j0 := hp.thread hx;have k1 := j0.points;have k2 := j0.asserts;have k3 := j0.nmod;have i2 : x.name.size ≤ 140737488355328 := by have := j0.name.2.1; omega
 refine a0a Tryz.func100 rfl Tryz.ntmps100 rfl ?_;refine wO0 rfl ⟨⟩ (j0a S (by conv => lhs; whnf) rfl ?_);intro g4 w4 S4 X4 G4;replace hm := hm.keep X4 (List.not_mem_nil);refine j0a S4 (by conv => lhs; whnf) rfl ?_;intro g6 w6 S6 X6 G6;replace hm := hm.keep X6 (List.not_mem_nil);refine lO S6.k [.o 0] rfl ⟨rfl,⟨⟩⟩ (g0a S6 u1b rfl rfl (r7a _ _ j0.name) ?_);intro C2 x1 Q1;replace hm := hm.keep Q1 (List.not_mem_nil);refine lO x1.k [.o 0] rfl ⟨rfl,⟨⟩⟩ ?_;have h2 : w0.heap.size ≤ g6 := by have := S4.size; omega
 refine e2a c2b rfl rfl (R8a b _ x.name _ hm i2 p1) ?_;rintro x2 D2 ⟨rfl, I1, N1⟩;have n0 := x1.turned hm (.inr (by simp)) I1;clear hm;have hm := N1;refine lB n0.k [.o 0] rfl ⟨rfl,⟨⟩⟩ (fun Y1 => by exfalso; omega) fun Y1 => ?_;refine lB n0.k [.o 0,.o 0] rfl ⟨rfl,rfl,⟨⟩⟩ (fun Z1 => by exfalso; omega) fun Z1 => ?_;refine lB n0.k [.o 0,.o 0] rfl ⟨rfl,rfl,⟨⟩⟩ (fun a2 => by exfalso; omega) fun a2 => ?_;refine lO n0.k [.o 0] rfl ⟨rfl,⟨⟩⟩ (F1a rfl rfl ?_);refine g0a n0 k8a rfl rfl (d0b M _ _ _ x.modules (R9c nm) (f1.keep (n0.keepM.mono b0)) (V2b (n0.cells 1 rfl) (C7a hM G4)) (u0 _ n0.size) (fun c hc => decide_eq_true (by have := j0.modules c hc; unfold t2a at this; omega))) ?_;intro E2 K0 R1;replace hm := hm.keep R1 (List.not_mem_nil);refine lO K0.k [.w 1] rfl ⟨⟨rfl,rfl⟩,⟨⟩⟩ (B0a K0 I4b rfl rfl (x6a p t M _ _ (hP.keep (K0.keepM.mono b0)) (u0 _ K0.size)) ?_);rintro y2 P0 hq y1 T1;replace hm := hm.keep T1 (List.not_mem_nil);obtain ⟨f, first, caps, rfl, _, _⟩ := id hq;have a0 := w0a.refl [] P0;refine lC y1.k [.o 0] rfl ⟨rfl,⟨⟩⟩ (wL (fun μk D ε w => D = [] ∧ ∃ k : Nat, (k + μk = (x.asserts.length)) ∧ (v2a Tryz.prog 9 w b (E4a (l ++ [.string x.name]))) ∧ (w0a [] P0 w) ∧ St [b] w0 w [(some g6, 86, [.string x.name, .int .i64 x.points, .slice H0 E0 L0, .slice Q0 t1 T0, .slice J0 G0 O0, .slice I0 F0 N0, .bool x.asleep]), (some g4, 154, [.slice Ac nc cc, .slice Am nm cm, .slice Al nl cl, .slice At nt ct])] ∧ Sl ε [(1, .int .i64 t), (4, .pointer (some ⟨g4, 0, none⟩)), (6, .pointer (some ⟨g6, 0, none⟩)), (10, .func (.func f) first caps), (55, .slice H0 E0 L0), (56, .int .i64 E0), (57, .int .i64 k)]) (μ := (x.asserts.length)) ⟨rfl, 0, by omega, hm, a0, y1, rfl⟩ ?_);rintro μk D ε w ⟨rfl, k, hk, hm, a0, S, eZ⟩;refine wK eZ (wB0 rfl ⟨⟩ (fun b2 => ?_) fun b2 => ?_)
 ·obtain ⟨e, U1, n2, _, j2, U0, a1, m1, h1, C0⟩ := RdS.get (X0) (k) (by omega);obtain ⟨_, _, _, rfl, _, _, _, _, _⟩ := RdE.cells C0;have q1 := j0.truth e (c0a j2);refine lO (S.k.b (h1.keep (S.keepM.mono b0) a1)) [.x U1 n2,.v 0] rfl ⟨⟨rfl,m1⟩,⟨U0,by omega⟩,⟨⟩⟩ (n0a S S6a rfl rfl ?_);intro v2 z2 u1 z1 J1;have r0 := Nat.le_trans a0.size J1;replace a0 := a0.trans z1;replace hm := hm.keep z1 (List.not_mem_nil);refine e0a (kk := 0) (vs := [_, _, _, _]) u1 T5a rfl rfl rfl rfl rfl rfl rfl ?_;intro F1 e0 o0;dsimp only [k0a, List.set] at e0;replace a0 := a0.fresh o0 (by first | exact r0);replace hm := hm.keep o0 (fun hh => by rw [List.mem_singleton] at hh; exact hm.ne (u1.blk 0 rfl) hh);refine lO e0.k [.w 2,.w 0] rfl ⟨⟨rfl,by rfl⟩,⟨rfl,rfl⟩,⟨⟩⟩ (g0a e0 g9a rfl rfl (y9a p e M _ _ _ false _ (m1b p t) (hP.keep (e0.keepM.mono b0)) (RdE.keep (e0.keepM.mono b0) _ _ C0) (hq.keep a0.of_nil) (hK.keep (e0.keepM.mono b0)) (u0 _ e0.size) q1.2.1 q1.1 (g1b hp q1.1 q1.2.2)) ?_);intro F2 O1 C1;replace a0 := a0.trans C1;replace hm := hm.keep C1 (List.not_mem_nil);refine lP0 rfl ⟨by omega,⟨⟩⟩ ⟨μk - 1, by omega, rfl, (k + 1), (by omega), (hm), (a0), O1.tail, rfl⟩
 refine lC S.k [.o 0] rfl ⟨rfl,⟨⟩⟩ (wL (fun μk D ε w => D = [] ∧ ∃ k : Nat, (k + μk = (x.steps.length)) ∧ (v2a Tryz.prog 9 w b (E4a (l ++ [.string x.name]))) ∧ (w0a [] P0 w) ∧ St [b] w0 w [(some g6, 86, [.string x.name, .int .i64 x.points, .slice H0 E0 L0, .slice Q0 t1 T0, .slice J0 G0 O0, .slice I0 F0 N0, .bool x.asleep]), (some g4, 154, [.slice Ac nc cc, .slice Am nm cm, .slice Al nl cl, .slice At nt ct])] ∧ Sl ε [(1, .int .i64 t), (4, .pointer (some ⟨g4, 0, none⟩)), (6, .pointer (some ⟨g6, 0, none⟩)), (10, .func (.func f) first caps), (68, .slice J0 G0 O0), (69, .int .i64 G0), (70, .int .i64 k)]) (μ := (x.steps.length)) ⟨rfl, 0, by omega, hm, a0, S, rfl⟩ ?_);rintro μk D ε w ⟨rfl, k, hk, hm, a0, S, eZ⟩;refine wK eZ (wB0 rfl ⟨⟩ (fun d2 => ?_) fun d2 => ?_)
 ·obtain ⟨s, V1, o2, _, m2, V0, b1, n1, i1, D0⟩ := RdS.get (g1) (k) (by omega);obtain ⟨_, _, _, _, _, _, rfl, ⟨_, _, _, _, _⟩, _, _, _, _⟩ := n2a.open_ D0;refine lO (S.k.b (i1.keep (S.keepM.mono b0) b1)) [.x V1 o2,.v 0] rfl ⟨⟨rfl,n1⟩,⟨V0,by omega⟩,⟨⟩⟩ (n0a S t7b rfl rfl ?_);intro w2 A2 v1 A1 K1;have s0 := Nat.le_trans a0.size K1;replace a0 := a0.trans A1;replace hm := hm.keep A1 (List.not_mem_nil);refine lO0 rfl ⟨⟩ (e0a (kk := 0) (vs := [_, _, _, _, _, _, _, _, _, _, _]) v1 A7b rfl rfl rfl rfl rfl rfl rfl ?_);intro G1 d0 p0;dsimp only [k0a, List.set] at d0;replace a0 := a0.fresh p0 (by first | exact s0);replace hm := hm.keep p0 (fun hh => by rw [List.mem_singleton] at hh; exact hm.ne (v1.blk 0 rfl) hh);refine lO d0.k [.w 2,.w 1,.w 0] rfl ⟨⟨rfl,by rfl⟩,⟨rfl,rfl⟩,⟨rfl,rfl⟩,⟨⟩⟩ (g0a d0 H4c rfl rfl (O1c p t x s M _ _ _ _ ⟨hP.keep (d0.keepM.mono b0), n2a.keep (d0.keepM.mono b0) _ _ D0, hp, j0.steps s (c0a m2), hK.keep (d0.keepM.mono b0), u0 _ d0.size⟩ (N0a.keep (d0.keepM.mono b0) _ _ hT) k1.1 k1.2) ?_);intro G2 P1 D1;replace a0 := a0.trans D1;replace hm := hm.keep D1 (List.not_mem_nil);refine lB0 rfl ⟨⟩ (fun f2 => by exfalso; omega) fun f2 => ?_;refine lP0 rfl ⟨by omega,⟨⟩⟩ ⟨μk - 1, by omega, rfl, (k + 1), (by omega), (hm), (a0), P1.tail, rfl⟩
 refine lC S.k [.o 0] rfl ⟨rfl,⟨⟩⟩ (wL (fun μk D ε w => D = [] ∧ ∃ k : Nat, (k + μk = (x.loops.length)) ∧ (v2a Tryz.prog 9 w b (E4a (l ++ [.string x.name]))) ∧ (w0a [] P0 w) ∧ St [b] w0 w [(some g6, 86, [.string x.name, .int .i64 x.points, .slice H0 E0 L0, .slice Q0 t1 T0, .slice J0 G0 O0, .slice I0 F0 N0, .bool x.asleep]), (some g4, 154, [.slice Ac nc cc, .slice Am nm cm, .slice Al nl cl, .slice At nt ct])] ∧ Sl ε [(4, .pointer (some ⟨g4, 0, none⟩)), (6, .pointer (some ⟨g6, 0, none⟩)), (10, .func (.func f) first caps), (86, .slice I0 F0 N0), (87, .int .i64 F0), (88, .int .i64 k)]) (μ := (x.loops.length)) ⟨rfl, 0, by omega, hm, a0, S, rfl⟩ ?_);rintro μk D ε w ⟨rfl, k, hk, hm, a0, S, eZ⟩;refine wK eZ (wB0 rfl ⟨⟩ (fun g2 => ?_) fun g2 => ?_)
 ·obtain ⟨lp, W1, p2, _, s1, W0, d1, o1, j1, r1⟩ := RdS.get (Z0) (k) (by omega);obtain ⟨_, _, _, _, _, _, rfl, _, A0, B0, _, _⟩ := b5a.open_ r1;have q1 := j0.loops lp (c0a s1);have q2 := q1.head;refine lO (S.k.b (j1.keep (S.keepM.mono b0) d1)) [.x W1 p2,.v 0] rfl ⟨⟨rfl,o1⟩,⟨W0,by omega⟩,⟨⟩⟩ (n0a S r0c rfl rfl ?_);intro X1 B2 w1 B1 M1;have t0 := Nat.le_trans a0.size M1;replace a0 := a0.trans B1;replace hm := hm.keep B1 (List.not_mem_nil);refine e0a (kk := 0) (vs := [_, _, _, _, _, _]) w1 y0c rfl rfl rfl rfl rfl rfl rfl ?_;intro H1 i0 q0;dsimp only [k0a, List.set] at i0;replace a0 := a0.fresh q0 (by first | exact t0);replace hm := hm.keep q0 (fun hh => by rw [List.mem_singleton] at hh; exact hm.ne (w1.blk 0 rfl) hh);refine lO0 rfl ⟨⟩ (F1a rfl rfl ?_);refine lO i0.k [.o 0,.o 1] rfl ⟨rfl,rfl,⟨⟩⟩ (g0a i0 R2a rfl rfl ((show decide (0 ≤ lp.head ∧ lp.head < x.points) = true from decide_eq_true (by omega)) ▸ f2a _ _ _) ?_);intro H2 S0 E1;replace a0 := a0.trans E1;replace hm := hm.keep E1 (List.not_mem_nil);refine lO S0.k [.o 0] rfl ⟨rfl,⟨⟩⟩ (g0a S0 T4b rfl rfl (k5a M _ _ _ (A0.keep (S0.keepM.mono b0)) q1.up) ?_);intro r2 f0 v0;replace a0 := a0.trans v0;replace hm := hm.keep v0 (List.not_mem_nil);refine lO f0.k [.o 0] rfl ⟨rfl,⟨⟩⟩ ?_;have Y0 : w0.heap.size ≤ X1 := by have := S.size; omega
  refine g0a f0 k8a rfl rfl (d0b M _ _ _ lp.body (F7c x.points lp.head) (A0.keep (f0.keepM.mono b0)) (d3b (f0.cell 1 rfl rfl) (f0.cell 0 rfl rfl) (C7a hM h2) (C7a hM Y0)) (u0 _ f0.size) (fun c hc => decide_eq_true (by have := q1.body c hc; omega))) ?_;intro s2 g0 x0;replace a0 := a0.trans x0;replace hm := hm.keep x0 (List.not_mem_nil);refine lO g0.k [.o 0,.o 2] rfl ⟨rfl,rfl,⟨⟩⟩ (g0a g0 R6a rfl rfl (q1.variant.1 ▸ K2a lp.variant M _ _ _ p.cells false (RdE.keep (g0.keepM.mono b0) _ _ B0) (hC.keep (g0.keepM.mono b0)) (hK.keep (g0.keepM.mono b0))) ?_);intro t2 h0 y0;replace a0 := a0.trans y0;replace hm := hm.keep y0 (List.not_mem_nil);refine lO h0.k [.o 0] rfl ⟨rfl,⟨⟩⟩ (g0a h0 n8a rfl rfl ((g1b hp q1.variant.1 q1.variant.2) ▸ f6a lp.variant M _ _ _ (m1b p t) (RdE.keep (h0.keepM.mono b0) _ _ B0) (hq.keep a0.of_nil) (hK.keep (h0.keepM.mono b0)) (u0 _ h0.size)) ?_);intro u2 R0 z0;replace a0 := a0.trans z0;replace hm := hm.keep z0 (List.not_mem_nil);refine lP0 rfl ⟨by omega,⟨⟩⟩ ⟨μk - 1, by omega, rfl, (k + 1), (by omega), (hm), (a0), R0.tail, rfl⟩
 exact lT2 rfl ⟨⟩ rfl ⟨rfl, S.below, hm⟩
def i2b (k : Nat) : Nat := if k = 0 then 97 else if k = 1 then 98 else 99
def V4b (cs : Array Value) : Array Value := #[.func (.func 97) #[.agg cs] #[], .func (.func 98) #[.agg cs] #[], .func (.func 99) #[.agg cs] #[]]
theorem z6b {cs : Array Value} {k : Nat} (h : k < 3) : (V4b cs)[(k : Int).toNat]? = some (.func (.func (i2b k)) #[.agg cs] #[]) := by
 rcases (show k = 0 ∨ k = 1 ∨ k = 2 by omega) with e | e | e <;> subst e <;> rfl
theorem y4b {k : Nat} : Has Tryz.prog (i2b k) := by
 unfold i2b
 repeat' split
 ·exact E7c
 ·exact u8c
 ·exact P7c
theorem z2c (k : Nat) (hk : k < 3) (p : f0a) (M : List Nat) (w0 : World) (cs : List Value) (hP : k1a M w0 p cs) (hp : a1a p) (hK : a3a M w0) (hM : ∀ g ∈ M, g < w0.heap.size) :
 M0a Tryz.prog (i2b k) #[.agg cs.toArray] w0 fun v w' => v = .int .i64 0 ∧ Below w0.heap.size w0 w' := by
 rcases (show k = 0 ∨ k = 1 ∨ k = 2 by omega) with e | e | e <;> subst e
 ·exact U7b p M w0 cs hP hp
 ·exact f4b p M w0 cs hP hp hK hM
 ·exact j8b p M w0 cs hP hp hK hM
theorem b9a (p : f0a) (M : List Nat) (w0 : World) (cs : List Value) (hP : k1a M w0 p cs) (hp : a1a p) (hK : a3a M w0) (hM : ∀ g ∈ M, g < w0.heap.size) :
 M0a Tryz.prog 68 #[.agg cs.toArray] w0 fun v w' => v = .tuple #[.int .i64 0, .int .i64 (-1), .int .i64 (-1)] ∧ Below w0.heap.size w0 w' := by
 obtain ⟨Ac, nc, cc, Am, nm, cm, Al, nl, cl, At, nt, ct, rfl, _, _, _, L0, _, _, _, _, _, _, _, _⟩ := hP.open_;have S := St.refl w0;have x0 : ∀ w' : World, w0.heap.size ≤ w'.heap.size → ∀ g ∈ M, g < w'.heap.size := fun w' h g hg => by have := hM g hg; omega
 have p0 : p.threads.Pairwise fun a b => Value.string a.name ≠ .string b.name := hp.threadNames.imp fun h e => h (by injection e);refine a0a Tryz.func68 rfl Tryz.ntmps68 rfl ?_;refine wO0 rfl ⟨⟩ (j0a S (by conv => lhs; whnf) rfl ?_);intro g1 w1 S1 X1 G1;refine lO S1.k [.w 0] rfl ⟨⟨rfl,rfl⟩,⟨⟩⟩ (j1a G5c (vs := [(0, .agg _)]) (cs := [_, _, _, _]) rfl rfl rfl rfl ?_);refine n0a S1 k8c rfl rfl ?_;intro g5 w5 S5 X5 G5;refine e0a (kk := 0) (vs := [_, _, _, _]) S5 I7c rfl rfl rfl rfl rfl rfl rfl ?_;intro P0 e0 E0;dsimp only [k0a, List.set] at e0;refine lO e0.k [.w 0] rfl ⟨⟨rfl,rfl⟩,⟨⟩⟩ (g0a e0 m7c rfl rfl (p7b p M _ _ (hP.keep (e0.keep0 M)) hp) ?_);intro Q0 j0 T0;refine lB0 rfl ⟨⟩ (fun G0 => by exfalso; omega) fun G0 => ?_;refine lO j0.k [.w 0] rfl ⟨⟨rfl,rfl⟩,⟨⟩⟩ (g2a rfl rfl rfl ?_);refine lO j0.k [.w 0] rfl ⟨⟨rfl,rfl⟩,⟨⟩⟩ (g2a rfl rfl rfl ?_);refine lO j0.k [.w 0] rfl ⟨⟨rfl,rfl⟩,⟨⟩⟩ (g2a rfl rfl rfl ?_);refine c1a (v := .agg (V4b #[.slice Ac nc cc, .slice Am nm cm, .slice Al nl cl, .slice At nt ct])) (w' := Q0) rfl rfl rfl (by simp) (by kernel_rfl) ?_;refine lC0 rfl ⟨⟩ (wL (fun μk D ε w => D = [] ∧ ∃ k : Nat, (k + μk = (3)) ∧ St [] w0 w [(some g5, 154, [.slice Ac nc cc, .slice Am nm cm, .slice Al nl cl, .slice At nt ct]), (some g1, 27, [.slice Ac nc cc, .slice Am nm cm, .slice Al nl cl, .slice At nt ct])] ∧ Sl ε [(1, .pointer (some ⟨g1, 0, none⟩)), (5, .pointer (some ⟨g5, 0, none⟩)), (33, .agg (V4b #[.slice Ac nc cc, .slice Am nm cm, .slice Al nl cl, .slice At nt ct])), (34, .int .i64 k)]) (μ := (3)) ⟨rfl, 0, by omega, j0, rfl⟩ ?_);rintro μk D ε w ⟨rfl, k, hk, S, eZ⟩;refine wK eZ (wB0 rfl ⟨⟩ (fun H0 => ?_) fun H0 => ?_)
 ·refine lO0 rfl ⟨⟩ (n5b o5c rfl rfl (by omega) (by omega) (z6b (by omega)) rfl ?_);refine lO0 rfl ⟨⟩ (s4a (vs := [.agg #[.slice Ac nc cc, .slice Am nm cm, .slice Al nl cl, .slice At nt ct]]) y4b rfl rfl rfl (z2c k (by omega) p M _ _ (hP.keep (S.keep0 M)) hp (hK.keep (S.keep0 M)) (x0 _ S.size)) ?_);rintro W0 Z0 ⟨rfl, y0⟩;have B0 := S.later y0;refine lB0 rfl ⟨⟩ (fun I0 => by exfalso; omega) fun I0 => ?_;refine lP0 rfl ⟨by omega,⟨⟩⟩ ⟨μk - 1, by omega, rfl, (k + 1), (by omega), B0, rfl⟩
 refine lO0 rfl ⟨⟩ (e4a (k := 9) S rfl ?_);intro f0 a1 v0 U0 S0 b0;have q0 : w0.heap.size ≤ f0 := by have := S.size; omega
 refine lC v0.k [.o 1] rfl ⟨rfl,⟨⟩⟩ (wL (fun μk D ε w => D = [] ∧ ∃ k : Nat, (k + μk = (p.threads.length)) ∧ (v2a Tryz.prog 9 w f0 (E4a ((p.threads.take k).map fun c => .string c.name))) ∧ St [] w0 w [(some g5, 154, [.slice Ac nc cc, .slice Am nm cm, .slice Al nl cl, .slice At nt ct]), (some g1, 27, [.slice Ac nc cc, .slice Am nm cm, .slice Al nl cl, .slice At nt ct])] ∧ Sl ε [(5, .pointer (some ⟨g5, 0, none⟩)), (11, .map (some f0)), (45, .slice At nt ct), (46, .int .i64 nt), (47, .int .i64 k)]) (μ := (p.threads.length)) ⟨rfl, 0, by omega, (by simpa [E4a] using b0), v0, rfl⟩ ?_);rintro μk D ε w ⟨rfl, k, hk, b0, S, eZ⟩;refine wK eZ (wB0 rfl ⟨⟩ (fun J0 => ?_) fun J0 => ?_)
 ·obtain ⟨x, F0, O0, _, t0, n0, _, r0, o0, h0⟩ := RdS.get (L0) (k) (by omega);obtain ⟨_, _, _, _, _, _, _, _, _, _, _, _, rfl, _, _, _, _, _, _, _, _, _, _, _, _, _⟩ := N0a.open_ h0;refine lO (S.k.a o0) [.x F0 O0,.v 0] rfl ⟨⟨rfl,r0⟩,⟨n0,by omega⟩,⟨⟩⟩ (n0a S Y2b rfl rfl ?_);intro V0 Y0 u0 D0 R0;replace b0 := b0.keep D0 (List.not_mem_nil);refine lO0 rfl ⟨⟩ (e0a (kk := 0) (vs := [_, _, _, _, _, _, _]) u0 k3b rfl rfl rfl rfl rfl rfl rfl ?_);intro i0 a0 g0;dsimp only [k0a, List.set] at a0;replace b0 := b0.keep g0 (fun hh => by rw [List.mem_singleton] at hh; exact b0.ne (u0.blk 0 rfl) hh);refine lO a0.k [.w 1,.w 0] rfl ⟨⟨rfl,by rfl⟩,⟨rfl,rfl⟩,⟨⟩⟩ ?_;have s0 := W3a p0 t0;have d0 : ∀ g ∈ f0 :: M, g ∈ M ∨ w0.heap.size ≤ g := fun g hg => by exact (List.mem_cons.1 hg).elim (fun h => .inr (by omega)) .inl
  have N0 : ∀ g ∈ f0 :: M, g < i0.heap.size := fun g hg => by exact (List.mem_cons.1 hg).elim (fun h => h ▸ b0.lt) (x0 _ a0.size g)
  refine e2a k5c rfl rfl (g7b p k x f0 _ (f0 :: M) _ _ _ ((hP.more d0).keep (a0.keep0 _)) (N0a.keep (a0.keep0 _) _ _ (N0a.more d0 _ _ h0)) hp ((hK.more d0).keep (a0.keep0 _)) N0 (by simp) t0 b0 s0) ?_;rintro X0 b1 ⟨rfl, z0, A0⟩;have C0 := a0.turned b0 (.inl q0) z0;refine lB0 rfl ⟨⟩ (fun K0 => by exfalso; omega) fun K0 => ?_;refine lP0 rfl ⟨by omega,⟨⟩⟩ ?_;refine ⟨μk - 1, by omega, rfl, (k + 1), (by omega), ((by rw [J0a t0, List.map_append]; exact A0)), C0.tail, rfl⟩
 refine lR0 rfl ⟨⟩ (S4b rfl (by conv => lhs; whnf) (by conv => lhs; whnf) (by conv => lhs; whnf) ?_);exact ⟨rfl, S.fin⟩
def X0a (p : f0a) : r0a := ⟨p.cells.map d2a.init, p.threads.map (fun t => if t.asleep then -1 else 0), p.threads.map (fun _ => [])⟩
def i3a (mem : List Int) (e : G0a) : List Int := (e.cells.zip e.values).foldl (fun m x => m.set x.1.toNat x.2) mem
def B1a (c : r0a) (t : Nat) : List Int := (c.buf.getD t []).foldl i3a c.mem
def z7a (s : List E1a) (v mem : List Int) : List Int := s.foldl (fun m a => m.set a.cell.toNat (a.to.evl v v)) mem
def t7a (p : f0a) (s : List E1a) (v : List Int) : G0a := ⟨(s.filter fun a => y1a p.cells a.cell = -1).map E1a.cell, (s.filter fun a => y1a p.cells a.cell = -1).map fun a => a.to.evl v v⟩
def K0a (p : f0a) (model : Int) (c : r0a) (t : Nat) (s : t1a) : Bool :=
 decide (c.at_.getD t 0 = s.frm) && (decide (s.guard.evl (B1a c t) (B1a c t) = 1) &&
  (if s.kind = 3 then decide (model = 0 ∨ ((c.buf.getD t []).length < 3 ∧ (s.release = true → c.buf.getD t [] = [])))
   else if s.kind = 6 then decide (c.buf.getD t [] = [] ∧ c.at_.getD s.target.toNat 0 = -1)
   else if s.kind = 7 then decide (c.buf.getD t [] = [] ∧ c.at_.getD s.target.toNat 0 = (p.threads.getD s.target.toNat ⟨ByteArray.empty, 0, [], [], [], [], false⟩).points - 1 ∧ c.buf.getD s.target.toNat [] = [])
   else if s.kind = 1 ∨ s.kind = 2 then true else decide (c.buf.getD t [] = [])))
def t3b (a b : G0a) : Bool := a.cells.any fun x => b.cells.contains x
def T2a (model : Int) (l : List G0a) (i : Nat) : Bool := decide (i = 0) || (decide (model = 2) && (List.range i).all fun k => match l[k]?, l[i]? with | some a, some b => !t3b a b | _, _ => true)
def V2a (p : f0a) (t : Nat) : List t1a := (p.threads.getD t ⟨ByteArray.empty, 0, [], [], [], [], false⟩).steps
def i6a (p : f0a) (model : Int) (c : r0a) (t : Nat) : List A0a :=
 ((List.range (V2a p t).length).filter fun i => match (V2a p t)[i]? with | some s => K0a p model c t s | none => false).map (fun (i : Nat) => (⟨t, i, 0⟩ : A0a)) ++
 ((List.range (c.buf.getD t []).length).filter (T2a model (c.buf.getD t []))).map (fun (i : Nat) => (⟨t, -1, ((c.buf.getD t []).getD i ⟨[], []⟩).cells.getD 0 0⟩ : A0a))
def H0a (p : f0a) (model : Int) (c : r0a) : List A0a := (List.range p.threads.length).flatMap (i6a p model c)
def atC (c : r0a) (t : Nat) (s : t1a) : List Int := if s.kind = 6 then (c.at_.set t s.to).set s.target.toNat 0 else c.at_.set t s.to
def n3a (p : f0a) (model : Int) (c : r0a) (t : Nat) (s : t1a) : r0a :=
 if s.kind = 3 ∧ model ≠ 0 then ⟨z7a (s.set.filter fun a => y1a p.cells a.cell ≠ -1) (B1a c t) c.mem, atC c t s, c.buf.set t (c.buf.getD t [] ++ [t7a p s.set (B1a c t)])⟩
 else ⟨z7a s.set (B1a c t) c.mem, atC c t s, c.buf⟩
def B4a (c : r0a) (t i : Nat) : r0a := ⟨i3a c.mem ((c.buf.getD t []).getD i ⟨[], []⟩), c.at_, c.buf.set t ((c.buf.getD t []).eraseIdx i)⟩
def doC (p : f0a) (model : Int) (c : r0a) (x : A0a) : r0a :=
 if x.step = -1 then B4a c x.thread.toNat (((c.buf.getD x.thread.toNat []).findIdx? fun e => e.cells.getD 0 0 = x.cell).getD 0)
 else match (V2a p x.thread.toNat)[x.step.toNat]? with | some s => n3a p model c x.thread.toNat s | none => c
def Q5a (p : f0a) (model : Int) (c : r0a) : List r0a := (H0a p model c).map (doC p model c)
section
variable {α : Type} [DecidableEq α]
def G0c (l ds : List α) : List α := ds.foldl (fun l d => if d ∈ l then l else l ++ [d]) l
def bfs (succ : α → List α) (a : α) : Nat → List α
 | 0 => [a]
 | n + 1 => match (bfs succ a n)[n]? with
   | some c => G0c (bfs succ a n) (succ c)
   | none => bfs succ a n
theorem d7a (l : List α) (d : α) (ds : List α) : G0c l (d :: ds) = G0c (if d ∈ l then l else l ++ [d]) ds := rfl
theorem T1b : ∀ (ds l : List α), ∃ m, G0c l ds = l ++ m
 | [], l => ⟨[], by simp [G0c]⟩
 | d :: ds, l => by
   rw [d7a];obtain ⟨m, h⟩ := T1b ds (if d ∈ l then l else l ++ [d]);rw [h];by_cases hd : d ∈ l
   ·exact ⟨m, by rw [if_pos hd]⟩
   ·exact ⟨d :: m, by rw [if_neg hd]; simp⟩
theorem j1b : ∀ (ds l : List α) (x : α), x ∈ G0c l ds ↔ x ∈ l ∨ x ∈ ds
 | [], l, x => by simp [G0c]
 | d :: ds, l, x => by
   rw [d7a, j1b ds];by_cases hd : d ∈ l
   ·rw [if_pos hd];constructor
    ·rintro (h | h)
     ·exact .inl h
     ·exact .inr (by simp [h])
    ·rintro (h | h)
     ·exact .inl h
     ·rcases List.mem_cons.1 h with rfl | h
      ·exact .inl hd
      ·exact .inr h
   ·rw [if_neg hd]; simp [or_assoc]
theorem M0b : ∀ (ds l : List α), l.Nodup → (G0c l ds).Nodup
 | [], l, h => by simpa [G0c] using h
 | d :: ds, l, h => by
   rw [d7a];refine M0b ds _ ?_;by_cases hd : d ∈ l
   ·rw [if_pos hd]; exact h
   ·rw [if_neg hd];rw [List.nodup_append];exact ⟨h, by simp, fun a ha b hb => by rw [List.mem_singleton.1 hb]; exact fun e => hd (e ▸ ha)⟩
variable (succ : α → List α) (a : α)
theorem s5b (n : Nat) : ∃ m, bfs succ a (n + 1) = bfs succ a n ++ m := by
 rw [bfs]
 split
 ·exact T1b _ _
 ·exact ⟨[], by simp⟩
theorem Q5b (n : Nat) : ∀ k, ∃ m, bfs succ a (n + k) = bfs succ a n ++ m
 | 0 => ⟨[], by simp⟩
 | k + 1 => by
   obtain ⟨m, h⟩ := Q5b n k;obtain ⟨m', h'⟩ := s5b succ a (n + k);exact ⟨m ++ m', by rw [← Nat.add_assoc, h', h, List.append_assoc]⟩
theorem u9a : ∀ n, (bfs succ a n).Nodup
 | 0 => by simp [bfs]
 | n + 1 => by
   rw [bfs]
   split
   ·exact M0b _ _ (u9a n)
   ·exact u9a n
theorem P6b (n i : Nat) (hi : i < n) (c : α) (hc : (bfs succ a n)[i]? = some c) (d : α) (hd : d ∈ succ c) : d ∈ bfs succ a n := by
 induction n with
 | zero => omega
 | succ n ih =>
   obtain ⟨_, hm⟩ := s5b succ a n;by_cases d0 : i = n
   ·subst d0;rw [bfs];rw [bfs] at hc
    split at hc
    ·rename_i c' a0;obtain ⟨_, e0⟩ := T1b (succ c') (bfs succ a i);have b0 : i < (bfs succ a i).length := (List.getElem?_eq_some_iff.1 a0).1;rw [e0, List.getElem?_append_left b0, a0] at hc;cases hc;exact (j1b _ _ _).2 (.inr hd)
    ·rename_i hn;rw [hn] at hc; cases hc
   ·by_cases b0 : i < (bfs succ a n).length
    ·rw [hm, List.getElem?_append_left b0] at hc;rw [hm]; exact List.mem_append_left _ (ih (by omega) hc)
    ·exfalso;rw [bfs] at hc
     split at hc
     ·rename_i c' a0;have := (List.getElem?_eq_some_iff.1 a0).1;omega
     ·have := (List.getElem?_eq_some_iff.1 hc).1;omega
end
section
variable {α : Type} [DecidableEq α] (succ : α → List α) (a : α)
theorem d5c {n m i : Nat} (h : n ≤ m) (hi : i < (bfs succ a n).length) : (bfs succ a m)[i]? = (bfs succ a n)[i]? := by
 obtain ⟨k, rfl⟩ := Nat.exists_eq_add_of_le h;obtain ⟨_, hl⟩ := Q5b succ a n k;rw [hl, List.getElem?_append_left hi]
theorem N1c (n : Nat) : (bfs succ a n)[0]? = some a := by
 rw [d5c succ a (Nat.zero_le n) (by simp [bfs])]; rfl
inductive I3a (succ : α → List α) (a : α) : α → Prop
 | start : I3a succ a a
 | next {c d : α} (h : I3a succ a c) (hd : d ∈ succ c) : I3a succ a d
theorem M5a : ∀ (n : Nat) (x : α), x ∈ bfs succ a n → I3a succ a x
 | 0, x, h => by simp [bfs] at h; subst h; exact .start
 | n + 1, x, h => by
   rw [bfs] at h
   split at h
   ·rename_i c hc;rcases (j1b _ _ _).1 h with h | h
    ·exact M5a n x h
    ·exact .next (M5a n c (List.mem_of_getElem? hc)) h
   ·exact M5a n x h
theorem C8b {n : Nat} (h : (bfs succ a n).length ≤ n) {x : α} (hx : I3a succ a x) : x ∈ bfs succ a n := by
 induction hx with
 | start => exact List.mem_of_getElem? (N1c succ a n)
 | next _ hd ih =>
   obtain ⟨i, hi, he⟩ := List.getElem_of_mem ih;exact P6b succ a n i (by omega) _ (by rw [List.getElem?_eq_getElem hi, he]) _ hd
end
theorem p1a {p : f0a} {m : Int} {c : r0a} {x : A0a} : x ∈ H0a p m c ↔ ∃ t, t < p.threads.length ∧
 ((∃ (i : Nat) (s : t1a), (V2a p t)[i]? = some s ∧ K0a p m c t s = true ∧ x = ⟨t, i, 0⟩) ∨
  (∃ i : Nat, i < (c.buf.getD t []).length ∧ T2a m (c.buf.getD t []) i = true ∧ x = ⟨t, -1, ((c.buf.getD t []).getD i ⟨[], []⟩).cells.getD 0 0⟩)) := by
 unfold H0a;rw [List.mem_flatMap];constructor
 ·rintro ⟨t, ht, h⟩;refine ⟨t, List.mem_range.1 ht, ?_⟩;unfold i6a at h;rcases List.mem_append.1 h with h | h
  ·obtain ⟨i, hi, rfl⟩ := List.mem_map.1 h;obtain ⟨hi, he⟩ := List.mem_filter.1 hi
   split at he
   ·rename_i s hs;exact .inl ⟨i, s, hs, he, rfl⟩
   ·cases he
  ·obtain ⟨i, hi, rfl⟩ := List.mem_map.1 h;obtain ⟨hi, he⟩ := List.mem_filter.1 hi;exact .inr ⟨i, List.mem_range.1 hi, he, rfl⟩
 ·rintro ⟨t, ht, h⟩;refine ⟨t, List.mem_range.2 ht, ?_⟩;unfold i6a;rw [List.mem_append];rcases h with ⟨i, s, hs, he, rfl⟩ | ⟨i, hi, he, rfl⟩
  ·refine .inl (List.mem_map.2 ⟨i, List.mem_filter.2 ⟨List.mem_range.2 (List.getElem?_eq_some_iff.1 hs).1, ?_⟩, rfl⟩);simp only [hs]; exact he
  ·exact .inr (List.mem_map.2 ⟨i, List.mem_filter.2 ⟨List.mem_range.2 hi, he⟩, rfl⟩)
theorem I3a.to {α : Type} {succ a0 : α → List α} {a x : α} (hx : I3a succ a x) (h : ∀ c d, I3a succ a c → I3a a0 a c → d ∈ succ c → I3a a0 a d) : I3a a0 a x := by
 induction hx with
 | start => exact .start
 | next hc hd ih => exact h _ _ hc ih hd
theorem i7b (p : f0a) (c : r0a) (t : Nat) (s : t1a) : K0a p 1 c t s = K0a p 2 c t s := by unfold K0a; simp
theorem r5c (p : f0a) (c : r0a) (t : Nat) (s : t1a) : n3a p 1 c t s = n3a p 2 c t s := by unfold n3a; simp
theorem Q8c (p : f0a) (c : r0a) (x : A0a) : doC p 1 c x = doC p 2 c x := by
 unfold doC
 split
 ·rfl
 ·split
  ·rw [r5c]
  ·rfl
theorem D6b {p : f0a} {c : r0a} {x : A0a} (h : x ∈ H0a p 1 c) : x ∈ H0a p 2 c := by
 obtain ⟨t, ht, h⟩ := p1a.1 h;refine p1a.2 ⟨t, ht, ?_⟩;rcases h with ⟨i, s, hs, he, hx⟩ | ⟨i, hi, he, hx⟩
 ·exact .inl ⟨i, s, hs, by rw [← i7b]; exact he, hx⟩
 ·refine .inr ⟨i, hi, ?_, hx⟩;unfold T2a at he ⊢;simp at he;simp [he]
theorem i1c {p : f0a} {c : r0a} (h : I3a (Q5a p 1) (X0a p) c) : I3a (Q5a p 2) (X0a p) c := by
 refine h.to fun c d _ h2 hd => ?_;obtain ⟨x, hx, rfl⟩ := List.mem_map.1 hd;exact .next h2 (List.mem_map.2 ⟨x, D6b hx, (Q8c p c x).symm⟩)
def P5a (l : List (Nat × Int)) (m : List Int) : List Int := l.foldl (fun m x => m.set x.1 x.2) m
theorem e0b : ∀ (l : List (Nat × Int)) (m : List Int) (k : Nat) (v : Int), (∀ x ∈ l, x.1 ≠ k) → P5a l (m.set k v) = (P5a l m).set k v
 | [], _, _, _, _ => rfl
 | x :: l, m, k, v, h => by
   have h1 : x.1 ≠ k := h x (by simp);show P5a l ((m.set k v).set x.1 x.2) = (P5a l (m.set x.1 x.2)).set k v;rw [List.set_comm _ _ (Ne.symm h1)];exact e0b l _ k v fun y hy => h y (by simp [hy])
theorem R5b (s : List E1a) (v m : List Int) : z7a s v m = P5a (s.map fun a => (a.cell.toNat, a.to.evl v v)) m := by
 unfold z7a P5a; rw [List.foldl_map]
theorem E7b (p : f0a) (s : List E1a) (v m : List Int) : i3a m (t7a p s v) = P5a ((s.filter fun a => y1a p.cells a.cell = -1).map fun a => (a.cell.toNat, a.to.evl v v)) m := by
 unfold i3a t7a P5a;simp only;rw [List.zip_map', List.foldl_map, List.foldl_map]
theorem L4b (p : f0a) (v m : List Int) (s : List E1a) (h : s.Pairwise fun a b => a.cell.toNat ≠ b.cell.toNat) :
 i3a (z7a (s.filter fun a => y1a p.cells a.cell ≠ -1) v m) (t7a p s v) = z7a s v m := by
 rw [E7b, R5b, R5b]
 induction s generalizing m with
 | nil => rfl
 | cons a s ih =>
   obtain ⟨h1, h2⟩ := List.pairwise_cons.1 h;by_cases hq : y1a p.cells a.cell = -1
   ·rw [List.filter_cons_of_pos (by simp [hq]), List.filter_cons_of_neg (by simp [hq])];show P5a (List.map _ _) ((P5a _ m).set _ _) = P5a _ (m.set _ _);rw [← e0b _ _ _ _ (fun y hy => ?_)]
    ·exact ih _ h2
    ·obtain ⟨b, hb, rfl⟩ := List.mem_map.1 hy;exact Ne.symm (h1 b (List.mem_filter.1 hb).1)
   ·rw [List.filter_cons_of_neg (by simp [hq]), List.filter_cons_of_pos (by simp [hq])];exact ih _ h2
theorem C3b {α β : Type} (l : List α) (t : Nat) : (l.map fun _ => ([] : List β)).getD t [] = [] := by
 rw [List.getD_eq_getElem?_getD, List.getElem?_map];cases l[t]? <;> rfl
theorem a8b {p : f0a} {c : r0a} (h : I3a (Q5a p 0) (X0a p) c) : c.buf.length = p.threads.length ∧ ∀ t, c.buf.getD t [] = [] := by
 induction h with
 | start => exact ⟨by simp [X0a], fun t => C3b _ _⟩
 | next _ hd ih =>
   obtain ⟨_, hx, rfl⟩ := List.mem_map.1 hd;obtain ⟨t, _, h | h⟩ := p1a.1 hx
   ·obtain ⟨i, _, hs, _, rfl⟩ := h;unfold doC;rw [if_neg (by simp)];simp only [Int.toNat_natCast, hs];unfold n3a;rw [if_neg (by simp)];exact ih
   ·obtain ⟨i, hi, _⟩ := h;rw [ih.2 t] at hi; simp at hi
theorem f2b {p : f0a} {m : Int} {c : r0a} {t i : Nat} {s : t1a} (hs : (V2a p t)[i]? = some s) : doC p m c ⟨t, i, 0⟩ = n3a p m c t s := by
 unfold doC;rw [if_neg (by simp)];simp only [Int.toNat_natCast, hs]
theorem Y5b {p : f0a} (hp : a1a p) {t i : Nat} {s : t1a} (ht : t < p.threads.length) (hs : (V2a p t)[i]? = some s) : X6a p t (p.threads[t]).points s := by
 have := (hp.threads t ht).steps s;unfold V2a at hs;rw [List.getD_eq_getElem?_getD, List.getElem?_eq_getElem ht] at hs;exact this (List.mem_of_getElem? hs)
theorem X1c {p : f0a} (hp : a1a p) {c : r0a} (h : I3a (Q5a p 0) (X0a p) c) : I3a (Q5a p 1) (X0a p) c := by
 refine h.to fun c d hc h2 hd => ?_;obtain ⟨b0, hq⟩ := a8b hc;obtain ⟨_, hx, rfl⟩ := List.mem_map.1 hd;obtain ⟨t, ht, h | h⟩ := p1a.1 hx
 ·obtain ⟨i, s, hs, he, rfl⟩ := h;rw [f2b hs];have f0 : K0a p 1 c t s = true := by
   unfold K0a at he ⊢;simp only [Bool.and_eq_true] at he ⊢;refine ⟨he.1, he.2.1, ?_⟩;have h3 := he.2.2
   split
   ·simp only [hq t, List.length_nil]; simp
   ·rename_i hk;rw [if_neg hk] at h3; exact h3
  have a0 : n3a p 1 c t s ∈ Q5a p 1 c := List.mem_map.2 ⟨⟨t, i, 0⟩, p1a.2 ⟨t, ht, .inl ⟨i, s, hs, f0, rfl⟩⟩, f2b hs⟩;by_cases hk : s.kind = 3
  ·have d0 := Y5b hp ht hs;have e1 : n3a p 1 c t s = ⟨z7a (s.set.filter fun a => y1a p.cells a.cell ≠ -1) (B1a c t) c.mem, atC c t s, c.buf.set t [t7a p s.set (B1a c t)]⟩ := by
    unfold n3a; rw [if_pos ⟨hk, by decide⟩, hq t]; rfl
   have hb : (n3a p 1 c t s).buf.getD t [] = [t7a p s.set (B1a c t)] := by
    rw [e1]; simp [List.getD_eq_getElem?_getD, b0, ht]
   have e2 : n3a p 0 c t s = B4a (n3a p 1 c t s) t 0 := by
    have e3 : n3a p 0 c t s = ⟨z7a s.set (B1a c t) c.mem, atC c t s, c.buf⟩ := by unfold n3a; rw [if_neg (by simp)]
    unfold B4a;rw [hb, e3, e1];simp only [List.getD_cons_zero, List.eraseIdx_cons_zero];rw [L4b p _ _ _ (d0.once.imp_of_mem fun {a b} ha hb g0 => ?_)]
    ·congr 1
     rw [List.set_set];refine (List.ext_getElem? fun j => ?_);rw [List.getElem?_set]
     split
     ·rename_i hj;subst hj;have := hq t;rw [List.getD_eq_getElem?_getD] at this;have e0 : t < c.buf.length := by omega
      rw [List.getElem?_eq_getElem e0] at this ⊢;simp at this;simp [this, e0]
     ·rfl
    ·have ha := (d0.set a ha).1.1;have hb := (d0.set b hb).1.1;omega
   refine .next (.next h2 a0) (List.mem_map.2 ⟨⟨t, -1, (t7a p s.set (B1a c t)).cells.getD 0 0⟩, p1a.2 ⟨t, ht, .inr ⟨0, by rw [hb]; simp, by rw [hb]; simp [T2a], by rw [hb]; rfl⟩⟩, ?_⟩);rw [e2];unfold doC;rw [if_pos rfl];simp only [Int.toNat_natCast];rw [hb];simp [List.findIdx?_cons]
  ·have e1 : n3a p 0 c t s = n3a p 1 c t s := by unfold n3a; simp [hk]
   rw [e1]; exact .next h2 a0
 ·obtain ⟨i, hi, _⟩ := h;rw [hq t] at hi; simp at hi
def A4a (e : G0a) : List Int := (e.cells.length : Int) :: (e.cells.zip e.values).flatMap fun x => [x.1, x.2]
def B2a (b : List G0a) : List Int := (b.length : Int) :: b.flatMap A4a
def f5a (c : r0a) : List Int := c.mem ++ (c.at_ ++ c.buf.flatMap B2a)
theorem J8a {α β : Type} (G : α → Prop) (f : α → List β) (hf : ∀ a b r r', G a → G b → f a ++ r = f b ++ r' → a = b ∧ r = r') :
 ∀ (l l' : List α) (r r' : List β), (∀ a ∈ l, G a) → (∀ a ∈ l', G a) → l.length = l'.length → l.flatMap f ++ r = l'.flatMap f ++ r' → l = l' ∧ r = r'
 | [], [], r, r', _, _, _, h => ⟨rfl, by simpa using h⟩
 | [], b :: l', _, _, _, _, h, _ => by simp at h
 | a :: l, [], _, _, _, _, h, _ => by simp at h
 | a :: l, b :: l', r, r', h1, h2, h3, h => by
   rw [List.flatMap_cons, List.flatMap_cons, List.append_assoc, List.append_assoc] at h;obtain ⟨rfl, h4⟩ := hf a b _ _ (h1 a (by simp)) (h2 b (by simp)) h;obtain ⟨rfl, h5⟩ := J8a G f hf l l' r r' (fun x hx => h1 x (by simp [hx])) (fun x hx => h2 x (by simp [hx])) (by simpa using h3) h4;exact ⟨rfl, h5⟩
def G0a.even (e : G0a) : Prop := e.values.length = e.cells.length
theorem f8b : ∀ (a b c d : List Int), a.length = b.length → c.length = d.length → a.zip b = c.zip d → a = c ∧ b = d
 | [], [], [], [], _, _, _ => ⟨rfl, rfl⟩
 | [], [], c :: zs, [], _, h, _ => by simp at h
 | [], [], [], d :: us, _, h, _ => by simp at h
 | [], [], c :: zs, d :: us, _, _, h => by simp at h
 | a :: xs, [], _, _, h, _, _ => by simp at h
 | [], b :: ys, _, _, h, _, _ => by simp at h
 | a :: xs, b :: ys, [], [], _, _, h => by simp at h
 | a :: xs, b :: ys, c :: zs, [], _, h, _ => by simp at h
 | a :: xs, b :: ys, [], d :: us, _, h, _ => by simp at h
 | a :: xs, b :: ys, c :: zs, d :: us, h1, h2, h => by
   simp only [List.zip_cons_cons, List.cons.injEq, Prod.mk.injEq] at h;obtain ⟨⟨rfl, rfl⟩, h⟩ := h;obtain ⟨rfl, rfl⟩ := f8b xs ys zs us (by simpa using h1) (by simpa using h2) h;exact ⟨rfl, rfl⟩
theorem W5c (e f : G0a) (r r' : List Int) (he : e.even) (hf : f.even) (h : A4a e ++ r = A4a f ++ r') : e = f ∧ r = r' := by
 unfold A4a at h;simp only [List.cons_append, List.cons.injEq] at h;obtain ⟨_, h2⟩ := h;have hl : (e.cells.zip e.values).length = (f.cells.zip f.values).length := by
  rw [List.length_zip, List.length_zip, he, hf]; omega
 obtain ⟨h3, h4⟩ := J8a (fun _ => True) (fun x : Int × Int => [x.1, x.2]) (fun a b r r' _ _ h => by
  obtain ⟨_, _⟩ := a;obtain ⟨_, _⟩ := b;simp only [List.cons_append, List.nil_append, List.cons.injEq] at h;obtain ⟨rfl, rfl, h⟩ := h;exact ⟨rfl, h⟩) _ _ r r' (fun _ _ => trivial) (fun _ _ => trivial) hl h2
 obtain ⟨h5, h6⟩ := f8b _ _ _ _ he.symm hf.symm h3;cases e; cases f;simp only at h5 h6;subst h5; subst h6;exact ⟨rfl, h4⟩
theorem L5c (b b' : List G0a) (r r' : List Int) (h1 : ∀ e ∈ b, e.even) (h2 : ∀ e ∈ b', e.even) (h : B2a b ++ r = B2a b' ++ r') : b = b' ∧ r = r' := by
 unfold B2a at h;simp only [List.cons_append, List.cons.injEq] at h;exact J8a G0a.even A4a W5c b b' r r' h1 h2 (by omega) h.2
structure r0a.Shape (c : r0a) (n t : Nat) : Prop where
 mem : c.mem.length = n
 at_ : c.at_.length = t
 buf : c.buf.length = t
 even : ∀ b ∈ c.buf, ∀ e ∈ b, e.even
theorem w6b {c d : r0a} {n t : Nat} (hc : c.Shape n t) (hd : d.Shape n t) (h : f5a c = f5a d) : c = d := by
 unfold f5a at h;obtain ⟨h1, h2⟩ := List.append_inj h (hc.mem.trans hd.mem.symm);obtain ⟨h3, h4⟩ := List.append_inj h2 (hc.at_.trans hd.at_.symm);obtain ⟨h5, _⟩ := J8a (fun b : List G0a => ∀ e ∈ b, e.even) B2a L5c c.buf d.buf [] [] hc.even hd.even (hc.buf.trans hd.buf.symm) (by simpa using h4);cases c; cases d;simp only at h1 h3 h5;subst h1; subst h3; subst h5;rfl
theorem g0c {e : E} {d0 : Int} (h : e.good d0 = true) (old b0 : List Int) : 0 ≤ e.val old b0 ∧ e.val old b0 < N4a e.w.toNat := by
 obtain ⟨a0, _⟩ := c8a h;have hw : e.w ≤ 8 := a0.2.1;have hb : ∀ a, 0 ≤ e4b a (N4a e.w.toNat - 1) ∧ e4b a (N4a e.w.toNat - 1) < N4a e.w.toNat := fun a => by
  rw [M9a _ _ (by omega)];have := X0b e.w.toNat;exact ⟨Int.emod_nonneg _ (by omega), Int.emod_lt_of_pos _ this⟩
 rw [E.val_def];by_cases o1 : e.op = 1
 ·rw [if_pos o1]; have := (O4b o1).1 a0; omega
 ·rw [if_neg o1]
  split
  ·exact hb _
  ·split
   ·exact hb _
   ·exact hb _
theorem H9a {cells : List d2a} {b0 : Bool} {e : E} (h : e.valid cells b0 = true) (old a0 : List Int) : 0 ≤ e.evl old a0 ∧ e.evl old a0 < N4a e.w.toNat := by
 obtain ⟨h1, h2, _⟩ := i5a h;unfold E.evl;rw [if_pos h1];exact g0c h2 old a0
structure n5a (p : f0a) (m : List Int) : Prop where
 len : m.length = p.cells.length
 vals : ∀ (i : Nat) (v : Int), m[i]? = some v → 0 ≤ v ∧ v < N4a (wAt p.cells i).toNat
theorem n5a.set {p : f0a} {m : List Int} (h : n5a p m) {k : Nat} {v : Int} (hv : 0 ≤ v ∧ v < N4a (wAt p.cells k).toNat) : n5a p (m.set k v) := by
 refine ⟨by rw [List.length_set]; exact h.len, fun i x hi => ?_⟩;rw [List.getElem?_set] at hi
 split at hi
 ·rename_i hk;subst hk
  split at hi
  ·cases hi; exact hv
  ·cases hi
 ·exact h.vals i x hi
structure Z9a (p : f0a) (e : G0a) : Prop where
 some_ : e.cells ≠ []
 even : e.even
 cells : ∀ (i : Nat) (n : Int), e.cells[i]? = some n → t2a n p.cells.length ∧ y1a p.cells n = -1 ∧ n0b p.cells n = decide (0 < i)
 vals : ∀ x ∈ e.cells.zip e.values, 0 ≤ x.2 ∧ x.2 < N4a (wAt p.cells x.1).toNat
 once : e.cells.Nodup
theorem n5a.write {p : f0a} {m : List Int} (h : n5a p m) {e : G0a} (he : Z9a p e) : n5a p (i3a m e) := by
 unfold i3a;have key : ∀ (l : List (Int × Int)) (m : List Int), n5a p m → (∀ x ∈ l, 0 ≤ x.1 ∧ 0 ≤ x.2 ∧ x.2 < N4a (wAt p.cells x.1).toNat) → n5a p (l.foldl (fun m x => m.set x.1.toNat x.2) m) := by
  intro l
  induction l with
  | nil => intro m h _; exact h
  | cons x l ih =>
    intro m h hl;rw [List.foldl_cons];obtain ⟨h0, h1⟩ := hl x (by simp);exact ih _ (h.set (by rw [Int.toNat_of_nonneg h0]; exact h1)) fun y hy => hl y (by simp [hy])
 refine key _ m h fun x hx => ?_;have b0 := List.of_mem_zip (a := x.1) (b := x.2) hx;obtain ⟨i, hi, a0⟩ := List.getElem_of_mem b0.1;have := he.cells i x.1 (by rw [List.getElem?_eq_getElem hi, a0]);exact ⟨this.1.1, he.vals x hx⟩
theorem v8c {p : f0a} {t : Nat} {n : Int} {s : t1a} (hs : X6a p t n s) (hk : s.kind = 3) (v : List Int) : Z9a p (t7a p s.set v) := by
 obtain ⟨a, l, b0, d0, e0, hl⟩ := hs.row.k3 hk;have hf : (s.set.filter fun a => y1a p.cells a.cell = -1) = a :: l.filter fun a => y1a p.cells a.cell = -1 := by
  rw [b0, List.filter_cons_of_pos (by simp [d0])]
 have a0 : ∀ b ∈ s.set.filter fun a => y1a p.cells a.cell = -1, b ∈ s.set ∧ y1a p.cells b.cell = -1 := fun b hb => by
  obtain ⟨h1, h2⟩ := List.mem_filter.1 hb;exact ⟨h1, by simpa using h2⟩
 refine ⟨?_, ?_, fun i x hi => ?_, fun x hx => ?_, ?_⟩
 ·unfold t7a; rw [hf]; simp
 ·unfold t7a G0a.even; simp
 ·unfold t7a at hi;simp only [List.getElem?_map, Option.map_eq_some_iff] at hi;obtain ⟨b, hb, rfl⟩ := hi;obtain ⟨h1, h2⟩ := a0 b (List.mem_of_getElem? hb);refine ⟨(hs.set b h1).1, h2, ?_⟩;rw [hf] at hb;cases i with
  | zero => simp at hb; subst hb; simpa using e0
  | succ i =>
    rw [List.getElem?_cons_succ] at hb;have := hl b (List.mem_filter.1 (List.mem_of_getElem? hb)).1;rw [this]; simp
 ·unfold t7a at hx;simp only [List.zip_map'] at hx;obtain ⟨b, hb, rfl⟩ := List.mem_map.1 hx;obtain ⟨h1, h2⟩ := a0 b hb;obtain ⟨_, h3, h4⟩ := hs.set b h1;have := H9a h3 v v;rw [h4] at this;exact this
 ·unfold t7a List.Nodup;simp only;rw [List.pairwise_map];exact hs.once.filter _
theorem n5a.sets {p : f0a} {v : List Int} : ∀ (l : List E1a) (m : List Int), n5a p m → (∀ a ∈ l, t2a a.cell p.cells.length ∧ a.to.valid p.cells false = true ∧ a.to.w = wAt p.cells a.cell) → n5a p (z7a l v m)
 | [], _, h, _ => h
 | a :: l, m, h, hl => by
   obtain ⟨h1, h2, h3⟩ := hl a (by simp);have hr := H9a h2 v v;rw [h3] at hr;exact n5a.sets l _ (h.set (by rw [Int.toNat_of_nonneg h1.1]; exact hr)) fun b hb => hl b (by simp [hb])
structure F3a (p : f0a) (c : r0a) : Prop where
 mem : n5a p c.mem
 nat : c.at_.length = p.threads.length
 atr : ∀ (t : Nat) (x : Int), c.at_[t]? = some x → ∀ th, p.threads[t]? = some th → -1 ≤ x ∧ x < th.points ∧ (x = -1 → th.asleep = true)
 nbuf : c.buf.length = p.threads.length
 bufs : ∀ (t : Nat) (b : List G0a), c.buf[t]? = some b → b.length ≤ 3 ∧ (∀ e ∈ b, Z9a p e) ∧ (c.at_[t]? = some (-1) → b = [])
theorem R5a {p : f0a} (hp : a1a p) : F3a p (X0a p) := by
 refine ⟨⟨by simp [X0a], fun i v hi => ?_⟩, by simp [X0a], fun t x hx th a0 => ?_, by simp [X0a], fun t b hb => ?_⟩
 ·simp only [X0a, List.getElem?_map, Option.map_eq_some_iff] at hi;obtain ⟨c, hc, rfl⟩ := hi;have h := (hp.cells c (List.mem_of_getElem? hc)).init;have hw : wAt p.cells i = c.w := by unfold wAt; simp [hc]
  rw [hw]; exact h
 ·simp only [X0a, List.getElem?_map, a0, Option.map_some, Option.some.injEq] at hx;have b0 := (List.getElem?_eq_some_iff.1 a0).1;have he := (List.getElem?_eq_some_iff.1 a0).2;have h := (hp.threads t b0).points;rw [he] at h;subst hx;cases ha : th.asleep with
  | true => simp; omega
  | false => simp; omega
 ·simp only [X0a, List.getElem?_map, Option.map_eq_some_iff] at hb;obtain ⟨_, _, rfl⟩ := hb;simp
theorem R4b {c : r0a} {t : Nat} {s : t1a} {u : Nat} {x : Int} (h : (atC c t s)[u]? = some x) : (u ≠ t ∧ c.at_[u]? = some x) ∨ (u = t ∧ x = s.to) ∨ (s.kind = 6 ∧ u = s.target.toNat ∧ x = 0) := by
 have key : ∀ x, (c.at_.set t s.to)[u]? = some x → (u ≠ t ∧ c.at_[u]? = some x) ∨ (u = t ∧ x = s.to) := fun x h => by
  rw [List.getElem?_set] at h
  split at h
  ·rename_i hh
   split at h
   ·cases h; exact .inr ⟨hh.symm, rfl⟩
   ·cases h
  ·rename_i hh;exact .inl ⟨fun e => hh e.symm, h⟩
 unfold atC at h
 split at h
 ·rename_i hk;rw [List.getElem?_set] at h
  split at h
  ·rename_i hh
   split at h
   ·cases h; exact .inr (.inr ⟨hk, hh.symm, rfl⟩)
   ·cases h
  ·rcases key x h with h | h
   ·exact .inl h
   ·exact .inr (.inl h)
 ·rcases key x h with h | h
  ·exact .inl h
  ·exact .inr (.inl h)
theorem H5a (c : r0a) (t : Nat) (s : t1a) : (atC c t s).length = c.at_.length := by
 unfold atC; split <;> simp
theorem v1b {p : f0a} (hp : a1a p) {t : Nat} {th : Q0a} (h : p.threads[t]? = some th) : 1 ≤ th.points := by
 obtain ⟨a0, rfl⟩ := List.getElem?_eq_some_iff.1 h;exact (hp.threads t a0).points.1
theorem e3c {p : f0a} (hp : a1a p) {c : r0a} (hf : F3a p c) {t : Nat} {s : t1a} (ht : t < p.threads.length) (hs : X6a p t (p.threads[t]).points s) :
 ∀ (u : Nat) (x : Int), (atC c t s)[u]? = some x → ∀ th, p.threads[u]? = some th → -1 ≤ x ∧ x < th.points ∧ (x = -1 → th.asleep = true) := by
 intro u x hx th a0;rcases R4b hx with ⟨_, h⟩ | ⟨rfl, rfl⟩ | ⟨_, _, rfl⟩
 ·exact hf.atr u x h th a0
 ·obtain ⟨_, rfl⟩ := List.getElem?_eq_some_iff.1 a0;have := hs.to;omega
 ·have := v1b hp a0;omega
theorem H2c {p : f0a} (hp : a1a p) {m : Int} {c : r0a} (hf : F3a p c) {t i : Nat} {s : t1a} (ht : t < p.threads.length) (hs : (V2a p t)[i]? = some s) (he : K0a p m c t s = true) : F3a p (n3a p m c t s) := by
 have b0 := Y5b hp ht hs;have a0 : ∀ u b, c.buf[u]? = some b → (atC c t s)[u]? = some (-1) → b = [] := fun u b hb hu => by
  rcases R4b hu with ⟨_, h⟩ | ⟨rfl, h⟩ | ⟨_, _, h⟩
  ·exact (hf.bufs u b hb).2.2 h
  ·have := b0.to; omega
  ·omega
 unfold n3a
 split
 ·rename_i hk;have e0 : (c.buf.getD t []).length < 3 := by
   unfold K0a at he;simp only [Bool.and_eq_true, if_pos hk.1, decide_eq_true_eq] at he;rcases he.2.2 with h | h
   ·exact absurd h hk.2
   ·exact h.1
  have f0 : t < c.buf.length := by rw [hf.nbuf]; exact ht
  have hb := hf.bufs t (c.buf.getD t []) (by rw [List.getD_eq_getElem?_getD, List.getElem?_eq_getElem f0]; rfl);refine ⟨n5a.sets _ _ hf.mem (fun a ha => b0.set a (List.mem_filter.1 ha).1), by simp only [H5a]; exact hf.nat, e3c hp hf ht b0, by simp only [List.length_set]; exact hf.nbuf, fun u b hu => ?_⟩;simp only [List.getElem?_set] at hu
  split at hu
  ·rename_i g0;subst g0;cases hu;refine ⟨by rw [List.length_append, List.length_singleton]; omega, fun e d0 => ?_, fun hu => ?_⟩
   ·rcases List.mem_append.1 d0 with h | h
    ·exact hb.2.1 e h
    ·rw [List.mem_singleton.1 h]; exact v8c b0 hk.1 _
   ·exfalso;rcases R4b hu with ⟨h, _⟩ | ⟨_, h⟩ | ⟨_, _, h⟩
    ·exact h rfl
    ·have := b0.to; omega
    ·omega
  ·exact ⟨(hf.bufs u b hu).1, (hf.bufs u b hu).2.1, a0 u b hu⟩
 ·exact ⟨n5a.sets _ _ hf.mem (fun a ha => b0.set a ha), by simp only [H5a]; exact hf.nat, e3c hp hf ht b0, hf.nbuf, fun u b hu => ⟨(hf.bufs u b hu).1, (hf.bufs u b hu).2.1, a0 u b hu⟩⟩
theorem G0b {p : f0a} {c : r0a} (hf : F3a p c) (t i : Nat) : F3a p (B4a c t i) := by
 unfold B4a;refine ⟨?_, hf.nat, hf.atr, by simp only [List.length_set]; exact hf.nbuf, fun u b hu => ?_⟩
 ·by_cases a0 : t < c.buf.length
  ·have hb := hf.bufs t (c.buf.getD t []) (by rw [List.getD_eq_getElem?_getD, List.getElem?_eq_getElem a0]; rfl);by_cases hi : i < (c.buf.getD t []).length
   ·rw [List.getD_eq_getElem?_getD (i := i), List.getElem?_eq_getElem hi];exact hf.mem.write (hb.2.1 _ (List.getElem_mem hi))
   ·rw [List.getD_eq_getElem?_getD (i := i), List.getElem?_eq_none (by omega)];exact hf.mem
  ·have h0 : c.buf.getD t [] = [] := by rw [List.getD_eq_getElem?_getD, List.getElem?_eq_none (by omega)]; rfl
   rw [h0];exact hf.mem
 ·simp only [List.getElem?_set] at hu
  split at hu
  ·rename_i b0;subst b0
   split at hu
   ·rename_i a0;cases hu;have hb := hf.bufs t (c.buf.getD t []) (by rw [List.getD_eq_getElem?_getD, List.getElem?_eq_getElem a0]; rfl);refine ⟨Nat.le_trans (List.length_eraseIdx_le _ _) hb.1, fun e he => hb.2.1 e (List.mem_of_mem_eraseIdx he), fun h => ?_⟩;rw [hb.2.2 h]; rfl
   ·cases hu
  ·exact hf.bufs u b hu
theorem O5b {p : f0a} (hp : a1a p) {m : Int} {c : r0a} (hf : F3a p c) {x : A0a} (hx : x ∈ H0a p m c) : F3a p (doC p m c x) := by
 obtain ⟨_, ht, h | h⟩ := p1a.1 hx
 ·obtain ⟨i, _, hs, he, rfl⟩ := h;rw [f2b hs]; exact H2c hp hf ht hs he
 ·obtain ⟨i, _, he, rfl⟩ := h;unfold doC;rw [if_pos rfl];exact G0b hf _ _
theorem Y3a {p : f0a} (hp : a1a p) {m : Int} {c : r0a} (h : I3a (Q5a p m) (X0a p) c) : F3a p c := by
 induction h with
 | start => exact R5a hp
 | next _ hd ih =>
   obtain ⟨_, hx, rfl⟩ := List.mem_map.1 hd;exact O5b hp ih hx
theorem F3a.shape {p : f0a} {c : r0a} (hf : F3a p c) : c.Shape p.cells.length p.threads.length :=
 ⟨hf.mem.len, hf.nat, hf.nbuf, fun b hb e he => by
  obtain ⟨t, ht, rfl⟩ := List.getElem_of_mem hb;exact ((hf.bufs t _ (List.getElem?_eq_getElem ht)).2.1 e he).even⟩
theorem g7a : ∀ (n : Nat) (l : List Int), l.Nodup → (∀ x ∈ l, 0 ≤ x ∧ x < n) → l.length ≤ n
 | 0, l, _, h => by
   cases l with
   | nil => simp
   | cons x l => have := h x (by simp); omega
 | n + 1, l, hd, h => by
   by_cases hn : (n : Int) ∈ l
   ·have h1 := g7a n (l.erase (n : Int)) (hd.erase _) (fun x hx => by
     obtain ⟨_, h3⟩ := (hd.mem_erase_iff).1 hx;have := h x h3;omega)
    rw [List.length_erase_of_mem hn] at h1;omega
   ·have h1 := g7a n l hd (fun x hx => by
     have := h x hx;have : x ≠ (n : Int) := fun e => hn (e ▸ hx);omega)
    omega
theorem Z9a.len {p : f0a} {e : G0a} (h : Z9a p e) : e.cells.length ≤ p.cells.length :=
 g7a _ _ h.once fun x hx => by
  obtain ⟨i, hi, rfl⟩ := List.getElem_of_mem hx;exact (h.cells i _ (List.getElem?_eq_getElem hi)).1
theorem V7c {p : f0a} (hp : a1a p) (x : Int) : wAt p.cells x ≤ 8 := by
 unfold wAt
 split
 ·cases h : p.cells[x.toNat]? with
  | none => simp
  | some c => simpa using (hp.cells c (List.mem_of_getElem? h)).w.2
 ·omega
theorem B5b {p : f0a} (hp : a1a p) (x : Int) : N4a (wAt p.cells x).toNat ≤ 256 := by
 have h := V7c hp x;have h2 : (2 : Nat) ^ (wAt p.cells x).toNat ≤ 2 ^ 8 := Nat.pow_le_pow_right (by omega) (by omega);rw [c5a];omega
theorem h6a {p : f0a} (hp : a1a p) {c : r0a} (hf : F3a p c) : (∀ x ∈ c.mem, 0 ≤ x ∧ x ≤ 255) ∧ (∀ x ∈ c.at_, -1 ≤ x ∧ x ≤ 47) ∧ ∀ x ∈ c.buf.flatMap B2a, 0 ≤ x ∧ x ≤ 255 := by
 refine ⟨fun x hx => ?_, fun x hx => ?_, fun x hx => ?_⟩
 ·obtain ⟨i, hi, rfl⟩ := List.getElem_of_mem hx;have := hf.mem.vals i _ (List.getElem?_eq_getElem hi);have := B5b hp i;omega
 ·obtain ⟨t, ht, rfl⟩ := List.getElem_of_mem hx;have a0 : t < p.threads.length := by rw [← hf.nat]; exact ht
  have h1 := hf.atr t _ (List.getElem?_eq_getElem ht) _ (List.getElem?_eq_getElem a0);have h2 := (hp.threads t a0).points;omega
 ·obtain ⟨b, hb, hx⟩ := List.mem_flatMap.1 hx;obtain ⟨t, ht, rfl⟩ := List.getElem_of_mem hb;obtain ⟨h1, h2, _⟩ := hf.bufs t _ (List.getElem?_eq_getElem ht);unfold B2a at hx;rcases List.mem_cons.1 hx with rfl | hx
  ·omega
  ·obtain ⟨e, he, hx⟩ := List.mem_flatMap.1 hx;have hE := h2 e he;unfold A4a at hx;rcases List.mem_cons.1 hx with rfl | hx
   ·have := hE.len;have := hp.ncells;omega
   ·obtain ⟨y, hy, hx⟩ := List.mem_flatMap.1 hx;have h3 := hE.vals y hy;have h4 := B5b hp y.1;obtain ⟨i, hi, b0⟩ := List.getElem_of_mem (List.of_mem_zip (a := y.1) (b := y.2) hy).1;have h5 := (hE.cells i y.1 (by rw [List.getElem?_eq_getElem hi, b0])).1;have h6 := hp.ncells;obtain ⟨_, _⟩ := h5;simp only [List.mem_cons, List.not_mem_nil, or_false] at hx;rcases hx with rfl | rfl <;> omega
section
variable {M : List Nat} {w : World}
theorem t0a.open_ {c : r0a} {cs : List Value} (h : t0a M w c cs) : ∃ Am nm cm Aa na ca Ab nb cb, cs = [.slice Am nm cm, .slice Aa na ca, .slice Ab nb cb] ∧
 RdI M w (.slice Am nm cm) c.mem ∧ RdI M w (.slice Aa na ca) c.at_ ∧ N8c M w (.slice Ab nb cb) c.buf ∧
 nm = c.mem.length ∧ na = c.at_.length ∧ nb = c.buf.length ∧ nm ≤ 140737488355328 ∧ na ≤ 140737488355328 ∧ nb ≤ 140737488355328 := by
 obtain ⟨_, _, _, rfl, h1, h2, h3⟩ := h;obtain ⟨Am, nm, cm, rfl⟩ := h1.form;obtain ⟨Aa, na, ca, rfl⟩ := h2.form;obtain ⟨Ab, nb, cb, rfl⟩ := h3.form;exact ⟨_, _, _, _, _, _, _, _, _, rfl, h1, h2, h3, h1.len.1, h2.len.1, h3.len.1, h1.len.2.2, h2.len.2.2, h3.len.2.2⟩
theorem s5a.open_ {b : List G0a} {cs : List Value} (h : s5a M w cs b) : ∃ A n c, cs = [.slice A n c] ∧ r8c M w (.slice A n c) b ∧ n = b.length ∧ n ≤ 140737488355328 := by
 obtain ⟨_, rfl, h1⟩ := h;obtain ⟨A, n, c, rfl⟩ := h1.form;exact ⟨_, _, _, rfl, h1, h1.len.1, h1.len.2.2⟩
theorem V0a.open_ {e : G0a} {cs : List Value} (h : V0a M w cs e) : ∃ Ac nc cc Av nv cv, cs = [.slice Ac nc cc, .slice Av nv cv] ∧ RdI M w (.slice Ac nc cc) e.cells ∧ RdI M w (.slice Av nv cv) e.values ∧ nc = e.cells.length ∧ nv = e.values.length ∧ nc ≤ 140737488355328 ∧ nv ≤ 140737488355328 := by
 obtain ⟨_, _, rfl, h1, h2⟩ := h;obtain ⟨Ac, nc, cc, rfl⟩ := h1.form;obtain ⟨Av, nv, cv, rfl⟩ := h2.form;exact ⟨_, _, _, _, _, _, rfl, h1, h2, h1.len.1, h2.len.1, h1.len.2.2, h2.len.2.2⟩
end
theorem U9c {cells : List d2a} {k : Nat} {c : d2a} (h : cells[k]? = some c) : wAt cells (k : Int) = c.w := E5a (by omega) (by simpa using h)
structure InP (p : f0a) (M : List Nat) (w : World) (cs : List Value) : Prop where
 rd : k1a M w p cs
 ok : a1a p
 msk : a3a M w
 lt : ∀ g ∈ M, g < w.heap.size
theorem InP.keep {p : f0a} {M : List Nat} {w w' : World} {cs : List Value} (h : InP p M w cs) (hk : w0a M w w') : InP p M w' cs :=
 ⟨h.rd.keep hk, h.ok, h.msk.keep hk, fun g hg => Nat.lt_of_lt_of_le (h.lt g hg) hk.size⟩
theorem a1b {w0 w : World} {L : List Ent} {g t k : Nat} {cs : List Value} {M : List Nat} (S : St [] w0 w L) (hk : L[k]? = some (some g, t, cs)) : ∀ x ∈ g :: M, x ∈ M ∨ w0.heap.size ≤ x := fun x hx => by
 rcases List.mem_cons.1 hx with rfl | h
 ·rcases S.new k hk with h | h
  ·exact .inr h
  ·cases h
 ·exact .inl h
theorem InP.add {p : f0a} {M : List Nat} {w0 w : World} {cs : List Value} (h : InP p M w0 cs) {L : List Ent} {g t k : Nat} {a0 : List Value} (S : St [] w0 w L) (hk : L[k]? = some (some g, t, a0)) : InP p (g :: M) w cs :=
 ⟨(h.rd.more (a1b S hk)).keep (S.keep0 _), h.ok, (h.msk.more (a1b S hk)).keep (S.keep0 _), fun x hx => by
   rcases List.mem_cons.1 hx with rfl | hx
   ·exact S.lt k hk
   ·exact Nat.lt_of_lt_of_le (h.lt x hx) S.size⟩
theorem t0a.add {c : r0a} {M : List Nat} {w0 w : World} {cs : List Value} (h : t0a M w0 c cs) {L : List Ent} {g t k : Nat} {a0 : List Value} (S : St [] w0 w L) (hk : L[k]? = some (some g, t, a0)) : t0a (g :: M) w c cs :=
 (h.more (a1b S hk)).keep (S.keep0 _)
section
variable {H : Type} {enc : TypeId × Value → H} {P : Program} {W : World} {base : Nat} {sp : Nat → Bool} {held : Bool}
def t3a (P : Program) (t : TypeId) (d : DataW H) : Prop := ∀ m ∈ d.weights P t, m ≤ reachBytes
theorem p3a {n : Int} (h : (Lit.int .i64 n).wf = true) : i64 n := by
 simp [Lit.wf, IntKind.min, IntKind.max, IntKind.signed, IntKind.bits] at h; exact h
theorem J8b {a : Addr} {v : Value} (h : W.cell? a = some v) : a = ⟨a.block, a.off, none⟩ := by
 obtain ⟨_, _, s⟩ := a;cases s with
 | none => rfl
 | some x => unfold World.cell? at h; split at h <;> simp at h
theorem G2b {e : TypeId} {l : List (DataW H)} {i : Nat} {d : DataW H} (hi : l[i]? = some d) : ∀ m ∈ d.weights P e, m ∈ DataW.weightsAll P e l := by
 induction l generalizing i with
 | nil => simp at hi
 | cons x xs ih =>
   intro m hm;rw [DataW.weightsAll];cases i with
   | zero => simp at hi; subst hi; exact List.mem_append_left _ hm
   | succ i => exact List.mem_append_right _ (ih (by simpa using hi) m hm)
theorem N2a {α : Type} {size t e : Nat} {fuel : Nat} {R : List Value → α → Prop} {v : Value} {x : DataW H × List MemPlace} (ht : P.underlying t = some (.slice e)) (hc : P.cellsOf e = size) (hs : 0 < size) (o0 : 1 ≤ P.bytesOf e)
 (p0 : ∀ (n : Nat) (cs : List Value) (y : DataW H × List MemPlace), n < fuel → cs.length = size → DataW.trod enc P W base sp held n e cs = some y → t3a P e y.1 → ∃ a, R cs a)
 (h : DataW.trod enc P W base sp held fuel t [v] = some x) (hw : t3a P t x.1) : ∃ l, RdS [] W size R v l := by
 rcases DataW.trod_slice ht h with ⟨h1, h2⟩ | ⟨a, len, g0, b0, rest, n, hf, h1, h2, hb, hl, hm, s0, f0, -, -⟩
 ·cases h1;exact ⟨[], none, 0, 0, rfl, rfl, Nat.le_refl _, by unfold maxLen; omega, by omega, fun h => absurd h (by omega)⟩
 ·cases h1;have n0 : t3a P t (.slice (b0.map (·.1)) (rest.map (·.1))) := by rw [h2] at hw; exact hw
  have e0 : len ≤ 140737488355328 := by
   have := n0 ((b0.length + rest.length) * P.bytesOf e) (by rw [DataW.weights, ht]; simp);have h3 : len * 1 ≤ (b0.length + rest.length) * P.bytesOf e := Nat.mul_le_mul (by omega) o0;unfold reachBytes at this; omega
  have each : ∀ i, i < len → ∃ cs q, cs.length = size ∧ R cs q ∧ ∀ j, j < size → W.cell? ((a.add (i * size)).add j) = cs[j]? := by
   intro i hi;have hg := f0 i hi;have j0 : i < b0.length := by omega
   rw [List.getElem?_eq_getElem j0, Option.bind_eq_some_iff] at hg;obtain ⟨cs, i0, u0⟩ := hg;rw [hc] at i0;obtain ⟨-, d0, a0⟩ := World.cells?_some i0;obtain ⟨q, hq⟩ := p0 n cs _ (by omega) d0 u0 (fun m t0 => by
    refine n0 m ?_;rw [DataW.weights, ht];refine List.mem_cons_of_mem _ (List.mem_append_left _ (G2b (i := i) ?_ m t0));rw [List.getElem?_map, List.getElem?_eq_getElem j0]; rfl)
   exact ⟨cs, q, d0, hq, a0⟩
  by_cases h0 : len = 0
  ·subst h0;exact ⟨[], some a, 0, g0, rfl, rfl, hl, hm, by omega, fun h => absurd h (by omega)⟩
  ·have ha : a = ⟨a.block, a.off, none⟩ := by
    obtain ⟨cs, q, d0, _, a0⟩ := each 0 (by omega);have := a0 0 (by omega);rw [List.getElem?_eq_getElem (by omega)] at this;simp only [Nat.zero_mul, Addr.add_zero'] at this;exact J8b this
   let f : Fin len → α := fun i => Classical.choose (Classical.choose_spec (each i.1 i.2))
   have q0 : ∀ i : Fin len, ∃ cs : List Value, cs.length = size ∧ R cs (f i) ∧ ∀ j, j < size → W.cell? ((a.add (i.1 * size)).add j) = cs[j]? := fun i =>
    ⟨Classical.choose (each i.1 i.2), Classical.choose_spec (Classical.choose_spec (each i.1 i.2))⟩
   refine ⟨List.ofFn f, some a, len, g0, rfl, by simp, hl, hm, e0, fun _ => ⟨a.block, a.off, by rw [← ha], by simp, fun i x hx => ?_⟩⟩;have hi : i < len := by have := (List.getElem?_eq_some_iff.1 hx).1; simpa using this
   have v0 : x = f ⟨i, hi⟩ := by
    rw [List.getElem?_eq_getElem (by simpa using hi)] at hx;simp at hx; exact hx.symm
   obtain ⟨cs, d0, hR, a0⟩ := q0 ⟨i, hi⟩;refine ⟨cs, d0, fun j u hj => ?_, by rw [v0]; exact hR⟩;have r0 : j < size := by have := (List.getElem?_eq_some_iff.1 hj).1; omega
   have := a0 j r0;rw [hj] at this;rw [ha] at this;rw [Addr.add_lit, Addr.add_lit] at this;exact this
theorem r1b {t : TypeId} {fs : Array Field} {xs : List (DataW H × List MemPlace)} {i : Nat} {f : Field} {y : DataW H × List MemPlace} (ht : P.underlying t = some (.struct fs)) (hw : t3a P t (.agg (xs.map (·.1)))) (hf : fs[i]? = some f) (hy : xs[i]? = some y) : t3a P f.type y.1 := fun m hm => by
 refine hw m ?_;rw [DataW.weights, ht];refine DataW.weights_mem_each (j := i) (t := f.type) (d := y.1) ?_ ?_ m hm
 ·rw [List.getElem?_map]; simp [hf]
 ·rw [List.getElem?_map, hy]; rfl
theorem Z9c {l : List Value} (h : l.length = 4) : ∃ a0 a1 a2 a3, l = [a0, a1, a2, a3] := by
 match l, h with
 | [a0, a1, a2, a3], _ => exact ⟨a0, a1, a2, a3, rfl⟩
theorem h0d {l : List Value} (h : l.length = 5) : ∃ a0 a1 a2 a3 a4, l = [a0, a1, a2, a3, a4] := by
 match l, h with
 | [a0, a1, a2, a3, a4], _ => exact ⟨a0, a1, a2, a3, a4, rfl⟩
theorem N9c {l : List Value} (h : l.length = 6) : ∃ a0 a1 a2 a3 a4 a5, l = [a0, a1, a2, a3, a4, a5] := by
 match l, h with
 | [a0, a1, a2, a3, a4, a5], _ => exact ⟨a0, a1, a2, a3, a4, a5, rfl⟩
theorem c0d {l : List Value} (h : l.length = 7) : ∃ a0 a1 a2 a3 a4 a5 a6, l = [a0, a1, a2, a3, a4, a5, a6] := by
 match l, h with
 | [a0, a1, a2, a3, a4, a5, a6], _ => exact ⟨a0, a1, a2, a3, a4, a5, a6, rfl⟩
theorem Y7c {l : List Value} (h : l.length = 11) : ∃ a0 a1 a2 a3 a4 a5 a6 a7 a8 a9 b0, l = [a0, a1, a2, a3, a4, a5, a6, a7, a8, a9, b0] := by
 match l, h with
 | [a0, a1, a2, a3, a4, a5, a6, a7, a8, a9, b0], _ => exact ⟨a0, a1, a2, a3, a4, a5, a6, a7, a8, a9, b0, rfl⟩
theorem L0a {t : TypeId} {fs : Array Field} {cs : List Value} {xs : List (DataW H × List MemPlace)} {n : Nat} (i ty e0 : Nat) (d0 : xs.length = fs.size) (b0 : ∀ (i : Nat) (f : Field), fs[i]? = some f → DataW.trod enc P W base sp held n f.type ((cs.drop f.offset).take (P.cellsOf f.type)) = xs[i]?) (ht : P.underlying t = some (.struct fs)) (hw : t3a P t (.agg (xs.map (·.1)))) (hf : (fs[i]?).map (fun f => (f.type, f.offset)) = some (ty, e0)) :
 ∃ y, DataW.trod enc P W base sp held n ty ((cs.drop e0).take (P.cellsOf ty)) = some y ∧ t3a P ty y.1 := by
 cases a0 : fs[i]? with
 | none => rw [a0] at hf; cases hf
 | some f =>
   rw [a0] at hf;simp only [Option.map_some, Option.some.injEq, Prod.mk.injEq] at hf;obtain ⟨rfl, rfl⟩ := hf;have hi : i < xs.length := by rw [d0]; exact (Array.getElem?_eq_some_iff.1 a0).1
   exact ⟨xs[i], by rw [b0 i f a0, List.getElem?_eq_getElem hi], r1b ht hw a0 (List.getElem?_eq_getElem hi)⟩
end
section
variable {H : Type} {enc : TypeId × Value → H} {W : World} {base : Nat} {sp : Nat → Bool} {held : Bool}
theorem u6b {t : TypeId} {s : ByteArray} {y : DataW H × List MemPlace} (hx : y = (.lit (.string s.data.toList), [])) (hw : t3a Tryz.prog t y.1) : s.size ≤ 140737488355328 := by
 have h := hw s.data.toList.length (by rw [hx]; exact List.mem_singleton.2 rfl);have e : s.data.toList.length = s.size := Array.length_toList;unfold reachBytes at h; omega
theorem b4b {α : Type} {M : List Nat} {w : World} {size : Nat} {R : List Value → α → Prop} {Q : α → Prop} {v : Value} {l : List α} (h : RdS M w size R v l) (hq : ∀ cs x, R cs x → Q x) : ∀ x ∈ l, Q x := fun x hx => by
 obtain ⟨_, _, _, rfl⟩ := h.form;obtain ⟨i, hi⟩ := List.mem_iff_getElem?.1 hx;obtain ⟨_, _, _, cs, h1, -, -, -, -, h2⟩ := RdS.get h i (List.getElem?_eq_some_iff.1 hi).1;rw [hi] at h1; cases h1;exact hq _ _ h2
theorem I0b : Tryz.prog.cellsOf 3 = 1 := by kernel_rfl
theorem D4b : Tryz.prog.cellsOf 4 = 1 := by kernel_rfl
theorem I9a : Tryz.prog.cellsOf 9 = 1 := by kernel_rfl
theorem c3 : Tryz.prog.cellsOf 3 = 1 := by kernel_rfl
theorem K7c : Tryz.prog.cellsOf 51 = 1 := by kernel_rfl
theorem D4c : Tryz.prog.cellsOf 53 = 4 := by kernel_rfl
theorem Q6c : 1 ≤ Tryz.prog.bytesOf 53 := of_decide_eq_true (by kernel_rfl)
theorem g0d : 1 ≤ Tryz.prog.bytesOf 3 := of_decide_eq_true (by kernel_rfl)
theorem h4a : ∀ (fuel : Nat) (cs : List Value) (x : DataW H × List MemPlace), DataW.trod enc Tryz.prog W base sp held fuel 53 cs = some x → t3a Tryz.prog 53 x.1 → ∃ e, RdE [] W e cs := by
 intro fuel
 induction fuel using Nat.strongRecOn with
 | _ fuel ih =>
 intro cs x h hw;obtain ⟨_, _, _, hx, hl, b0, a0⟩ := DataW.trod_struct Tryz.underlying53 h;rw [hx] at hw;rw [D4c] at hl;obtain ⟨_, t0, -⟩ := L0a 0 3 0 b0 a0 Tryz.underlying53 hw rfl;obtain ⟨_, t1, -⟩ := L0a 1 3 1 b0 a0 Tryz.underlying53 hw rfl;obtain ⟨_, t2, -⟩ := L0a 2 3 2 b0 a0 Tryz.underlying53 hw rfl;obtain ⟨_, t3, w3⟩ := L0a 3 51 3 b0 a0 Tryz.underlying53 hw rfl;simp only [c3, K7c] at t0 t1 t2 t3;obtain ⟨_, _, _, _, rfl⟩ := Z9c hl;simp only [List.drop_succ_cons, List.drop_zero, List.take_succ_cons, List.take_zero] at t0 t1 t2 t3;obtain ⟨m0, e0, -, f0⟩ := DataW.trod_int Tryz.underlying3 t0;obtain ⟨m1, e1, -, f1⟩ := DataW.trod_int Tryz.underlying3 t1;obtain ⟨m2, e2, -, f2⟩ := DataW.trod_int Tryz.underlying3 t2;cases e0; cases e1; cases e2;obtain ⟨ks, o0⟩ := N2a (R := fun cs e => RdE [] W e cs) Tryz.underlying51 D4c (by omega) Q6c (fun k cs y hk _ hy hl => ih k (by omega) cs y hy hl) t3 w3;obtain ⟨A, k, c, rfl, hk, n0, j0, d0, g0⟩ := o0;refine ⟨⟨m0, m1, m2, ks⟩, ?_⟩;rw [RdE];refine ⟨A, k, c, rfl, p3a f0, p3a f1, p3a f2, hk, n0, j0, d0, fun h0 => ?_⟩;obtain ⟨b, o, hA, hb, g0⟩ := g0 h0;refine ⟨b, o, hA, hb, fun i hi => ?_⟩;obtain ⟨i0, -, hc, hr⟩ := g0 i ks[i] (List.getElem?_eq_getElem hi);exact ⟨i0, hc, hr⟩
theorem E7a {fuel : Nat} {v : Value} {x : DataW H × List MemPlace} (h : DataW.trod enc Tryz.prog W base sp held fuel 35 [v] = some x) (hw : t3a Tryz.prog 35 x.1) : ∃ l, RdI [] W v l :=
 N2a Tryz.underlying35 c3 (by omega) g0d (fun n cs y _ _ hy _ => by
  obtain ⟨m, e, -, f⟩ := DataW.trod_int Tryz.underlying3 hy;exact ⟨m, e, p3a f⟩) h hw
theorem u7b {fuel : Nat} {v : Value} {x : DataW H × List MemPlace} (h : DataW.trod enc Tryz.prog W base sp held fuel 51 [v] = some x) (hw : t3a Tryz.prog 51 x.1) : ∃ l, S6c [] W v l :=
 N2a Tryz.underlying51 D4c (by omega) Q6c (fun n cs y _ _ hy hl => h4a n cs y hy hl) h hw
theorem i4a : Tryz.prog.cellsOf 101 = 6 := by kernel_rfl
theorem D0c {fuel : Nat} {cs : List Value} {x : DataW H × List MemPlace} (h : DataW.trod enc Tryz.prog W base sp held fuel 101 cs = some x) (hw : t3a Tryz.prog 101 x.1) : ∃ c, Z2a cs c ∧ c.name.size ≤ 140737488355328 := by
 obtain ⟨_, _, _, hx, hl, b0, a0⟩ := DataW.trod_struct Tryz.underlying101 h;rw [hx] at hw;rw [i4a] at hl;obtain ⟨_, t0, w0⟩ := L0a 0 9 0 b0 a0 Tryz.underlying101 hw rfl;obtain ⟨_, t1, -⟩ := L0a 1 3 1 b0 a0 Tryz.underlying101 hw rfl;obtain ⟨_, t2, -⟩ := L0a 2 3 2 b0 a0 Tryz.underlying101 hw rfl;obtain ⟨_, t3, -⟩ := L0a 3 3 3 b0 a0 Tryz.underlying101 hw rfl;obtain ⟨_, t4, -⟩ := L0a 4 4 4 b0 a0 Tryz.underlying101 hw rfl;obtain ⟨_, t5, -⟩ := L0a 5 3 5 b0 a0 Tryz.underlying101 hw rfl;simp only [I9a, I0b, D4b] at t0 t1 t2 t3 t4 t5;obtain ⟨_, _, _, _, _, _, rfl⟩ := N9c hl;simp only [List.drop_succ_cons, List.drop_zero, List.take_succ_cons, List.take_zero] at t0 t1 t2 t3 t4 t5;obtain ⟨m0, e0, s0, -⟩ := DataW.trod_string Tryz.underlying9 t0;obtain ⟨m1, e1, -, f1⟩ := DataW.trod_int Tryz.underlying3 t1;obtain ⟨m2, e2, -, f2⟩ := DataW.trod_int Tryz.underlying3 t2;obtain ⟨m3, e3, -, f3⟩ := DataW.trod_int Tryz.underlying3 t3;obtain ⟨m4, e4, -⟩ := DataW.trod_bool Tryz.underlying4 t4;obtain ⟨m5, e5, -, f5⟩ := DataW.trod_int Tryz.underlying3 t5;cases e0; cases e1; cases e2; cases e3; cases e4; cases e5;exact ⟨⟨m0, m1, m2, m3, m4, m5⟩, ⟨rfl, p3a f1, p3a f2, p3a f3, p3a f5⟩, u6b s0 w0⟩
theorem F9c : 1 ≤ Tryz.prog.bytesOf 101 := of_decide_eq_true (by kernel_rfl)
theorem O6b {fuel : Nat} {v : Value} {x : DataW H × List MemPlace} (h : DataW.trod enc Tryz.prog W base sp held fuel 22 [v] = some x) (hw : t3a Tryz.prog 22 x.1) : ∃ l, u5c [] W v l ∧ ∀ c ∈ l, c.name.size ≤ 140737488355328 := by
 obtain ⟨l, hl⟩ := N2a Tryz.underlying22 i4a (by omega) F9c (fun n cs y _ _ hy hl => D0c hy hl) h hw;exact ⟨l, hl.mono (fun _ _ h => h.1), b4b hl (fun _ _ h => h.2)⟩
theorem Q1a : Tryz.prog.cellsOf 53 = 4 := by kernel_rfl
theorem A3a : Tryz.prog.cellsOf 98 = 5 := by kernel_rfl
theorem i4b {fuel : Nat} {cs : List Value} {x : DataW H × List MemPlace} (h : DataW.trod enc Tryz.prog W base sp held fuel 98 cs = some x) (hw : t3a Tryz.prog 98 x.1) : ∃ c, R0a [] W cs c := by
 obtain ⟨_, _, _, hx, hl, b0, a0⟩ := DataW.trod_struct Tryz.underlying98 h;rw [hx] at hw;rw [A3a] at hl;obtain ⟨_, t0, -⟩ := L0a 0 3 0 b0 a0 Tryz.underlying98 hw rfl;obtain ⟨_, t1, w1⟩ := L0a 1 53 1 b0 a0 Tryz.underlying98 hw rfl;simp only [I0b, Q1a] at t0 t1;obtain ⟨_, _, _, _, _, rfl⟩ := h0d hl;simp only [List.drop_succ_cons, List.drop_zero, List.take_succ_cons, List.take_zero] at t0 t1;obtain ⟨m0, e0, -, f0⟩ := DataW.trod_int Tryz.underlying3 t0;obtain ⟨x1, h1⟩ := h4a _ _ _ t1 w1;cases e0;exact ⟨⟨m0, x1⟩, _, rfl, p3a f0, h1⟩
theorem Z3c : 1 ≤ Tryz.prog.bytesOf 98 := of_decide_eq_true (by kernel_rfl)
theorem G3b {fuel : Nat} {v : Value} {x : DataW H × List MemPlace} (h : DataW.trod enc Tryz.prog W base sp held fuel 88 [v] = some x) (hw : t3a Tryz.prog 88 x.1) : ∃ l, m5c [] W v l :=
 N2a Tryz.underlying88 A3a (by omega) Z3c (fun n cs y _ _ hy hl => i4b hy hl) h hw
theorem V1b : Tryz.prog.cellsOf 88 = 1 := by kernel_rfl
theorem c4a : Tryz.prog.cellsOf 90 = 11 := by kernel_rfl
theorem J7b {fuel : Nat} {cs : List Value} {x : DataW H × List MemPlace} (h : DataW.trod enc Tryz.prog W base sp held fuel 90 cs = some x) (hw : t3a Tryz.prog 90 x.1) : ∃ c, n2a [] W cs c := by
 obtain ⟨_, _, _, hx, hl, b0, a0⟩ := DataW.trod_struct Tryz.underlying90 h;rw [hx] at hw;rw [c4a] at hl;obtain ⟨_, t0, -⟩ := L0a 0 3 0 b0 a0 Tryz.underlying90 hw rfl;obtain ⟨_, t1, -⟩ := L0a 1 3 1 b0 a0 Tryz.underlying90 hw rfl;obtain ⟨_, t2, -⟩ := L0a 2 3 2 b0 a0 Tryz.underlying90 hw rfl;obtain ⟨_, t3, w3⟩ := L0a 3 53 3 b0 a0 Tryz.underlying90 hw rfl;obtain ⟨_, t4, w4⟩ := L0a 4 88 7 b0 a0 Tryz.underlying90 hw rfl;obtain ⟨_, t5, -⟩ := L0a 5 4 8 b0 a0 Tryz.underlying90 hw rfl;obtain ⟨_, t6, -⟩ := L0a 6 3 9 b0 a0 Tryz.underlying90 hw rfl;obtain ⟨_, t7, -⟩ := L0a 7 3 10 b0 a0 Tryz.underlying90 hw rfl;simp only [I0b, Q1a, V1b, D4b] at t0 t1 t2 t3 t4 t5 t6 t7;obtain ⟨_, _, _, _, _, _, _, _, _, _, _, rfl⟩ := Y7c hl;simp only [List.drop_succ_cons, List.drop_zero, List.take_succ_cons, List.take_zero] at t0 t1 t2 t3 t4 t5 t6 t7;obtain ⟨m0, e0, -, f0⟩ := DataW.trod_int Tryz.underlying3 t0;obtain ⟨m1, e1, -, f1⟩ := DataW.trod_int Tryz.underlying3 t1;obtain ⟨m2, e2, -, f2⟩ := DataW.trod_int Tryz.underlying3 t2;obtain ⟨x3, h3⟩ := h4a _ _ _ t3 w3;obtain ⟨x4, h4⟩ := G3b t4 w4;obtain ⟨m5, e5, -⟩ := DataW.trod_bool Tryz.underlying4 t5;obtain ⟨m6, e6, -, f6⟩ := DataW.trod_int Tryz.underlying3 t6;obtain ⟨m7, e7, -, f7⟩ := DataW.trod_int Tryz.underlying3 t7;cases e0; cases e1; cases e2; cases e5; cases e6; cases e7;exact ⟨⟨m0, m1, m2, x3, x4, m5, m6, m7⟩, _, _, _, _, _, rfl, p3a f0, p3a f1, p3a f2, p3a f6, p3a f7, h3, h4⟩
theorem E9c : 1 ≤ Tryz.prog.bytesOf 90 := of_decide_eq_true (by kernel_rfl)
theorem b7b {fuel : Nat} {v : Value} {x : DataW H × List MemPlace} (h : DataW.trod enc Tryz.prog W base sp held fuel 83 [v] = some x) (hw : t3a Tryz.prog 83 x.1) : ∃ l, I8c [] W v l :=
 N2a Tryz.underlying83 c4a (by omega) E9c (fun n cs y _ _ hy hl => J7b hy hl) h hw
theorem J4b : Tryz.prog.cellsOf 35 = 1 := by kernel_rfl
theorem a4a : Tryz.prog.cellsOf 117 = 6 := by kernel_rfl
theorem b8b {fuel : Nat} {cs : List Value} {x : DataW H × List MemPlace} (h : DataW.trod enc Tryz.prog W base sp held fuel 117 cs = some x) (hw : t3a Tryz.prog 117 x.1) : ∃ c, b5a [] W cs c := by
 obtain ⟨_, _, _, hx, hl, b0, a0⟩ := DataW.trod_struct Tryz.underlying117 h;rw [hx] at hw;rw [a4a] at hl;obtain ⟨_, t0, -⟩ := L0a 0 3 0 b0 a0 Tryz.underlying117 hw rfl;obtain ⟨_, t1, w1⟩ := L0a 1 35 1 b0 a0 Tryz.underlying117 hw rfl;obtain ⟨_, t2, w2⟩ := L0a 2 53 2 b0 a0 Tryz.underlying117 hw rfl;simp only [I0b, J4b, Q1a] at t0 t1 t2;obtain ⟨_, _, _, _, _, _, rfl⟩ := N9c hl;simp only [List.drop_succ_cons, List.drop_zero, List.take_succ_cons, List.take_zero] at t0 t1 t2;obtain ⟨m0, e0, -, f0⟩ := DataW.trod_int Tryz.underlying3 t0;obtain ⟨x1, h1⟩ := E7a t1 w1;obtain ⟨x2, h2⟩ := h4a _ _ _ t2 w2;cases e0;exact ⟨⟨m0, x1, x2⟩, _, _, _, _, _, rfl, p3a f0, h1, h2⟩
theorem o9c : 1 ≤ Tryz.prog.bytesOf 117 := of_decide_eq_true (by kernel_rfl)
theorem C7b {fuel : Nat} {v : Value} {x : DataW H × List MemPlace} (h : DataW.trod enc Tryz.prog W base sp held fuel 84 [v] = some x) (hw : t3a Tryz.prog 84 x.1) : ∃ l, I9c [] W v l :=
 N2a Tryz.underlying84 a4a (by omega) o9c (fun n cs y _ _ hy hl => b8b hy hl) h hw
theorem p4b : Tryz.prog.cellsOf 51 = 1 := by kernel_rfl
theorem K4b : Tryz.prog.cellsOf 83 = 1 := by kernel_rfl
theorem H4b : Tryz.prog.cellsOf 84 = 1 := by kernel_rfl
theorem B3a : Tryz.prog.cellsOf 86 = 7 := by kernel_rfl
theorem j5b {fuel : Nat} {cs : List Value} {x : DataW H × List MemPlace} (h : DataW.trod enc Tryz.prog W base sp held fuel 86 cs = some x) (hw : t3a Tryz.prog 86 x.1) : ∃ c, N0a [] W cs c ∧ c.name.size ≤ 140737488355328 := by
 obtain ⟨_, _, _, hx, hl, b0, a0⟩ := DataW.trod_struct Tryz.underlying86 h;rw [hx] at hw;rw [B3a] at hl;obtain ⟨_, t0, w0⟩ := L0a 0 9 0 b0 a0 Tryz.underlying86 hw rfl;obtain ⟨_, t1, -⟩ := L0a 1 3 1 b0 a0 Tryz.underlying86 hw rfl;obtain ⟨_, t2, w2⟩ := L0a 2 51 2 b0 a0 Tryz.underlying86 hw rfl;obtain ⟨_, t3, w3⟩ := L0a 3 35 3 b0 a0 Tryz.underlying86 hw rfl;obtain ⟨_, t4, w4⟩ := L0a 4 83 4 b0 a0 Tryz.underlying86 hw rfl;obtain ⟨_, t5, w5⟩ := L0a 5 84 5 b0 a0 Tryz.underlying86 hw rfl;obtain ⟨_, t6, -⟩ := L0a 6 4 6 b0 a0 Tryz.underlying86 hw rfl;simp only [I9a, I0b, p4b, J4b, K4b, H4b, D4b] at t0 t1 t2 t3 t4 t5 t6;obtain ⟨_, _, _, _, _, _, _, rfl⟩ := c0d hl;simp only [List.drop_succ_cons, List.drop_zero, List.take_succ_cons, List.take_zero] at t0 t1 t2 t3 t4 t5 t6;obtain ⟨m0, e0, s0, -⟩ := DataW.trod_string Tryz.underlying9 t0;obtain ⟨m1, e1, -, f1⟩ := DataW.trod_int Tryz.underlying3 t1;obtain ⟨x2, h2⟩ := u7b t2 w2;obtain ⟨x3, h3⟩ := E7a t3 w3;obtain ⟨x4, h4⟩ := b7b t4 w4;obtain ⟨x5, h5⟩ := C7b t5 w5;obtain ⟨m6, e6, -⟩ := DataW.trod_bool Tryz.underlying4 t6;cases e0; cases e1; cases e6;exact ⟨⟨m0, m1, x2, x3, x4, x5, m6⟩, ⟨_, _, _, _, rfl, p3a f1, h2, h3, h4, h5⟩, u6b s0 w0⟩
theorem e5c : 1 ≤ Tryz.prog.bytesOf 86 := of_decide_eq_true (by kernel_rfl)
theorem Z2b {fuel : Nat} {v : Value} {x : DataW H × List MemPlace} (h : DataW.trod enc Tryz.prog W base sp held fuel 25 [v] = some x) (hw : t3a Tryz.prog 25 x.1) : ∃ l, S8c [] W v l ∧ ∀ c ∈ l, c.name.size ≤ 140737488355328 := by
 obtain ⟨l, hl⟩ := N2a Tryz.underlying25 B3a (by omega) e5c (fun n cs y _ _ hy hl => j5b hy hl) h hw;exact ⟨l, hl.mono (fun _ _ h => h.1), b4b hl (fun _ _ h => h.2)⟩
theorem h3a : Tryz.prog.cellsOf 111 = 11 := by kernel_rfl
theorem k1b {fuel : Nat} {cs : List Value} {x : DataW H × List MemPlace} (h : DataW.trod enc Tryz.prog W base sp held fuel 111 cs = some x) (hw : t3a Tryz.prog 111 x.1) : ∃ c, u1a [] W cs c ∧ c.name.size ≤ 140737488355328 ∧ c.owner.size ≤ 140737488355328 := by
 obtain ⟨_, _, _, hx, hl, b0, a0⟩ := DataW.trod_struct Tryz.underlying111 h;rw [hx] at hw;rw [h3a] at hl;obtain ⟨_, t0, w0⟩ := L0a 0 9 0 b0 a0 Tryz.underlying111 hw rfl;obtain ⟨_, t1, w1⟩ := L0a 1 9 1 b0 a0 Tryz.underlying111 hw rfl;obtain ⟨_, t2, w2⟩ := L0a 2 53 2 b0 a0 Tryz.underlying111 hw rfl;obtain ⟨_, t3, w3⟩ := L0a 3 53 6 b0 a0 Tryz.underlying111 hw rfl;obtain ⟨_, t4, w4⟩ := L0a 4 35 10 b0 a0 Tryz.underlying111 hw rfl;simp only [I9a, Q1a, J4b] at t0 t1 t2 t3 t4;obtain ⟨_, _, _, _, _, _, _, _, _, _, _, rfl⟩ := Y7c hl;simp only [List.drop_succ_cons, List.drop_zero, List.take_succ_cons, List.take_zero] at t0 t1 t2 t3 t4;obtain ⟨m0, e0, s0, -⟩ := DataW.trod_string Tryz.underlying9 t0;obtain ⟨m1, e1, s1, -⟩ := DataW.trod_string Tryz.underlying9 t1;obtain ⟨x2, h2⟩ := h4a _ _ _ t2 w2;obtain ⟨x3, h3⟩ := h4a _ _ _ t3 w3;obtain ⟨x4, h4⟩ := E7a t4 w4;cases e0; cases e1;exact ⟨⟨m0, m1, x2, x3, x4⟩, ⟨_, _, _, _, _, _, _, _, _, rfl, h2, h3, h4⟩, u6b s0 w0, u6b s1 w1⟩
theorem R9b : 1 ≤ Tryz.prog.bytesOf 111 := of_decide_eq_true (by kernel_rfl)
theorem a0b {fuel : Nat} {v : Value} {x : DataW H × List MemPlace} (h : DataW.trod enc Tryz.prog W base sp held fuel 23 [v] = some x) (hw : t3a Tryz.prog 23 x.1) : ∃ l, V8c [] W v l ∧ ∀ c ∈ l, c.name.size ≤ 140737488355328 ∧ c.owner.size ≤ 140737488355328 := by
 obtain ⟨l, hl⟩ := N2a Tryz.underlying23 h3a (by omega) R9b (fun n cs y _ _ hy hl => k1b hy hl) h hw;exact ⟨l, hl.mono (fun _ _ h => h.1), b4b hl (fun _ _ h => h.2)⟩
theorem g4a : Tryz.prog.cellsOf 115 = 6 := by kernel_rfl
theorem o8b {fuel : Nat} {cs : List Value} {x : DataW H × List MemPlace} (h : DataW.trod enc Tryz.prog W base sp held fuel 115 cs = some x) (hw : t3a Tryz.prog 115 x.1) : ∃ c, R4a [] W cs c := by
 obtain ⟨_, _, _, hx, hl, b0, a0⟩ := DataW.trod_struct Tryz.underlying115 h;rw [hx] at hw;rw [g4a] at hl;obtain ⟨_, t0, -⟩ := L0a 0 3 0 b0 a0 Tryz.underlying115 hw rfl;obtain ⟨_, t1, w1⟩ := L0a 1 53 1 b0 a0 Tryz.underlying115 hw rfl;obtain ⟨_, t2, -⟩ := L0a 2 3 5 b0 a0 Tryz.underlying115 hw rfl;simp only [I0b, Q1a] at t0 t1 t2;obtain ⟨_, _, _, _, _, _, rfl⟩ := N9c hl;simp only [List.drop_succ_cons, List.drop_zero, List.take_succ_cons, List.take_zero] at t0 t1 t2;obtain ⟨m0, e0, -, f0⟩ := DataW.trod_int Tryz.underlying3 t0;obtain ⟨x1, h1⟩ := h4a _ _ _ t1 w1;obtain ⟨m2, e2, -, f2⟩ := DataW.trod_int Tryz.underlying3 t2;cases e0; cases e2;exact ⟨⟨m0, x1, m2⟩, _, _, _, _, rfl, p3a f0, p3a f2, h1⟩
theorem C9c : 1 ≤ Tryz.prog.bytesOf 115 := of_decide_eq_true (by kernel_rfl)
theorem c7b {fuel : Nat} {v : Value} {x : DataW H × List MemPlace} (h : DataW.trod enc Tryz.prog W base sp held fuel 24 [v] = some x) (hw : t3a Tryz.prog 24 x.1) : ∃ l, z9c [] W v l :=
 N2a Tryz.underlying24 g4a (by omega) C9c (fun n cs y _ _ hy hl => o8b hy hl) h hw
theorem j4b : Tryz.prog.cellsOf 22 = 1 := by kernel_rfl
theorem P9a : Tryz.prog.cellsOf 23 = 1 := by kernel_rfl
theorem W4b : Tryz.prog.cellsOf 24 = 1 := by kernel_rfl
theorem L1b : Tryz.prog.cellsOf 25 = 1 := by kernel_rfl
theorem v5a : Tryz.prog.cellsOf 27 = 4 := by kernel_rfl
theorem o2b {fuel : Nat} {cs : List Value} {x : DataW H × List MemPlace} (h : DataW.trod enc Tryz.prog W base sp held fuel 27 cs = some x) (hw : t3a Tryz.prog 27 x.1) : ∃ c, k1a [] W c cs ∧ z3b c := by
 obtain ⟨_, _, _, hx, hl, b0, a0⟩ := DataW.trod_struct Tryz.underlying27 h;rw [hx] at hw;rw [v5a] at hl;obtain ⟨_, t0, w0⟩ := L0a 0 22 0 b0 a0 Tryz.underlying27 hw rfl;obtain ⟨_, t1, w1⟩ := L0a 1 23 1 b0 a0 Tryz.underlying27 hw rfl;obtain ⟨_, t2, w2⟩ := L0a 2 24 2 b0 a0 Tryz.underlying27 hw rfl;obtain ⟨_, t3, w3⟩ := L0a 3 25 3 b0 a0 Tryz.underlying27 hw rfl;simp only [j4b, P9a, W4b, L1b] at t0 t1 t2 t3;obtain ⟨_, _, _, _, rfl⟩ := Z9c hl;simp only [List.drop_succ_cons, List.drop_zero, List.take_succ_cons, List.take_zero] at t0 t1 t2 t3;obtain ⟨x0, h0⟩ := O6b t0 w0;obtain ⟨x1, h1⟩ := a0b t1 w1;obtain ⟨x2, h2⟩ := c7b t2 w2;obtain ⟨x3, h3⟩ := Z2b t3 w3;exact ⟨⟨x0, x1, x2, x3⟩, ⟨_, _, _, _, rfl, h0.1, h1.1, h2, h3.1⟩, ⟨h0.2, h1.2, h3.2⟩⟩
theorem e0c {W : World} : ∀ {l : List (String × DataW Unit)} {ps : List MemPlace}, DataW.LaidVars Tryz.prog W l ps → ∀ {i : Nat} {x : String × DataW Unit}, l[i]? = some x →
 ∃ g t cs fuel p, Tryz.prog.globalNamed x.1 = some g ∧ (Tryz.prog.globals[g]?).map (·.type) = some t ∧ W.var? Tryz.prog x.1 = some cs ∧ DataW.trod (fun _ => ()) Tryz.prog W 0 (fun _ => true) false fuel t cs.toList = some (x.2, p)
 | [], _, _, _, _, hi => by simp at hi
 | y :: l, ps, h, 0, x, hi => by
   obtain ⟨g0, t0, a0, f0, p0, q0, d0, e0, h0, b0, -⟩ := h;cases hi;exact ⟨g0, t0, a0, f0, p0, d0, e0, h0, b0⟩
 | y :: l, ps, h, i + 1, x, hi => by
   obtain ⟨g0, t0, a0, f0, p0, q0, d0, e0, h0, b0, hr, -⟩ := h;exact e0c hr (by simpa using hi)
theorem d8c : Tryz.prog.globalNamed ((Rows.exploreClosureRow.laid[0]?.map (·.1)).getD "") = some 0 := by kernel_rfl
theorem w8c : (Tryz.prog.globals[0]?).map (·.type) = some 177 := by kernel_rfl
theorem D8c : Tryz.prog.cellsOf 177 = 9 := by kernel_rfl
theorem H1b {W : World} (h : laidMetH Tryz.prog Rows.exploreClosureRow.laid W) : a3a [] W := by
 rw [MakeChecks.laidMetH_plain _ _ _ (by kernel_rfl)] at h;obtain ⟨_, e0, -⟩ := h;obtain ⟨_, _, d0, _, _, h0, o0, p0, n0⟩ := e0c e0 (i := 0) rfl;obtain rfl := Option.some.inj (d8c.symm.trans h0);obtain rfl := Option.some.inj (w8c.symm.trans o0);obtain ⟨xs, _, rfl, b0, f0, _, g0⟩ := DataW.trod_array Tryz.underlying177 n0;rw [D8c] at f0;simp only [c3, Nat.mul_one] at g0;refine ⟨by simp, fun i hi => ?_⟩;have a0 := World.var?_cell h0 p0 i;have i0 : i < xs.length := by omega
 have he := g0 i (by omega);rw [List.getElem?_eq_getElem i0] at he;obtain ⟨k, e1, e2, -⟩ := DataW.trod_int Tryz.underlying3 he;have q0 : i < d0.toList.length := by omega
 have j0 : d0.toList[i]? = some (.int .i64 k) := by
  have h1 : ((d0.toList.drop i).take 1)[0]? = some (Value.int .i64 k) := by rw [e1]; rfl
  rw [List.getElem?_take, if_pos (by omega), List.getElem?_drop] at h1;simpa using h1
 rw [a0];have e3 : d0[i]? = some (.int .i64 k) := by simpa using j0
 rw [e3];have b0 : (DataW.agg _ = DataW.agg _ ∧ _) := Prod.mk.inj b0;have b0 := DataW.agg.inj b0.1;have e4 : (xs.map (·.1))[i]? = some (.lit (.int .i64 k)) := by rw [List.getElem?_map, List.getElem?_eq_getElem i0, e2]; rfl
 rw [← b0] at e4;rcases (show i = 0 ∨ i = 1 ∨ i = 2 ∨ i = 3 ∨ i = 4 ∨ i = 5 ∨ i = 6 ∨ i = 7 ∨ i = 8 by omega) with rfl | rfl | rfl | rfl | rfl | rfl | rfl | rfl | rfl <;> (cases e4; rfl)
end
theorem own : ownKnob Tryz.prog.godebug = none := by kernel_rfl
theorem t4c : laidOutB Tryz.prog = true := by kernel_rfl
abbrev v7a : List (String × DataW Unit) := Rows.exploreClosureRow.laid
theorem S0c (os : Os) (args : Array Value) : laidMetH Tryz.prog v7a ((World.doorLaid Tryz.prog 400 os).forCall (fun _ _ => 0) ⟨#[], args, []⟩).memory :=
 laidMetH_of_parts3 (fuel := 8) (laidMet_of_run' 8 (by kernel_rfl) (by kernel_rfl)) (by kernel_rfl) (by kernel_rfl)
theorem T7b {H : Type} {enc : TypeId × Value → H} {W W' : World} (hb : Below W.heap.size W W') : ∀ (ts : List TypeId), (∀ t ∈ ts, Tryz.prog.readableRec t = true ∧ t < Tryz.prog.types.size) → ∀ (vs : List Value) (ds : List (DataW H)) (p : List MemPlace),
 (∀ x ∈ p, x.block < W.heap.size) → DataW.TrodAll enc Tryz.prog W 0 (fun _ => true) true ts vs ds p → DataW.TrodAll enc Tryz.prog W' 0 (fun b => decide (b < W.heap.size)) true ts vs ds p := by
 intro ts
 induction ts with
 | nil =>
   intro _ vs ds p _ h;cases vs <;> cases ds <;> exact h
 | cons t ts ih =>
   intro ht vs ds p hp h;cases vs with
   | nil => exact h.elim
   | cons v vs =>
     cases ds with
     | nil => exact h.elim
     | cons d ds =>
       obtain ⟨q, r, h1, h2, rfl⟩ := h;obtain ⟨r1, r2⟩ := ht t (by simp);exact ⟨q, r, Below.trod t4c r1 r2 h1 hb (fun x hx => hp x (List.mem_append_left _ hx)), ih (fun t a0 => ht t (by simp [a0])) vs ds r (fun x hx => hp x (List.mem_append_right _ hx)) h2, rfl⟩
theorem I7b {H : Type} {enc : TypeId × Value → H} {fn : Func} {s : ChangeSpec} {W W' : World} {args : Array Value} {ds : List (DataW H)} {a0 : List MemPlace} (hs : s.vars = []) (hr : fn.resultTypes = #[4])
 (e0 : ∀ t ∈ fn.params.toList, Tryz.prog.readableRec t = true ∧ t < Tryz.prog.types.size) (hW : DataW.Whole enc Tryz.prog fn.params.toList s.vars false W args.toList ds [] a0)
 (e1 : (s.fn H (ds ++ [])).results = [.lit (.bool true)]) (e2 : (s.fn H (ds ++ [])).args = ds) (e3 : (s.fn H (ds ++ [])).vars = []) (hb : Below W.heap.size W W') :
 s.post enc Tryz.prog fn false true false false W args (.bool true) W' := by
 have d0 := hW.lt;obtain ⟨_, _, hA, hV, b0, _, _⟩ := id hW;rw [hs] at hV;obtain ⟨-, rfl⟩ := trodVars_none hV;rw [List.append_nil] at b0;subst b0;refine ⟨ds, [], a0, [], a0, [], hW, ?_, ?_, ?_, hb.frame _, fun h => by cases h⟩
 ·rw [e1, hr]; exact trodAll_mk1 (shut_bool Tryz.underlying4 true)
 ·rw [e2]; exact T7b hb _ e0 _ _ _ d0 hA
 ·rw [e3, hs]; rfl
theorem S1c {H : Type} {ts : List TypeId} {ds : List (DataW H)} (h : (DataW.weightsEach Tryz.prog ts ds).all (· ≤ reachBytes) = true) {j : Nat} {t : TypeId} {d : DataW H} (ht : ts[j]? = some t) (hd : ds[j]? = some d) : t3a Tryz.prog t d := fun m hm => by
 have := List.all_eq_true.1 h m (DataW.weights_mem_each ht hd m hm);simpa using this
theorem P1b {f : FuncId} {args : Array Value} {W : World} {R : Value → World → Prop} {Q : Ending → World → Prop} (h : M0a Tryz.prog f args W R) (hQ : ∀ v W', R v W' → Q (.returned v) W') : Calls Tryz.prog f args W Q :=
 Calls.mono h fun _ _ ⟨v, he, hv⟩ => he ▸ hQ v _ hv
theorem L2c {size : Nat} : ∀ (css : List (List Value)) (i : Nat) (c : List Value), (∀ x ∈ css, x.length = size) → css[i]? = some c → ∀ (j : Nat) (u : Value), c[j]? = some u → css.flatten[i * size + j]? = some u := by
 intro css
 induction css with
 | nil => intro i c _ h; simp at h
 | cons x xs ih =>
   intro i c h4 hi j u hj;have hx := h4 x (by simp);cases i with
   | zero =>
     simp at hi; subst hi;have a0 : j < x.length := (List.getElem?_eq_some_iff.1 hj).1;rw [List.flatten_cons, Nat.zero_mul, Nat.zero_add, List.getElem?_append_left a0]; exact hj
   | succ i =>
     have := ih i c (fun y hy => h4 y (by simp [hy])) (by simpa using hi) j u hj;have e : (i + 1) * size + j = x.length + (i * size + j) := by rw [hx, Nat.add_mul]; omega
     rw [List.flatten_cons, e, List.getElem?_append_right (by omega)];rw [show x.length + (i * size + j) - x.length = i * size + j by omega]; exact this
theorem D3a {size : Nat} (css : List (List Value)) (h4 : ∀ x ∈ css, x.length = size) : css.flatten.length = css.length * size := by
 induction css with
 | nil => simp
 | cons x xs ih => rw [List.flatten_cons, List.length_append, ih (fun y hy => h4 y (by simp [hy])), h4 x (by simp), List.length_cons, Nat.add_mul]; omega
structure W4a {α : Type} (R : List Nat → World → List Value → α → Prop) (size : Nat) : Prop where
 len : ∀ {M w cs x}, R M w cs x → cs.length = size
 one : ∀ {M w cs x}, R M w cs x → ∀ u ∈ cs, u.oneCell' = true
 keep : ∀ {M w w' cs x}, w0a M w w' → R M w cs x → R M w' cs x
 more : ∀ {M M' w cs x}, (∀ g ∈ M', g ∈ M ∨ w.heap.size ≤ g) → R M w cs x → R M' w cs x
section
variable {α : Type} {R : List Nat → World → List Value → α → Prop} {size : Nat}
def P1a (R : List Nat → World → List Value → α → Prop) (size : Nat) (M : List Nat) (w : World) (G : Option Nat) (cs : List Value) (v : Value) (l : List α) : Prop :=
 ∃ css : List (List Value), css.length = l.length ∧ (∀ x ∈ css, x.length = size) ∧ C3a G size l.length cs v css.flatten ∧ ∀ (i : Nat) (x : α), l[i]? = some x → ∃ c, css[i]? = some c ∧ R (G.toList ++ M) w c x
theorem P1a.keep (hL : W4a R size) {M : List Nat} {w w' : World} {G : Option Nat} {cs : List Value} {v : Value} {l : List α} (h : P1a R size M w G cs v l) (hk : w0a (G.toList ++ M) w w') : P1a R size M w' G cs v l := by
 obtain ⟨css, h1, h2, h3, h4⟩ := h;refine ⟨css, h1, h2, h3, fun i x hi => ?_⟩;obtain ⟨c, h5, h6⟩ := h4 i x hi;exact ⟨c, h5, hL.keep hk h6⟩
theorem P1a.nil {M : List Nat} {w : World} : P1a R size M w none [] (.slice none 0 0) [] := ⟨[], rfl, by simp, C3a.nil size, fun i x hi => by simp at hi⟩
theorem P1a.new {M : List Nat} {w : World} {g : Nat} : P1a R size M w (some g) [] (.slice (some ⟨g, 0, none⟩) 0 0) [] :=
 ⟨[], rfl, by simp, ⟨by simp, .inr ⟨g, 0, rfl, rfl, Nat.le_refl _, by unfold maxLen; omega, by simp, by simp⟩⟩, fun i x hi => by simp at hi⟩
theorem P1a.form {M : List Nat} {w : World} {G : Option Nat} {cs : List Value} {v : Value} {l : List α} (h : P1a R size M w G cs v l) : ∃ A c, v = .slice A l.length c := by
 obtain ⟨_, _, _, ⟨_, hr⟩, _⟩ := h;rcases hr with ⟨_, rfl, h0⟩ | ⟨g, a0, _, rfl, _⟩
 ·exact ⟨_, _, by rw [h0]⟩
 ·exact ⟨_, _, rfl⟩
theorem P1a.rd (hL : W4a R size) {M M' : List Nat} {w0 w : World} {L : List Ent} {k el : Nat} {G : Option Nat} {cs : List Value} {v : Value} {l : List α} (h : P1a R size M w G cs v l) (S : St M' w0 w L) (hk : L[k]? = some (G, el, cs)) (hM : ∀ g, G = some g → g ∉ M) (hl : l.length ≤ 1000000) : RdS M w size (R M w) v l := by
 obtain ⟨css, h1, h2, ⟨_, hr⟩, h4⟩ := h;rcases hr with ⟨rfl, rfl, h0⟩ | ⟨g, b0, rfl, rfl, q1, q2, q3, q4⟩
 ·exact ⟨none, 0, 0, rfl, by omega, by omega, by unfold maxLen; omega, by omega, fun h => absurd h (by omega)⟩
 ·refine ⟨_, _, _, rfl, rfl, q1, q2, by omega, fun _ => ⟨g, 0, rfl, hM g rfl, fun i x hi => ?_⟩⟩;obtain ⟨c, h5, h6⟩ := h4 i x hi;refine ⟨c, h2 c (List.mem_of_getElem? h5), fun j u hj => ?_, hL.more (fun x hx => .inl (by simp [hx])) h6⟩;have hf := L2c css i c h2 h5 j u hj;have a0 : i * size + j < l.length * size := by
   have := (List.getElem?_eq_some_iff.1 hf).1;rw [D3a css h2, h1] at this; exact this
  rw [← q4, List.getElem?_take, if_pos a0] at hf;have := S.cell k hk hf;simpa using this
theorem P1a.get {M M' : List Nat} {w0 w : World} {L : List Ent} {k el : Nat} {G : Option Nat} {cs : List Value} {v : Value} {l : List α} (h : P1a R size M w G cs v l) (S : St M' w0 w L) (hk : L[k]? = some (G, el, cs)) {i : Nat} {x : α} (hi : l[i]? = some x) :
 ∃ g a0 c, G = some g ∧ v = .slice (some ⟨g, 0, none⟩) l.length a0 ∧ c.length = size ∧ i1a w g (0 + i * size) c ∧ R (G.toList ++ M) w c x := by
 obtain ⟨css, h1, h2, ⟨_, hr⟩, h4⟩ := h;have d0 := (List.getElem?_eq_some_iff.1 hi).1;rcases hr with ⟨rfl, rfl, h0⟩ | ⟨g, a0, rfl, rfl, q1, q2, q3, q4⟩
 ·omega
 ·obtain ⟨c, h5, h6⟩ := h4 i x hi;refine ⟨g, a0, c, rfl, rfl, h2 c (List.mem_of_getElem? h5), fun j u hj => ?_, h6⟩;have hf := L2c css i c h2 h5 j u hj;have b0 : i * size + j < l.length * size := by
   have := (List.getElem?_eq_some_iff.1 hf).1;rw [D3a css h2, h1] at this; exact this
  rw [← q4, List.getElem?_take, if_pos b0] at hf;have := S.cell k hk hf;simpa using this
variable {P : Program} {r : Option Nat} {N : Nat} {D : List Deferred} {e : Env} {w w0 : World} {ops : Array Oper} {rest : List Oper} {K : List Deferred → Env → World → Prop} {L : List Ent} {M : List Nat}
variable {d : Nat} {t : TypeId} {p : String} {af : Array Edge} {x y : Operand}
theorem h9a (hL : W4a R size) {M2 : List Nat} {ty el b0 k c b o m : Nat} {z v : Value} {G : Option Nat} {cs : List Value} {cs2 : List (List Value)} {l l2 : List α} (S : St M w0 w L) (hS : SlZ P ty el size z b0) (D0 : b0 ≤ 1000) (hk : L[k]? = some (G, el, cs)) (hR : P1a R size M2 w G cs v l)
 (hx : ev e x = v) (hy : ev e y = .slice (some ⟨b, o, none⟩) m c) (hm : m = l2.length) (y0 : cs2.length = l2.length) (j0 : i1a w b o cs2.flatten) (he : ∀ (i : Nat) (x : α), l2[i]? = some x → ∃ c, cs2[i]? = some c ∧ R (G.toList ++ M2) w c x) (I0 : l.length + l2.length ≤ 1000000) (hd : Nat.ble (d + 1) N = true)
 (h : ∀ v' G' o0 w1, St M w0 w1 (L.set k (G', el, o0)) → P1a R size M2 w1 G' o0 v' (l ++ l2) → w0a G.toList w w1 → (∀ g ∈ G'.toList, g ∈ G.toList ∨ w.heap.size ≤ g) → WL P r N ops rest K D (upd e d v') w1) :
 WL P r N ops (⟨some d, .call { callee := .builtin .append, args := #[x, y], argTypes := #[ty, ty] }, t, p, af, none⟩ :: rest) K D e w := by
 subst hm;obtain ⟨css, c1, c2, c3, c4⟩ := hR;have v0 : ∀ x ∈ cs2, ∃ a, R (G.toList ++ M2) w x a := fun x hx => by
  obtain ⟨i, hi, rfl⟩ := List.getElem_of_mem hx;obtain ⟨c, h5, h6⟩ := he i l2[i] (List.getElem?_eq_getElem (by omega));rw [List.getElem?_eq_getElem hi] at h5; cases h5;exact ⟨_, h6⟩
 have i0 : ∀ x ∈ cs2, x.length = size := fun x hx => let ⟨_, ha⟩ := v0 x hx; hL.len ha;have s0 : ∀ u ∈ cs2.flatten, u.oneCell' = true := fun u hu => by
  obtain ⟨x, hx, hu⟩ := List.mem_flatten.1 hu;obtain ⟨_, ha⟩ := v0 x hx;exact hL.one ha u hu
 obtain ⟨i, hi, hz, H0, C0⟩ := hS.parts;obtain ⟨t0, hG⟩ := c3.own S hk;have B0 : (l.length + l2.length) * b0 ≤ 140737488355328 := by
  have : (l.length + l2.length) * b0 ≤ 1000000 * 1000 := Nat.mul_le_mul (by omega) D0;omega
 obtain ⟨v', w1, u0, n0, a0, _, h0⟩ := run_append_own_at (P := P) w 0 ty t el i z size b0 hS.und hi hz H0 C0 hS.zs hS.pos v l.length css.flatten t0 ⟨b, o, none⟩ l2.length c cs2.flatten (by rw [D3a cs2 i0, y0])
  (fun j u hj => by rw [Addr.add_lit]; exact j0 j u hj) s0 (by unfold maxLen; omega) B0 (Nat.zero_le _)
 obtain ⟨G', o0, A0, p0, r0⟩ := g8a n0;have e0 : ∀ q, q < w.heap.size → G ≠ some q → w1.heap[q]? = w.heap[q]? := fun q hq G0 => a0.block q hq (fun hh => G0 (by rw [← hG, ← hh]));have g0 : v0a M w0 w1 := ⟨a0.os.trans S.below.os, a0.tape.trans S.below.tape, a0.output.trans S.below.output, Nat.le_trans S.size a0.size, fun q hq hm =>
  (e0 q (Nat.lt_of_lt_of_le hq S.size) (fun hh => by
    subst hh;rcases S.new k hk with h' | h'
    ·omega
    ·exact hm h')).trans (S.below.block q hq hm)⟩
 have f0 : w0a G.toList w w1 := ⟨a0.size, fun q hq hm => e0 q hq (fun hh => hm (by rw [hh]; simp))⟩;have d0 : ∀ g ∈ G'.toList, g ∈ G.toList ∨ w.heap.size ≤ g := by
  intro g hg;have x0 : G' = some g := by cases G' with
   | none => simp at hg
   | some q => simp at hg; rw [hg]
  rcases h0 with hb | hb
  ·left; have q0 : G = some g := by rw [← hG, ← hb, p0]; exact x0
   rw [q0]; simp
  ·rw [p0, x0] at hb; cases hb; exact .inr (Nat.le_refl _)
 refine c1a (v := v') (w' := w1) rfl rfl hd (by simp) ?_ (h v' G' o0 w1 (S.replace k hk g0 e0 (fun g hg => ?_)) ?_ f0 d0)
 ·simp [execOp, resolve, invoke, builtin, hx, hy, u0]
 ·obtain ⟨_, h3⟩ := r0 g hg;rcases h0 with hb | hb
  ·have q0 : G = some g := by rw [← hG, ← hb, p0]; exact hg
   subst q0;exact ⟨S.new k hk, h3, .inl rfl⟩
  ·have E0 : G' = some g := hg;rw [p0, E0] at hb; cases hb;exact ⟨.inl S.size, h3, .inr (Nat.le_refl _)⟩
 ·have z0 : ∀ (e2 : α) (c : List Value), R (G.toList ++ M2) w c e2 → R (G'.toList ++ M2) w1 c e2 := by
   intro e2 c hr;have h5 : R (G.toList ++ (G'.toList ++ M2)) w c e2 := hL.more (fun g hg => by
    rcases List.mem_append.1 hg with hg | hg
    ·exact .inl (List.mem_append_left _ hg)
    ·rcases List.mem_append.1 hg with hg | hg
     ·rcases d0 g hg with h | h
      ·exact .inl (List.mem_append_left _ h)
      ·exact .inr h
     ·exact .inl (List.mem_append_right _ hg)) hr
   exact hL.more (fun g hg => .inl (List.mem_append_right _ hg)) (hL.keep (f0.mono (fun g hg => List.mem_append_left _ hg)) h5)
  refine ⟨css ++ cs2, by simp [c1, y0], fun x hx => ?_, ?_, fun i x hi => ?_⟩
  ·rcases List.mem_append.1 hx with hx | hx
   ·exact c2 x hx
   ·exact i0 x hx
  ·have e1 : (l ++ l2).length = l.length + l2.length := by simp
   rw [e1, List.flatten_append]; exact A0
  ·by_cases F0 : i < l.length
   ·rw [List.getElem?_append_left F0] at hi;obtain ⟨c, h5, h6⟩ := c4 i x hi;exact ⟨c, by rw [List.getElem?_append_left (by omega)]; exact h5, z0 _ _ h6⟩
   ·rw [List.getElem?_append_right (by omega)] at hi;obtain ⟨c, h5, h6⟩ := he _ x hi;exact ⟨c, by rw [List.getElem?_append_right (by omega), c1]; exact h5, z0 _ _ h6⟩
theorem C1a (hL : W4a R size) {M2 : List Nat} {ty el a0 k c b o : Nat} {z v : Value} {G : Option Nat} {cs news : List Value} {l : List α} {e1 : α} (S : St M w0 w L) (hS : SlZ P ty el size z a0) (e0 : a0 ≤ 1000) (hk : L[k]? = some (G, el, cs)) (hR : P1a R size M2 w G cs v l)
 (hx : ev e x = v) (hy : ev e y = .slice (some ⟨b, o, none⟩) 1 c) (b0 : i1a w b o news) (he : R (G.toList ++ M2) w news e1) (f0 : l.length + 1 ≤ 1000000) (hd : Nat.ble (d + 1) N = true)
 (h : ∀ v' G' d0 w1, St M w0 w1 (L.set k (G', el, d0)) → P1a R size M2 w1 G' d0 v' (l ++ [e1]) → w0a G.toList w w1 → (∀ g ∈ G'.toList, g ∈ G.toList ∨ w.heap.size ≤ g) → WL P r N ops rest K D (upd e d v') w1) :
 WL P r N ops (⟨some d, .call { callee := .builtin .append, args := #[x, y], argTypes := #[ty, ty] }, t, p, af, none⟩ :: rest) K D e w :=
 h9a hL (cs2 := [news]) (l2 := [e1]) S hS e0 hk hR hx hy rfl rfl (by simpa using b0) (fun i x hi => by
  cases i with
  | zero => simp at hi; subst hi; exact ⟨news, rfl, he⟩
  | succ i => simp at hi) (by simpa using f0) hd h
end
theorem RdS.all {α : Type} {M : List Nat} {w : World} {size : Nat} {R : List Value → α → Prop} {A : Option Addr} {n c b o : Nat} {l : List α} (h : RdS M w size R (.slice A n c) l) (hA : A = some ⟨b, o, none⟩) (h0 : 0 < l.length) :
 ∃ css : List (List Value), css.length = l.length ∧ i1a w b o css.flatten ∧ ∀ (i : Nat) (x : α), l[i]? = some x → ∃ c, css[i]? = some c ∧ R c x := by
 obtain ⟨h1, _, _, _, h5⟩ := h.at;obtain ⟨_, _, a0, _, b0⟩ := h5 (by omega);rw [hA] at a0; cases a0;have key : ∀ (l2 : List α) (q : Nat), (∀ i x, l2[i]? = some x → ∃ cs, cs.length = size ∧ i1a w b (q + i * size) cs ∧ R cs x) → ∃ css : List (List Value), css.length = l2.length ∧ i1a w b q css.flatten ∧ ∀ (i : Nat) (x : α), l2[i]? = some x → ∃ c, css[i]? = some c ∧ R c x := by
  intro l2
  induction l2 with
  | nil => intro q _; exact ⟨[], rfl, fun j v hj => by simp at hj, fun i x hi => by simp at hi⟩
  | cons a l2 ih =>
    intro q hq;obtain ⟨cs, _, k2, k3⟩ := hq 0 a rfl;obtain ⟨css, m1, m2, m3⟩ := ih (q + size) (fun i x hi => by
     obtain ⟨cs, n1, n2, n3⟩ := hq (i + 1) x (by simpa using hi);exact ⟨cs, n1, by rw [show q + size + i * size = q + (i + 1) * size by rw [Nat.add_mul]; omega]; exact n2, n3⟩)
    refine ⟨cs :: css, by simp [m1], fun j v hj => ?_, fun i x hi => ?_⟩
    ·rw [List.flatten_cons] at hj;by_cases d0 : j < cs.length
     ·rw [List.getElem?_append_left d0] at hj;have := k2 j v hj;simpa using this
     ·rw [List.getElem?_append_right (by omega)] at hj;have := m2 (j - cs.length) v hj;rw [show q + size + (j - cs.length) = q + j by omega] at this;exact this
    ·cases i with
     | zero => simp at hi; subst hi; exact ⟨cs, rfl, k3⟩
     | succ i =>
       obtain ⟨c, h1, h2⟩ := m3 i x (by simpa using hi);exact ⟨c, by simpa using h1, h2⟩
 exact key l o b0
section
variable {α : Type} {R : List Nat → World → List Value → α → Prop} {size : Nat}
variable {P : Program} {r : Option Nat} {N : Nat} {D : List Deferred} {e : Env} {w w0 : World} {ops : Array Oper} {rest : List Oper} {K : List Deferred → Env → World → Prop} {L : List Ent} {M : List Nat}
variable {d : Nat} {t : TypeId} {p : String} {af : Array Edge} {x y : Operand}
theorem s9a (hL : W4a R size) {M2 : List Nat} {ty el d0 k c b o : Nat} {z v : Value} {G : Option Nat} {cs a0 b0 : List Value} {l : List α} {e1 e2 : α} (S : St M w0 w L) (hS : SlZ P ty el size z d0) (g0 : d0 ≤ 1000) (hk : L[k]? = some (G, el, cs)) (hR : P1a R size M2 w G cs v l)
 (hx : ev e x = v) (hy : ev e y = .slice (some ⟨b, o, none⟩) 2 c) (e0 : i1a w b o (a0 ++ b0)) (h1 : R (G.toList ++ M2) w a0 e1) (h2 : R (G.toList ++ M2) w b0 e2) (h0 : l.length + 2 ≤ 1000000) (hd : Nat.ble (d + 1) N = true)
 (h : ∀ v' G' f0 w1, St M w0 w1 (L.set k (G', el, f0)) → P1a R size M2 w1 G' f0 v' (l ++ [e1, e2]) → w0a G.toList w w1 → (∀ g ∈ G'.toList, g ∈ G.toList ∨ w.heap.size ≤ g) → WL P r N ops rest K D (upd e d v') w1) :
 WL P r N ops (⟨some d, .call { callee := .builtin .append, args := #[x, y], argTypes := #[ty, ty] }, t, p, af, none⟩ :: rest) K D e w :=
 h9a hL (cs2 := [a0, b0]) (l2 := [e1, e2]) S hS g0 hk hR hx hy rfl rfl (by simpa using e0) (fun i x hi => by
  match i, hi with
  | 0, hi => simp at hi; subst hi; exact ⟨a0, rfl, h1⟩
  | 1, hi => simp at hi; subst hi; exact ⟨b0, rfl, h2⟩
  | i + 2, hi => simp at hi) (by simpa using h0) hd h
end
def F4c (M : List Nat) (w0 : World) (cs : List Value) (e : E) : Prop := RdE M w0 e cs
theorem u6a (M : List Nat) (w0 : World) : W4a (fun (_ : List Nat) (_ : World) => F4c M w0) 4 where
 len h := RdE.length h
 one h u hu := by
  obtain ⟨_, _, _, rfl, -⟩ := RdE.open_ h;simp at hu; rcases hu with rfl | rfl | rfl | rfl <;> rfl
 keep _ h := h
 more _ h := h
section
variable {P : Program} {r : Option Nat} {N : Nat} {D : List Deferred} {e : Env} {w w0 : World} {ops : Array Oper} {rest : List Oper} {K : List Deferred → Env → World → Prop} {L : List Ent} {M : List Nat}
variable {d : Nat} {t : TypeId} {p : String} {af : Array Edge} {f : FuncId} {args : Array Operand} {at_ : Array TypeId} {vs : List Value} {x : Operand}
theorem R0c {α : Type} {l : List α} {k : Nat} {x : α} (h : l[k]? = some x) : l.set k x = l := by
 obtain ⟨a0, he⟩ := List.getElem?_eq_some_iff.1 h;rw [← he]; exact List.set_getElem_self a0
theorem v8b {α : Type} {R0 : List Value → α → Prop} {size : Nat} (hL : W4a (fun (_ : List Nat) (_ : World) => R0) size) {M2 M3 : List Nat} {ty el a0 k c m : Nat} {A2 : Option Addr} {y : Operand} {z v : Value} {G : Option Nat} {cs : List Value} {l l2 : List α} (S : St M w0 w L) (hS : SlZ P ty el size z a0) (f0 : a0 ≤ 1000) (hk : L[k]? = some (G, el, cs)) (hR : P1a (fun _ _ => R0) size M2 w G cs v l)
 (hx : ev e x = v) (hy : ev e y = .slice A2 m c) (h2 : RdS M3 w size R0 (.slice A2 m c) l2) (g0 : l.length + l2.length ≤ 1000000) (hd : Nat.ble (d + 1) N = true)
 (h : ∀ v' G' d0 w1, St M w0 w1 (L.set k (G', el, d0)) → P1a (fun _ _ => R0) size M2 w1 G' d0 v' (l ++ l2) → w0a G.toList w w1 → (∀ g ∈ G'.toList, g ∈ G.toList ∨ w.heap.size ≤ g) → WL P r N ops rest K D (upd e d v') w1) :
 WL P r N ops (⟨some d, .call { callee := .builtin .append, args := #[x, y], argTypes := #[ty, ty] }, t, p, af, none⟩ :: rest) K D e w := by
 obtain ⟨hm, -, -⟩ := h2.len;by_cases h0 : l2 = []
 ·subst h0;obtain ⟨A, c', rfl⟩ := hR.form;have i0 : m = 0 := by simpa using hm
  subst i0;have j0 : l.length ≤ c' := by
   obtain ⟨css, _, _, q3, _⟩ := hR;rcases q3.2 with ⟨-, q5, q6⟩ | ⟨g, n0, -, q5, q6, -⟩
   ·simp only [Value.slice.injEq] at q5; omega
   ·simp only [Value.slice.injEq] at q5; omega
  refine v2b hS hx j0 hy hd ?_;have := h (.slice A l.length c') G cs w (by rw [R0c hk]; exact S) (by rw [List.append_nil]; exact hR) (w0a.refl _ _) (fun g hg => .inl hg);exact this
 ·have b0 : 0 < l2.length := List.length_pos_iff.2 h0;obtain ⟨b, o, hA⟩ : ∃ b o, A2 = some ⟨b, o, none⟩ := by
   obtain ⟨_, _, _, _, h5⟩ := h2.at;obtain ⟨b', o', e0, -⟩ := h5 (by omega);exact ⟨b', o', e0⟩
  obtain ⟨css, c1, c2, c3⟩ := RdS.all h2 hA b0;subst hA;exact h9a hL S hS f0 hk hR hx hy hm c1 c2 c3 g0 hd h
end
theorem K6b (p : f0a) (M : List Nat) (w0 : World) (cs : List Value) (hP : k1a M w0 p cs) :
 M0a Tryz.prog 22 #[.agg cs.toArray] w0 fun v w' => (∃ b, v = .bool b ∧ (b = true → True)) ∧ Below w0.heap.size w0 w' := by
 obtain ⟨Ac, nc, cc, Am, nm, cm, Al, nl, cl, At, nt, ct, rfl, _, F3, E3, G3, _, _, _, _, _, _, _, _⟩ := hP.open_;have S := (St.refl w0).nilEnt 53;refine a0a Tryz.func22 rfl Tryz.ntmps22 rfl ?_;refine wO0 rfl ⟨⟩ (j0a S (by conv => lhs; whnf) rfl ?_);intro g1 w1 S1 X1 G1;refine lB S1.k [.o 0] rfl ⟨rfl,⟨⟩⟩ (fun t3 => ?_) fun t3 => ?_
 ·exact lT rfl ⟨⟩ rfl ⟨⟨_, rfl, fun _ => trivial⟩, S1.fin⟩
 refine lB S1.k [.o 0] rfl ⟨rfl,⟨⟩⟩ (fun u3 => ?_) fun u3 => ?_
 ·exact lT rfl ⟨⟩ rfl ⟨⟨_, rfl, fun _ => trivial⟩, S1.fin⟩
 refine lB S1.k [.o 0] rfl ⟨rfl,⟨⟩⟩ (fun v3 => ?_) fun v3 => ?_
 ·exact lT rfl ⟨⟩ rfl ⟨⟨_, rfl, fun _ => trivial⟩, S1.fin⟩
 refine lB S1.k [.o 0] rfl ⟨rfl,⟨⟩⟩ (fun w3 => ?_) fun w3 => ?_
 ·exact lT rfl ⟨⟩ rfl ⟨⟨_, rfl, fun _ => trivial⟩, S1.fin⟩
 refine lC S1.k [.o 0] rfl ⟨rfl,⟨⟩⟩ (wL (fun μk D ε w => D = [] ∧ ∃ k : Nat, ∃ G : Option Nat, ∃ j0 : List Value, ∃ v : Value, ∃ l : List E, (k + μk = (p.modules.length)) ∧ (l.length ≤ 2 * k) ∧ (P1a (fun _ _ => F4c M w0) 4 [] w0 G j0 v l) ∧ St [] w0 w [(some g1, 27, [.slice Ac nc cc, .slice Am nm cm, .slice Al nl cl, .slice At nt ct]), (G, 53, j0)] ∧ Sl ε [(1, .pointer (some ⟨g1, 0, none⟩)), (3, v), (41, .slice Am nm cm), (42, .int .i64 nm), (43, .int .i64 k)]) (μ := (p.modules.length)) ⟨rfl, 0, none, [], .slice none 0 0, [], by omega, by simp, P1a.nil, S1, rfl⟩ ?_);rintro μk D ε w ⟨rfl, k, G, j0, v, l, hk, hl, d0, S, eZ⟩;refine wK eZ (wB0 rfl ⟨⟩ (fun x3 => ?_) fun x3 => ?_)
 ·obtain ⟨mo, j3, H3, _, _, U1, _, g2, b2, j2⟩ := RdS.get (F3) (k) (by omega);obtain ⟨_, _, _, _, _, _, _, _, _, rfl, a2, Z1, _, _, _⟩ := u1a.open_ j2;refine lO (S.k.a b2) [.x j3 H3,.v 0] rfl ⟨⟨rfl,g2⟩,⟨U1,by omega⟩,⟨⟩⟩ (n0a S V7b rfl rfl ?_);intro g5 w5 S5 X5 G5;refine e0a (kk := 0) (vs := [_, _, _, _, _, _, _, _, _, _, _]) S5 o9b rfl rfl rfl rfl rfl rfl rfl ?_;intro T3 s0 i3;dsimp only [k0a, List.set] at s0;refine lOn 3 s0.k [] rfl ⟨⟩ (m1a (by conv => lhs; whnf) rfl ?_);refine lO s0.k [.o 0,.o 0] rfl ⟨rfl,rfl,⟨⟩⟩ (E0a s0 b1a (vs := [.agg _, .agg _]) (cs := [_, _, _, _, _, _, _, _]) (by rfl) rfl rfl rfl rfl rfl rfl ?_);intro u4 D4 u2 m4 b4;refine s9a (u6a M w0) (k := 3) (M2 := []) (e1 := mo.rely) (e2 := mo.guar) u2 b1a (by decide) rfl d0 rfl rfl (u2.cells 0 rfl) a2 Z1 (by omega) rfl ?_;intro x4 d4 o3 E4 Z2 O0 n4 U3;refine T0a (by conv => lhs; whnf) rfl ?_;refine lP0 rfl ⟨by omega,⟨⟩⟩ ?_;refine ⟨μk - 1, by omega, rfl, (k + 1), (_), (_), (_), (l ++ [mo.rely, mo.guar]), (by omega), (by simp; omega), (O0), Z2.tail.tail, rfl⟩
 refine lC S.k [.o 0] rfl ⟨rfl,⟨⟩⟩ (wL (fun μk D ε w => D = [] ∧ ∃ k : Nat, ∃ G : Option Nat, ∃ j0 : List Value, ∃ v : Value, ∃ l : List E, (k + μk = (p.locks.length)) ∧ (l.length ≤ 8 + k) ∧ (P1a (fun _ _ => F4c M w0) 4 [] w0 G j0 v l) ∧ St [] w0 w [(some g1, 27, [.slice Ac nc cc, .slice Am nm cm, .slice Al nl cl, .slice At nt ct]), (G, 53, j0)] ∧ Sl ε [(1, .pointer (some ⟨g1, 0, none⟩)), (3, v), (56, .slice Al nl cl), (57, .int .i64 nl), (58, .int .i64 k)]) (μ := (p.locks.length)) ⟨rfl, 0, G, j0, v, l, by omega, by omega, d0, S, rfl⟩ ?_);rintro μk D ε w ⟨rfl, k, G, j0, v, l, hk, hl, d0, S, eZ⟩;refine wK eZ (wB0 rfl ⟨⟩ (fun y3 => ?_) fun y3 => ?_)
 ·obtain ⟨lk, m3, I3, _, _, V1, _, h2, d2, m2⟩ := RdS.get (E3) (k) (by omega);obtain ⟨_, _, _, rfl, _, _, Y1⟩ := R4a.open_ m2;refine lO (S.k.a d2) [.x m3 I3,.v 0] rfl ⟨⟨rfl,h2⟩,⟨V1,by omega⟩,⟨⟩⟩ (n0a S U9b rfl rfl ?_);intro g7 w7 S7 X7 G7;refine e0a (kk := 0) (vs := [_, _, _, _, _, _]) S7 k0c rfl rfl rfl rfl rfl rfl rfl ?_;intro F2 f0 x2;dsimp only [k0a, List.set] at f0;refine lOn 3 f0.k [] rfl ⟨⟩ (m1a (by conv => lhs; whnf) rfl ?_);refine lO f0.k [.o 0] rfl ⟨rfl,⟨⟩⟩ (E0a f0 b1a (vs := [.agg _]) (cs := [_, _, _, _]) (by rfl) rfl rfl rfl rfl rfl rfl ?_);intro w4 F4 v2 o4 e4;refine C1a (u6a M w0) (k := 3) (M2 := []) (e1 := lk.inv) v2 b1a (by decide) rfl d0 rfl rfl (v2.cells 0 rfl) Y1 (by omega) rfl ?_;intro y4 g4 p3 H4 a3 P0 p4 V3;refine T0a (by conv => lhs; whnf) rfl ?_;refine lP0 rfl ⟨by omega,⟨⟩⟩ ?_;refine ⟨μk - 1, by omega, rfl, (k + 1), (_), (_), (_), (l ++ [lk.inv]), (by omega), (by simp; omega), (P0), a3.tail.tail, rfl⟩
 refine lC S.k [.o 0] rfl ⟨rfl,⟨⟩⟩ (wL (fun μk D ε w => D = [] ∧ ∃ k : Nat, ∃ G : Option Nat, ∃ j0 : List Value, ∃ v : Value, ∃ l : List E, (k + μk = (p.threads.length)) ∧ (l.length ≤ 11 + 100 * k) ∧ (P1a (fun _ _ => F4c M w0) 4 [] w0 G j0 v l) ∧ St [] w0 w [(some g1, 27, [.slice Ac nc cc, .slice Am nm cm, .slice Al nl cl, .slice At nt ct]), (G, 53, j0)] ∧ Sl ε [(3, v), (69, .slice At nt ct), (70, .int .i64 nt), (71, .int .i64 k)]) (μ := (p.threads.length)) ⟨rfl, 0, G, j0, v, l, by omega, by omega, d0, S, rfl⟩ ?_);rintro μk D ε w ⟨rfl, k, G, j0, v, l, hk, hl, d0, S, eZ⟩;refine wK eZ (wB0 rfl ⟨⟩ (fun z3 => ?_) fun z3 => ?_)
 ·obtain ⟨th, n3, J3, _, _, W1, _, i2, f2, n2⟩ := RdS.get (G3) (k) (by omega);obtain ⟨I0, R0, L0, J0, S0, N0, n0, e0, o0, r0, p0, t0, rfl, _, h1, _, m1, j1, _, _, _, _, _, _, _, _⟩ := N0a.open_ n2;refine lO (S.k.a f2) [.x n3 J3,.v 0] rfl ⟨⟨rfl,i2⟩,⟨W1,by omega⟩,⟨⟩⟩ (n0a S Y2b rfl rfl ?_);intro g9 w9 S9 X9 G9;refine e0a (kk := 0) (vs := [_, _, _, _, _, _, _]) S9 k3b rfl rfl rfl rfl rfl rfl rfl ?_;intro G2 a0 y2;dsimp only [k0a, List.set] at a0;refine lB a0.k [.o 0] rfl ⟨rfl,⟨⟩⟩ (fun A3 => ?_) fun A3 => ?_
  ·exact lT rfl ⟨⟩ rfl ⟨⟨_, rfl, fun _ => trivial⟩, a0.fin⟩
  refine lB a0.k [.o 0] rfl ⟨rfl,⟨⟩⟩ (fun B3 => ?_) fun B3 => ?_
  ·exact lT rfl ⟨⟩ rfl ⟨⟨_, rfl, fun _ => trivial⟩, a0.fin⟩
  refine lB a0.k [.o 0] rfl ⟨rfl,⟨⟩⟩ (fun C3 => ?_) fun C3 => ?_
  ·exact lT rfl ⟨⟩ rfl ⟨⟨_, rfl, fun _ => trivial⟩, a0.fin⟩
  refine lOn 8 a0.k [] rfl ⟨⟩ (m1a (by conv => lhs; whnf) rfl ?_);refine lO a0.k [.o 0] rfl ⟨rfl,⟨⟩⟩ (v8b (u6a M w0) (k := 2) (M2 := []) a0 b1a (by decide) rfl d0 rfl rfl (RdS.keepW h1 (a0.keep0 M) (fun _ _ h => h)) (by omega) rfl ?_);intro M3 U2 M1 I4 w2 Q0 q4 W3;refine T0a (by conv => lhs; whnf) rfl ?_;refine lC w2.k [.o 0] rfl ⟨rfl,⟨⟩⟩ ?_;refine wL (fun μj D ε w => D = [] ∧ ∃ j : Nat, ∃ G4 : Option Nat, ∃ z1 : List Value, ∃ v4 : Value, ∃ l4 : List E, (j + μj = (th.steps.length)) ∧ (l4.length ≤ 23 + 100 * k + 7 * j) ∧ (P1a (fun _ _ => F4c M w0) 4 [] w0 G4 z1 v4 l4) ∧ St [] w0 w [(some g9, 86, [.string th.name, .int .i64 th.points, .slice I0 R0 L0, .slice J0 S0 N0, .slice n0 e0 o0, .slice r0 p0 t0, .bool th.asleep]), (some g1, 27, [.slice Ac nc cc, .slice Am nm cm, .slice Al nl cl, .slice At nt ct]), (G4, 53, z1)] ∧ Sl ε [(3, v4), (9, .pointer (some ⟨g9, 0, none⟩)), (69, .slice At nt ct), (70, .int .i64 nt), (71, .int .i64 k), (96, .slice n0 e0 o0), (97, .int .i64 e0), (98, .int .i64 j)]) (μ := (th.steps.length)) ⟨rfl, 0, U2, M1, M3, l ++ th.asserts, by omega, by simp; omega, Q0, w2, rfl⟩ ?_;rintro μj D ε w ⟨rfl, j, G4, z1, v4, l4, hj, _, E0, S, eZ⟩;refine wK eZ (wB0 rfl ⟨⟩ (fun D3 => ?_) fun D3 => ?_)
  ·obtain ⟨s, E1, o2, _, _, Y0, _, r1, n1, v1⟩ := RdS.get (m1) (j) (by omega);obtain ⟨z0, H0, B0, A0, q0, C0, rfl, ⟨_, _, _, _, _⟩, i1, u0, _, _⟩ := n2a.open_ v1;refine lO (S.k.a n1) [.x E1 o2,.v 0] rfl ⟨⟨rfl,r1⟩,⟨Y0,by omega⟩,⟨⟩⟩ (n0a S t7b rfl rfl ?_);intro q3 z4 V2 h4 X3;refine e0a (kk := 0) (vs := [_, _, _, _, _, _, _, _, _, _, _]) V2 A7b rfl rfl rfl rfl rfl rfl rfl ?_;intro H2 b0 z2;dsimp only [k0a, List.set] at b0;refine lB b0.k [.o 0] rfl ⟨rfl,⟨⟩⟩ (fun O1 => ?_) fun O1 => ?_
   ·exact lT rfl ⟨⟩ rfl ⟨⟨_, rfl, fun _ => trivial⟩, b0.fin⟩
   refine lOn 7 b0.k [] rfl ⟨⟩ (m1a (by conv => lhs; whnf) rfl ?_);refine lO b0.k [.o 0] rfl ⟨rfl,⟨⟩⟩ (E0a b0 b1a (vs := [.agg _]) (cs := [_, _, _, _]) (by rfl) rfl rfl rfl rfl rfl rfl ?_);intro N1 N3 T0 b3 P2;refine C1a (u6a M w0) (k := 4) (M2 := []) (e1 := s.guard) T0 b1a (by decide) rfl E0 rfl rfl (T0.cells 0 rfl) i1 (by omega) rfl ?_;intro s2 A1 X0 O3 U0 v0 d3 L2;refine T0a (by conv => lhs; whnf) rfl ?_;refine lC U0.k [.o 1] rfl ⟨rfl,⟨⟩⟩ ?_;refine wL (fun μi D ε w => D = [] ∧ ∃ i : Nat, ∃ G5 : Option Nat, ∃ J1 : List Value, ∃ v5 : Value, ∃ l5 : List E, (i + μi = (s.set.length)) ∧ (l5.length ≤ 23 + 100 * k + 7 * j + 1 + i) ∧ (P1a (fun _ _ => F4c M w0) 4 [] w0 G5 J1 v5 l5) ∧ St [] w0 w [(some N1, 53, [.int .i64 s.guard.op, .int .i64 s.guard.w, .int .i64 s.guard.n, .slice z0 H0 B0]), (some q3, 90, [.int .i64 s.kind, .int .i64 s.frm, .int .i64 s.to, .int .i64 s.guard.op, .int .i64 s.guard.w, .int .i64 s.guard.n, .slice z0 H0 B0, .slice A0 q0 C0, .bool s.release, .int .i64 s.target, .int .i64 s.module_]), (some g9, 86, [.string th.name, .int .i64 th.points, .slice I0 R0 L0, .slice J0 S0 N0, .slice n0 e0 o0, .slice r0 p0 t0, .bool th.asleep]), (some g1, 27, [.slice Ac nc cc, .slice Am nm cm, .slice Al nl cl, .slice At nt ct]), (G5, 53, J1)] ∧ Sl ε [(3, v5), (9, .pointer (some ⟨g9, 0, none⟩)), (69, .slice At nt ct), (70, .int .i64 nt), (71, .int .i64 k), (96, .slice n0 e0 o0), (97, .int .i64 e0), (98, .int .i64 j), (112, .slice A0 q0 C0), (113, .int .i64 q0), (114, .int .i64 i)]) (μ := (s.set.length)) ⟨rfl, 0, A1, X0, s2, l4 ++ [s.guard], by omega, by simp; omega, v0, U0, rfl⟩ ?_;rintro μi D ε w ⟨rfl, i, G5, J1, v5, l5, _, _, F0, S, eZ⟩;refine wK eZ (wB0 rfl ⟨⟩ (fun P1 => ?_) fun P1 => ?_)
   ·obtain ⟨a, F1, p2, _, _, Z0, _, s1, o1, x1⟩ := RdS.get (u0) (i) (by omega);obtain ⟨_, _, _, rfl, _, d1⟩ := R0a.open_ x1;refine lO (S.k.a o1) [.x F1 p2,.v 0] rfl ⟨⟨rfl,s1⟩,⟨Z0,by omega⟩,⟨⟩⟩ (n0a S q2b rfl rfl ?_);intro r4 A4 W2 i4 Y3;refine e0a (kk := 0) (vs := [_, _, _, _, _]) W2 Q2b rfl rfl rfl rfl rfl rfl rfl ?_;intro I2 g0 A2;dsimp only [k0a, List.set] at g0;refine lOn 3 g0.k [] rfl ⟨⟩ (m1a (by conv => lhs; whnf) rfl ?_);refine lO g0.k [.o 0] rfl ⟨rfl,⟨⟩⟩ (E0a g0 b1a (vs := [.agg _]) (cs := [_, _, _, _]) (by rfl) rfl rfl rfl rfl rfl rfl ?_);intro r3 P3 V0 e3 Q2;refine C1a (u6a M w0) (k := 6) (M2 := []) (e1 := a.to) V0 b1a (by decide) rfl F0 rfl rfl (V0.cells 0 rfl) d1 (by omega) rfl ?_;intro K3 R2 D2 Q3 B1 x0 f3 N2;refine T0a (by conv => lhs; whnf) rfl ?_;refine lP0 rfl ⟨by omega,⟨⟩⟩ ?_;refine ⟨μi - 1, by omega, rfl, (i + 1), (_), (_), (_), (l5 ++ [a.to]), (by omega), (by simp; omega), (x0), B1.tail.tail, rfl⟩
   refine lP0 rfl ⟨by omega,⟨⟩⟩ ⟨μj - 1, by omega, rfl, (j + 1), (_), (_), (_), (l5), (by omega), (by omega), (F0), S.tail.tail, rfl⟩
  refine lC S.k [.o 0] rfl ⟨rfl,⟨⟩⟩ (wL (fun μj D ε w => D = [] ∧ ∃ j : Nat, ∃ G6 : Option Nat, ∃ K1 : List Value, ∃ v6 : Value, ∃ l6 : List E, (j + μj = (th.loops.length)) ∧ (l6.length ≤ 93 + 100 * k + j) ∧ (P1a (fun _ _ => F4c M w0) 4 [] w0 G6 K1 v6 l6) ∧ St [] w0 w [(some g9, 86, [.string th.name, .int .i64 th.points, .slice I0 R0 L0, .slice J0 S0 N0, .slice n0 e0 o0, .slice r0 p0 t0, .bool th.asleep]), (some g1, 27, [.slice Ac nc cc, .slice Am nm cm, .slice Al nl cl, .slice At nt ct]), (G6, 53, K1)] ∧ Sl ε [(3, v6), (69, .slice At nt ct), (70, .int .i64 nt), (71, .int .i64 k), (126, .slice r0 p0 t0), (127, .int .i64 p0), (128, .int .i64 j)]) (μ := (th.loops.length)) ⟨rfl, 0, G4, z1, v4, l4, by omega, by omega, E0, S, rfl⟩ ?_);rintro μj D ε w ⟨rfl, j, G6, K1, v6, l6, hj, _, G0, S, eZ⟩;refine wK eZ (wB0 rfl ⟨⟩ (fun Q1 => ?_) fun Q1 => ?_)
  ·obtain ⟨lo, H1, q2, _, _, a1, _, t1, p1, y1⟩ := RdS.get (j1) (j) (by omega);obtain ⟨_, _, _, _, _, _, rfl, _, _, f1, _, _⟩ := b5a.open_ y1;refine lO (S.k.a p1) [.x H1 q2,.v 0] rfl ⟨⟨rfl,t1⟩,⟨a1,by omega⟩,⟨⟩⟩ (n0a S r0c rfl rfl ?_);intro s4 B4 X2 j4 Z3;refine e0a (kk := 0) (vs := [_, _, _, _, _, _]) X2 y0c rfl rfl rfl rfl rfl rfl rfl ?_;intro J2 h0 B2;dsimp only [k0a, List.set] at h0;refine lOn 3 h0.k [] rfl ⟨⟩ (m1a (by conv => lhs; whnf) rfl ?_);refine lO h0.k [.o 0] rfl ⟨rfl,⟨⟩⟩ (E0a h0 b1a (vs := [.agg _]) (cs := [_, _, _, _]) (by rfl) rfl rfl rfl rfl rfl rfl ?_);intro s3 R3 W0 g3 S2;refine C1a (u6a M w0) (k := 4) (M2 := []) (e1 := lo.variant) W0 b1a (by decide) rfl G0 rfl rfl (W0.cells 0 rfl) f1 (by omega) rfl ?_;intro L3 T2 E2 S3 C1 y0 h3 O2;refine T0a (by conv => lhs; whnf) rfl ?_;refine lP0 rfl ⟨by omega,⟨⟩⟩ ?_;refine ⟨μj - 1, by omega, rfl, (j + 1), (_), (_), (_), (l6 ++ [lo.variant]), (by omega), (by simp; omega), (y0), C1.tail.tail, rfl⟩
  refine lP0 rfl ⟨by omega,⟨⟩⟩ ⟨μk - 1, by omega, rfl, (k + 1), (_), (_), (_), (l6), (by omega), (by omega), (G0), S.tail, rfl⟩
 refine lOn 9 S.k [] rfl ⟨⟩ ?_;obtain ⟨A, c, rfl⟩ := d0.form;refine m1a (v := .slice _ _ _) rfl rfl ?_;refine lC0 rfl ⟨⟩ (wL (fun μk D ε w => D = [] ∧ ∃ k : Nat, (k + μk = (l.length)) ∧ St [] w0 w [(some g1, 27, [.slice Ac nc cc, .slice Am nm cm, .slice Al nl cl, .slice At nt ct]), (G, 53, j0)] ∧ Sl ε [(139, .slice A l.length c), (140, .int .i64 l.length), (141, .int .i64 k)]) (μ := (l.length)) ⟨rfl, 0, by omega, S, rfl⟩ ?_);rintro μk D ε w ⟨rfl, k, hk, S, eZ⟩;refine wK eZ (wB0 rfl ⟨⟩ (fun R1 => ?_) fun R1 => ?_)
 ·obtain ⟨x, I1, r2, _, _, b1, _, u1, q1, D0⟩ := RdS.get ((P1a.rd (u6a M w0) (M := []) (w := w) d0 S (k := 1) rfl (fun g hg => by simp) (by omega))) (k) (by omega);obtain ⟨_, _, _, rfl, _, _, _, _, _⟩ := RdE.cells D0;refine lO (S.k.b q1) [.x I1 r2,.v 0] rfl ⟨⟨rfl,u1⟩,⟨b1,by omega⟩,⟨⟩⟩ (n0a S S6a rfl rfl ?_);intro t4 C4 Y2 k4 a4;refine e0a (kk := 0) (vs := [_, _, _, _]) Y2 T5a rfl rfl rfl rfl rfl rfl rfl ?_;intro K2 i0 C2;dsimp only [k0a, List.set] at i0;refine lO i0.k [.w 0] rfl ⟨⟨rfl,by rfl⟩,⟨⟩⟩ (y0a i0 Y6c rfl rfl (G2c x M _ _ _ (RdE.keep (i0.keep0 M) _ _ D0) (by omega) (by omega)) (fun T1 t2 K0 D1 => ?_) (fun T1 t2 K0 D1 => ?_))
  ·refine lP0 rfl ⟨by omega,⟨⟩⟩ ⟨μk - 1, by omega, rfl, (k + 1), (by omega), K0.tail, rfl⟩
  exact lT rfl ⟨⟩ rfl ⟨⟨_, rfl, fun _ => trivial⟩, K0.fin⟩
 exact lT rfl ⟨⟩ rfl ⟨⟨_, rfl, fun _ => trivial⟩, S.fin⟩
theorem U6b (p : f0a) (M : List Nat) (w0 : World) (cs : List Value) (hP : k1a M w0 p cs) (hM : ∀ g ∈ M, g < w0.heap.size) (hN : z3b p) :
 M0a Tryz.prog 7 #[.agg cs.toArray] w0 fun v w' => (∃ b, v = .bool b ∧ (b = true → a1a p)) ∧ Below w0.heap.size w0 w' := by
 obtain ⟨_, _, _, _, _, _, _, _, _, _, _, _, rfl, -⟩ := hP.open_;have S := St.refl w0;refine a0a Tryz.func7 rfl Tryz.ntmps7 rfl ?_;refine wO0 rfl ⟨⟩ (j0a S (by conv => lhs; whnf) rfl ?_);intro g1 w1 S1 X1 G1;refine lO S1.k [.w 0] rfl ⟨⟨rfl,by rfl⟩,⟨⟩⟩ (k8b S1 G7c rfl rfl (K6b p M _ _ (hP.keep (S1.keep0 M))) (fun h7 w7 S7 X7 => ?_) (fun w7 S7 X7 => ?_))
 ·refine lO S7.k [.w 0] rfl ⟨⟨rfl,by rfl⟩,⟨⟩⟩ (B0a S7 w7c rfl rfl (z7b p M _ _ (hP.keep (S7.keep0 M)) (fun g hg => Nat.lt_of_lt_of_le (hM g hg) S7.size) hN) ?_);rintro e0 f0 ⟨_, _, _, rfl, hv⟩ a0 d0;refine lB0 rfl ⟨⟩ (fun b0 => ?_) fun b0 => ?_
  ·exact lT rfl ⟨⟩ rfl ⟨⟨_, rfl, fun _ => hv b0⟩, a0.fin⟩
  exact lT rfl ⟨⟩ rfl ⟨⟨_, rfl, fun h => by cases h⟩, a0.fin⟩
 exact lT rfl ⟨⟩ rfl ⟨⟨_, rfl, fun h => by cases h⟩, S7.fin⟩
abbrev a2c := Nat → Option (FuncId × Array Value × (Value → Prop) × (Value → World → Prop))
section
variable {P : Program} {r : Option Nat} {N : Nat} {l : List Oper} {D : List Deferred} {C : World → Prop} {V : a2c} {K : Env → World → Prop}
def FL (P : Program) (N : Nat) (l : List Oper) (C : World → Prop) (V : a2c) (K : Env → World → Prop) (lo : Nat) : List Nat → Env → List Nat → (World → Prop) → Prop
 | [], e, _, Φ => ∀ w, C w → Φ w → K e w
 | i :: rest, e, gs, Φ => ∃ o d, l[i]? = some o ∧ o.dst = some d ∧ d < N ∧
  ((∃ v, PV P l C o e v ∧ FL P N l C V K lo rest (upd e d v) gs Φ) ∨
   (∃ (mk : Nat → Value) (t : TypeId) (cs : List Value), Z0a l.toArray e o = true ∧
     (∀ w, C w → ∃ w', (execOp (ev e) o).run P w = .ok (.value (mk w.heap.size)) w' ∧ C w' ∧ w0a [] w w' ∧ w'.heap.size = w.heap.size + 1 ∧ o0a w' (w.heap.size, t, cs)) ∧
     ∀ g, lo ≤ g → g ∉ gs → FL P N l C V K lo rest (upd e d (mk g)) (g :: gs) (fun w => Φ w ∧ o0a w (g, t, cs))) ∨
   (∃ f args Qp Qw, V i = some (f, args, Qp, Qw) ∧ Z0a l.toArray e o = true ∧ (∀ w, C w → (execOp (ev e) o).run P w = .ok (.enter f args) w) ∧ ∀ u, Qp u → FL P N l C V K lo rest (upd e d u) gs (fun w => Φ w ∧ Qw u w)))
theorem FL.mono {lo b0 : Nat} : ∀ (R : List Nat) (e : Env) (gs a0 : List Nat) (Φ Φ' : World → Prop), (∀ g, b0 ≤ g → g ∉ a0 → lo ≤ g ∧ g ∉ gs) → (∀ w, Φ' w → Φ w) → FL P N l C V K lo R e gs Φ → FL P N l C V K b0 R e a0 Φ'
 | [], e, gs, a0, Φ, Φ', _, hΦ, h => fun w hC hw => h w hC (hΦ w hw)
 | i :: R, e, gs, a0, Φ, Φ', hg, hΦ, h => by
   obtain ⟨o, d, h1, h2, h3, h4⟩ := h;refine ⟨o, d, h1, h2, h3, ?_⟩;rcases h4 with ⟨v, h5, h6⟩ | ⟨mk, t, cs, h5, h6, h7⟩ | ⟨f, args, Qp, Qw, h5, h6, h7, h8⟩
   ·exact .inl ⟨v, h5, FL.mono R _ gs a0 Φ Φ' hg hΦ h6⟩
   rotate_left
   ·exact .inr (.inr ⟨f, args, Qp, Qw, h5, h6, h7, fun u hu => FL.mono R _ gs a0 _ _ hg (fun w hw => ⟨hΦ w hw.1, hw.2⟩) (h8 u hu)⟩)
   ·refine .inr (.inl ⟨mk, t, cs, h5, h6, fun g h8 h9 => ?_⟩);refine FL.mono R _ (g :: gs) (g :: a0) _ _ (fun x hx hn => ?_) (fun w hw => ⟨hΦ w hw.1, hw.2⟩) (h7 g (hg g h8 h9).1 (hg g h8 h9).2);simp only [List.mem_cons, not_or] at hn ⊢;exact ⟨(hg x hx hn.2).1, hn.1, (hg x hx hn.2).2⟩
def f0d : Result Next → Nat
 | .ok _ w => w.heap.size
 | _ => 0
def szE (P : Program) (l : List Oper) (o : Oper) (e : Env) (w : World) : Nat := bif Z0a l.toArray e o then f0d ((execOp (ev e) o).run P w) else 0
theorem R9a {o : Oper} {e e' : Env} {w : World} (hs : Op.isSelect o.op = false) (h : ∀ s ∈ Oper.looksAt l.toArray o, e s = e' s) : szE P l o e w = szE P l o e' w := by
 unfold szE; rw [O0a h, n1a hs h]
theorem A3b (a b : Nat) (gs : List Nat) : ∃ g, a ≤ g ∧ b ≤ g ∧ g ∉ gs := by
 have : ∀ gs : List Nat, ∃ m, ∀ g ∈ gs, g < m := by
  intro gs
  induction gs with
  | nil => exact ⟨0, by simp⟩
  | cons x gs ih =>
    obtain ⟨m, hm⟩ := ih;refine ⟨max m (x + 1), fun g hg => ?_⟩;rcases List.mem_cons.1 hg with rfl | h
    ·omega
    ·have := hm g h; omega
 obtain ⟨m, hm⟩ := this gs;exact ⟨max m (max a b), by omega, by omega, fun h => by have := hm _ h; omega⟩
def b3a (P : Program) (N : Nat) (l : List Oper) (C : World → Prop) (V : a2c) (K : Env → World → Prop) (lo : Nat) (R : List Nat) (i : Nat) (o : Oper) (d : Nat) (e : Env) (gs : List Nat) (Φ : World → Prop) (w : World) : Prop :=
 (Z0a l.toArray e o = true ∧ ∃ v w', (execOp (ev e) o).run P w = .ok (.value v) w' ∧ C w' ∧ w0a [] w w' ∧ FL P N l C V K w'.heap.size R (upd e d v) gs (fun w1 => Φ w1 ∧ w0a [] w' w1)) ∨
 (Z0a l.toArray e o = false ∧ FL P N l C V K lo R (upd e d undef) gs Φ) ∨
 (Z0a l.toArray e o = true ∧ ∃ f args Qp Qw, V i = some (f, args, Qp, Qw) ∧ (execOp (ev e) o).run P w = .ok (.enter f args) w ∧ ∀ u w', Qp u → Qw u w' → C w' → w0a [] w w' → FL P N l C V K w'.heap.size R (upd e d u) gs (fun w1 => (Φ w1 ∧ Qw u w1) ∧ w0a [] w' w1))
theorem FL.first (d0 : m4a l = true) (S0 : ∀ i f args Qp Qw, V i = some (f, args, Qp, Qw) → ∃ u, Qp u) {i : Nat} {i0 : List Nat} {lo : Nat} {w : World} (hC : C w) (U0 : lo ≤ w.heap.size) : ∀ (n0 : List Nat) (e : Env) (gs : List Nat) (Φ : World → Prop), (∀ j ∈ n0, C8a l (fun _ => true) j i = true) →
 (∀ o, l[i]? = some o → ∀ g ∈ gs, szE P l o e w ≤ g) → FL P N l C V K lo (n0 ++ i :: i0) e gs Φ →
 ∃ o d, l[i]? = some o ∧ o.dst = some d ∧ d < N ∧ b3a P N l C V K lo (n0 ++ i0) i o d e gs Φ w := by
 intro n0
 induction n0 with
 | nil =>
   intro e gs Φ _ D0 h;obtain ⟨o, d, ho, hd, hN, h⟩ := h;refine ⟨o, d, ho, hd, hN, ?_⟩;rcases h with ⟨v, ⟨h1, h2⟩ | ⟨h1, rfl⟩, h3⟩ | ⟨mk, t, cs, h1, h2, h3⟩ | ⟨f, args, Qp, Qw, h1, h2, h3, h4⟩
   rotate_right
   ·exact .inr (.inr ⟨h2, f, args, Qp, Qw, h1, h3 w hC, fun u w' hu _ _ hk => FL.mono _ _ gs gs _ _ (fun g hg hn => ⟨by have := hk.size; omega, hn⟩) (fun _ hw => hw.1) (h4 u hu)⟩)
   ·exact .inl ⟨h1, v, w, h2 w hC, hC, w0a.refl _ _, FL.mono _ _ gs gs Φ _ (fun g hg hn => ⟨by omega, hn⟩) (fun _ hw => hw.1) h3⟩
   ·exact .inr (.inl ⟨h1, h3⟩)
   ·obtain ⟨w', h4, h5, h6, h7, h8⟩ := h2 w hC;refine .inl ⟨h1, _, w', h4, h5, h6, ?_⟩;have hs := D0 o ho;unfold szE at hs;rw [h1, h4] at hs;refine FL.mono _ _ (w.heap.size :: gs) gs _ _ (fun g hg hn => ?_) (fun w1 hw => ⟨hw.1, s3a hw.2 h8⟩) (h3 w.heap.size U0 (fun hm => by have : w'.heap.size ≤ w.heap.size := hs _ hm; omega));simp only [List.mem_cons, not_or];exact ⟨by omega, by omega, hn⟩
 | cons q n0 ih =>
   intro e gs Φ C0 D0 h;obtain ⟨p, c, hp, hc, x0, h⟩ := h;have hq := C0 q (by simp);have q0 : ∀ j ∈ n0, C8a l (fun _ => true) j i = true := fun j hj => C0 j (by simp [hj]);have a0 : ∀ {o : Oper} {d : Nat} (u : Value), l[i]? = some o → o.dst = some d → (∀ s ∈ Oper.looksAt l.toArray o, upd e c u s = e s) ∧ c ≠ d ∧ d ∉ Oper.looksAt l.toArray p := fun {o d} u ho hd => by
    obtain ⟨_, j0, r0, T0⟩ := a8a hq hp ho hc hd;exact ⟨fun s hs => D1a T0 hs, j0, r0⟩
   rcases h with ⟨u, hu, h⟩ | ⟨mk, t, cs, h1, h2, h3⟩ | ⟨f, args, Qp, Qw, hV, Y0, hu, h⟩
   rotate_right
   ·obtain ⟨u0, X0⟩ := S0 _ _ _ _ _ hV;have key : ∀ u, Qp u → ∃ o d, l[i]? = some o ∧ o.dst = some d ∧ d < N ∧ b3a P N l C V K lo (n0 ++ i0) i o d (upd e c u) gs (fun w => Φ w ∧ Qw u w) w := fun u hu => ih (upd e c u) gs _ q0 (fun o ho g hg => by
     cases hd : o.dst with
     | none =>
       exfalso;unfold C8a at hq;simp [hp, ho, hc, hd] at hq
     | some d => rw [R9a (z0a d0 ho).1 (a0 u ho hd).1]; exact D0 o ho g hg) (h u hu)
    obtain ⟨o, d, ho, hd, hN, v0⟩ := key u0 X0;have h0 : ∀ u, Qp u → b3a P N l C V K lo (n0 ++ i0) i o d (upd e c u) gs (fun w => Φ w ∧ Qw u w) w := fun u hu => by
     obtain ⟨o', d', o0, H0, _, hF⟩ := key u hu;obtain rfl : o' = o := Option.some.inj (o0.symm.trans ho);obtain rfl : d' = d := Option.some.inj (H0.symm.trans hd);exact hF
    have j0 := (a0 .nilFunc ho hd).2.1;have r0 := (a0 .nilFunc ho hd).2.2;have ha : ∀ u, ∀ s ∈ Oper.looksAt l.toArray o, upd e c u s = e s := fun u => (a0 u ho hd).1;refine ⟨o, d, ho, hd, hN, ?_⟩;have s0 : ∀ v, ∀ s ∈ Oper.looksAt l.toArray p, upd e d v s = e s := fun v s hs => D1a r0 hs;unfold b3a at v0 ⊢;rw [O0a (ha _), n1a (z0a d0 ho).1 (ha _)] at v0;have p0 : ∀ v, ∀ L0 Φ', (∀ u, Qp u → FL P N l C V K L0 (n0 ++ i0) (upd (upd e d v) c u) gs (fun w => Φ' w ∧ Qw u w)) → FL P N l C V K L0 (q :: (n0 ++ i0)) (upd e d v) gs Φ' := fun v L0 Φ' h9 =>
     ⟨p, c, hp, hc, x0, .inr (.inr ⟨f, args, Qp, Qw, hV, by rw [O0a (s0 v)]; exact Y0, by rw [n1a (z0a d0 hp).1 (s0 v)]; exact hu, h9⟩)⟩
    rcases v0 with ⟨hw, v, w', h4, h5, h6, -⟩ | ⟨hw, -⟩ | ⟨hw, f', t0, O0, P0, A0, h4, -⟩
    ·refine .inl ⟨hw, v, w', h4, h5, h6, p0 v _ _ fun u hu => ?_⟩;have hF := h0 u hu;unfold b3a at hF;rw [O0a (ha _), n1a (z0a d0 ho).1 (ha _)] at hF;rcases hF with ⟨_, v', N0, e0, _, _, h7⟩ | ⟨b0, _⟩ | ⟨_, _, _, _, _, _, e0, _⟩
     ·rw [h4] at e0; cases e0;rw [← r2a _ _ _ j0];exact FL.mono _ _ gs gs _ _ (fun x hx hn => ⟨hx, hn⟩) (fun w1 f0 => ⟨⟨f0.1.1, f0.2⟩, f0.1.2⟩) h7
     ·rw [hw] at b0; cases b0
     ·rw [h4] at e0; cases e0
    ·refine .inr (.inl ⟨hw, p0 _ _ _ fun u hu => ?_⟩);have hF := h0 u hu;unfold b3a at hF;rw [O0a (ha _), n1a (z0a d0 ho).1 (ha _)] at hF;rcases hF with ⟨b0, _⟩ | ⟨_, h7⟩ | ⟨b0, _⟩
     ·rw [hw] at b0; cases b0
     ·rw [← r2a _ _ _ j0]; exact h7
     ·rw [hw] at b0; cases b0
    ·refine .inr (.inr ⟨hw, f', t0, O0, P0, A0, h4, fun u' w' W0 V0 z0 y0 => p0 u' _ _ fun u hu => ?_⟩);have hF := h0 u hu;unfold b3a at hF;rw [O0a (ha _), n1a (z0a d0 ho).1 (ha _)] at hF;rcases hF with ⟨_, v', N0, e0, _⟩ | ⟨b0, _⟩ | ⟨_, Z0, F0, Q0, R0, B0, _, h7⟩
     ·rw [h4] at e0; cases e0
     ·rw [hw] at b0; cases b0
     ·rw [A0] at B0; cases B0;rw [← r2a _ _ _ j0];exact FL.mono _ _ gs gs _ _ (fun x hx hn => ⟨hx, hn⟩) (fun w1 f0 => ⟨⟨⟨f0.1.1.1, f0.2⟩, f0.1.1.2⟩, f0.1.2⟩) (h7 u' w' W0 V0 z0 y0)
   ·obtain ⟨o, d, ho, hd, hN, hF⟩ := ih (upd e c u) gs Φ q0 (fun o ho g hg => by
     cases hd : o.dst with
     | none =>
       exfalso;unfold C8a at hq;simp [hp, ho, hc, hd] at hq
     | some d => rw [R9a (z0a d0 ho).1 (a0 u ho hd).1]; exact D0 o ho g hg) h
    obtain ⟨ha, j0, r0⟩ := a0 u ho hd;refine ⟨o, d, ho, hd, hN, ?_⟩;unfold b3a at hF ⊢;rw [O0a ha, n1a (z0a d0 ho).1 ha] at hF;rcases hF with ⟨hw, v, w', h4, h5, h6, h7⟩ | ⟨hw, h7⟩ | ⟨hw, f, args, Qp, Qw, hV, h4, h7⟩
    rotate_right
    ·refine .inr (.inr ⟨hw, f, args, Qp, Qw, hV, h4, fun x w' hx K0 z0 y0 => ⟨p, c, hp, hc, x0, .inl ⟨u, hu.congr (z0a d0 hp).1 (fun s hs => (D1a r0 hs).symm), ?_⟩⟩⟩);rw [← r2a _ _ _ j0]; exact h7 x w' hx K0 z0 y0
    ·refine .inl ⟨hw, v, w', h4, h5, h6, p, c, hp, hc, x0, .inl ⟨u, hu.congr (z0a d0 hp).1 (fun s hs => (D1a r0 hs).symm), ?_⟩⟩;rw [← r2a _ _ _ j0]; exact h7
    ·refine .inr (.inl ⟨hw, p, c, hp, hc, x0, .inl ⟨u, hu.congr (z0a d0 hp).1 (fun s hs => (D1a r0 hs).symm), ?_⟩⟩);rw [← r2a _ _ _ j0]; exact h7
   ·have key : ∀ g, lo ≤ g → g ∉ gs → (∀ o, l[i]? = some o → szE P l o e w ≤ g) → ∃ o d, l[i]? = some o ∧ o.dst = some d ∧ d < N ∧ b3a P N l C V K lo (n0 ++ i0) i o d (upd e c (mk g)) (g :: gs) (fun w => Φ w ∧ o0a w (g, t, cs)) w := fun g hg hn hs => by
     refine ih (upd e c (mk g)) (g :: gs) _ q0 (fun o ho x hx => ?_) (h3 g hg hn);cases hd : o.dst with
     | none =>
       exfalso;unfold C8a at hq;simp [hp, ho, hc, hd] at hq
     | some d =>
       rw [R9a (z0a d0 ho).1 (a0 (mk g) ho hd).1];rcases List.mem_cons.1 hx with rfl | hx
       ·exact hs o ho
       ·exact D0 o ho x hx
    have h4 : ∃ o d, l[i]? = some o ∧ o.dst = some d ∧ d < N := by
     cases ho : l[i]? with
     | none => unfold C8a at hq; simp [ho] at hq
     | some o =>
       obtain ⟨g0, I0, G0, J0⟩ := A3b lo (szE P l o e w) gs;obtain ⟨o', d, o0, hd, hN, _⟩ := key g0 I0 J0 (fun o' o0 => by rw [ho] at o0; cases o0; exact G0);rw [ho] at o0; cases o0;exact ⟨o, d, rfl, hd, hN⟩
    obtain ⟨o, d, ho, hd, hN⟩ := h4;have h0 : ∀ g, lo ≤ g → g ∉ gs → szE P l o e w ≤ g → b3a P N l C V K lo (n0 ++ i0) i o d (upd e c (mk g)) (g :: gs) (fun w => Φ w ∧ o0a w (g, t, cs)) w := fun g hg hn hs => by
     obtain ⟨o', d', o0, H0, _, hF⟩ := key g hg hn (fun o' o0 => by rw [ho] at o0; cases o0; exact hs);obtain rfl : o' = o := Option.some.inj (o0.symm.trans ho);obtain rfl : d' = d := Option.some.inj (H0.symm.trans hd);exact hF
    refine ⟨o, d, ho, hd, hN, ?_⟩;obtain ⟨g0, I0, G0, J0⟩ := A3b lo (szE P l o e w) gs;have j0 := (a0 .nilFunc ho hd).2.1;have r0 := (a0 .nilFunc ho hd).2.2;have ha : ∀ u, ∀ s ∈ Oper.looksAt l.toArray o, upd e c u s = e s := fun u => (a0 u ho hd).1;have s0 : ∀ v, ∀ s ∈ Oper.looksAt l.toArray p, upd e d v s = e s := fun v s hs => D1a r0 hs;have v0 := h0 g0 I0 J0 G0;unfold b3a at v0 ⊢;rw [O0a (ha _), n1a (z0a d0 ho).1 (ha _)] at v0;rcases v0 with ⟨hw, v, w', h4, h5, h6, -⟩ | ⟨hw, -⟩ | ⟨hw, f, args, Qp, Qw, hV, h4, -⟩
    rotate_right
    ·have E0 : szE P l o e w = w.heap.size := by unfold szE; rw [hw, h4]; rfl
     refine .inr (.inr ⟨hw, f, args, Qp, Qw, hV, h4, fun x w' hx K0 z0 y0 => ⟨p, c, hp, hc, x0, .inr (.inl ⟨mk, t, cs, by rw [O0a (s0 x)]; exact h1, by rw [n1a (z0a d0 hp).1 (s0 x)]; exact h2, fun g hg hn => ?_⟩)⟩⟩);have a1 := y0.size;have hF := h0 g (by omega) hn (by omega);unfold b3a at hF;rw [O0a (ha _), n1a (z0a d0 ho).1 (ha _)] at hF;rcases hF with ⟨_, v', N0, e0, _⟩ | ⟨b0, _⟩ | ⟨_, f', t0, O0, P0, A0, _, h7⟩
     ·rw [h4] at e0; cases e0
     ·rw [hw] at b0; cases b0
     ·rw [hV] at A0; cases A0;rw [← r2a _ _ _ j0];exact FL.mono _ _ (g :: gs) (g :: gs) _ _ (fun x hx hn => ⟨hx, hn⟩) (fun w1 f0 => ⟨⟨⟨f0.1.1.1, f0.2⟩, f0.1.1.2⟩, f0.1.2⟩) (h7 x w' hx K0 z0 y0)
    ·have E0 : szE P l o e w = w'.heap.size := by unfold szE; rw [hw, h4]; rfl
     refine .inl ⟨hw, v, w', h4, h5, h6, p, c, hp, hc, x0, .inr (.inl ⟨mk, t, cs, by rw [O0a (s0 v)]; exact h1, by rw [n1a (z0a d0 hp).1 (s0 v)]; exact h2, fun g hg hn => ?_⟩)⟩;have hF := h0 g (by have := h6.size; omega) hn (by omega);unfold b3a at hF;rw [O0a (ha _), n1a (z0a d0 ho).1 (ha _)] at hF;rcases hF with ⟨_, v', N0, e0, _, _, h7⟩ | ⟨b0, _⟩ | ⟨_, _, _, _, _, _, e0, _⟩
     rotate_right
     ·rw [h4] at e0; cases e0
     ·rw [h4] at e0; cases e0;rw [← r2a _ _ _ j0];exact FL.mono _ _ (g :: gs) (g :: gs) _ _ (fun x hx hn => ⟨hx, hn⟩) (fun w1 f0 => ⟨⟨f0.1.1, f0.2⟩, f0.1.2⟩) h7
     ·rw [hw] at b0; cases b0
    ·refine .inr (.inl ⟨hw, p, c, hp, hc, x0, .inr (.inl ⟨mk, t, cs, by rw [O0a (s0 _)]; exact h1, by rw [n1a (z0a d0 hp).1 (s0 _)]; exact h2, fun g hg hn => ?_⟩)⟩);have E0 : szE P l o e w = 0 := by unfold szE; rw [hw]; rfl
     have hF := h0 g hg hn (by omega);unfold b3a at hF;rw [O0a (ha _), n1a (z0a d0 ho).1 (ha _)] at hF;rcases hF with ⟨b0, _⟩ | ⟨_, h7⟩ | ⟨b0, _⟩
     rotate_right
     ·rw [hw] at b0; cases b0
     ·rw [hw] at b0; cases b0
     ·rw [← r2a _ _ _ j0];exact h7
theorem m4b {id : Nat} {n t : List Deferred → Env → World → Prop} {b : Nat → List Deferred → Env → World → Prop} {e : Env} {w : World} (hm : P.follows .mixedOrders = true) (ix : List Nat)
 (m : Nat) (q0 : C2b l (fun _ => true) m = true) (F0 : (List.range m == ix) = true) (C : World → Prop) (hC : C w.drew) (V : a2c) (hV : ∀ i f args Qp Qw, V i = some (f, args, Qp, Qw) → (∃ u, Qp u) ∧ (∀ u w w', w0a [] w w' → Qw u w → Qw u w') ∧ ∀ w, C w → M0a P f args w fun u w' => (Qp u ∧ Qw u w') ∧ C w' ∧ w0a [] w w') (ol : Oper) (H0 : l[m]? = some ol)
 (h : FL P N l C V (fun e w => WL P r N l.toArray [ol] (fun D' e' w' => D' = D ∧ n D e' w') D e w) w.heap.size ix e [] (fun _ => True)) : W P r N (.region id l.toArray true) ⟨n, b, t⟩ D e w := by
 obtain rfl : List.range m = ix := eq_of_beq F0;generalize u0 : (fun (e : Env) (w : World) => WL P r N l.toArray [ol] (fun D' e' w' => D' = D ∧ n D e' w') D e w) = K' at h;unfold C2b at q0;simp only [Bool.and_eq_true, decide_eq_true_eq] at q0;obtain ⟨⟨⟨⟨r0, B0⟩, E0⟩, g0⟩, _⟩ := q0;have z0 : ∀ j, j < m → j ∈ R3a l m := fun j hj => by
  have := List.all_eq_true.1 g0 j (List.mem_range.2 hj);simpa using this
 refine t0c hm B0 (fun f e w => (∀ i, f i = true → ∀ j ∈ d1a l i, f j = true) ∧ ((f m = false ∧ C w ∧ ∃ lo Φ, lo ≤ w.heap.size ∧ (∀ w w', Φ w → w0a [] w w' → Φ w') ∧ Φ w ∧ FL P N l C V K' lo (V6a m f) e [] Φ) ∨ (f m = true ∧ n D e w))) ⟨by simp, .inl ⟨rfl, hC, w.heap.size, fun _ => True, Nat.le_refl _, fun _ _ _ _ => trivial, trivial, ?_⟩⟩ ?_ ?_
 ·have : V6a m (fun _ => false) = List.range m := by unfold V6a; simp
  rw [this]; exact h
 ·rintro f e w i o ⟨f0, hM⟩ ho p0 s0;have C0 : i < l.length := (List.getElem?_eq_some_iff.1 ho).1;have a0 : ∀ k, (f k || k == i) = true → ∀ j ∈ d1a l k, (f j || j == i) = true := by
   intro k hk j hj;simp only [Bool.or_eq_true, beq_iff_eq] at hk ⊢;rcases hk with hk | rfl
   ·exact .inl (f0 k hk j hj)
   ·exact .inl (s0 j hj)
  rcases hM with ⟨d0, n0, lo, Φ, y0, h0, hΦ, hM⟩ | ⟨d0, -⟩
  rotate_left
  ·have := c3a f0 l.length (d1a l m) (f0 m d0) i (z0 i (by
    rcases Nat.lt_or_ge i m with h | h
    ·exact h
    ·have : i = m := by omega
     subst this; rw [p0] at d0; cases d0))
   rw [p0] at this; cases this
  by_cases D0 : i = m
  ·subst D0;obtain rfl : ol = o := Option.some.inj (H0.symm.trans ho);have b0 : ∀ j, j < i → f j = true := fun j hj => c3a f0 _ _ s0 j (z0 j hj);have t0 : V6a i f = [] := by
    unfold V6a; rw [List.filter_eq_nil_iff]; intro j hj; simp [b0 j (List.mem_range.1 hj)]
   rw [t0] at hM;have h4 := hM w n0 hΦ;rw [← u0] at h4;clear hM h u0;unfold WL at *;refine fun a Q hs hD he hK => h4 a Q hs hD he (fun a' w' I0 hh => hK a' w' I0 ?_);exact ⟨hh.1, a0, .inr ⟨by simp, hh.2⟩⟩
  have x0 : i < m := by omega
  have e0 : (f m || m == i) = false := by simp [d0]; omega
  obtain ⟨K0, _, h1, h2, h3⟩ := k9a (m := m) f x0 p0;rw [h1] at hM;have J0 : ∀ j ∈ R3a l i, f j = true := c3a f0 _ _ s0;obtain ⟨o', _, G0, hd, hN, h4⟩ := FL.first r0 (fun i f args Qp Qw h => (hV i f args Qp Qw h).1) n0 y0 K0 e [] Φ (fun j hj => by
   have := List.all_eq_true.1 (List.all_eq_true.1 E0 i (List.mem_range.2 x0)) j (List.mem_range.2 (h3 j hj).1);simp only [Bool.or_eq_true, List.contains_eq_mem, decide_eq_true_eq] at this;rcases this with h | h
   ·have := J0 j h; rw [(h3 j hj).2] at this; cases this
   ·exact h) (by simp) hM
  obtain rfl : o' = o := Option.some.inj (G0.symm.trans ho);rcases h4 with ⟨hw, v, w', hv, j0, o0, h4⟩ | ⟨hw, h4⟩ | ⟨hw, f', args, Qp, Qw, v0, hv, h4⟩
  rotate_right
  ·unfold WL; intro a Q hs hD he hK;simp only [wpListIn];have i0 : Region.wanted o' (yielded l.toArray a.tmps) = true := by rw [h1a, he]; exact hw
   simp only [i0, if_true];refine ⟨u0a _ _ _, ?_⟩;rw [Oper.semAt_eq _ _ _ (z0a r0 ho).2, c2a, he, hv, Oper.uponIn_enter];refine ⟨fun hh => by simp [fc, Fence.wide] at hh, S4a (Calls.mono ((hV _ _ _ _ _ v0).2.2 w n0) ?_)⟩;rintro en w' ⟨u, rfl, ⟨hu, A0⟩, j0, o0⟩;rw [hd];refine hK _ _ (by simp [Act.put, hs]) ⟨by simp [Act.put, hD], ?_⟩;rw [W0a u (by rw [hs]; exact hN), he];exact ⟨a0, .inl ⟨e0, j0, w'.heap.size, (fun w1 => (Φ w1 ∧ Qw u w1) ∧ w0a [] w' w1), Nat.le_refl _, fun w1 w2 h5 h6 => ⟨⟨h0 _ _ h5.1.1 h6, (hV _ _ _ _ _ v0).2.1 u _ _ h6 h5.1.2⟩, h5.2.trans h6⟩, ⟨⟨h0 _ _ hΦ o0, A0⟩, w0a.refl _ _⟩, by rw [h2]; exact h4 u w' hu A0 j0 o0⟩⟩
  ·unfold WL; intro a Q hs hD he hK;simp only [wpListIn];have i0 : Region.wanted o' (yielded l.toArray a.tmps) = true := by rw [h1a, he]; exact hw
   simp only [i0, if_true];refine ⟨u0a _ _ _, ?_⟩;rw [Oper.semAt_eq _ _ _ (z0a r0 ho).2, c2a, he, hv, Oper.uponIn_value];refine hK _ _ (by simp [Act.put, hd, hs]) ⟨by simp [Act.put, hd, hD], ?_⟩;rw [hd, W0a v (by rw [hs]; exact hN), he];exact ⟨a0, .inl ⟨e0, j0, w'.heap.size, (fun w1 => Φ w1 ∧ w0a [] w' w1), Nat.le_refl _, fun w1 w2 h5 h6 => ⟨h0 _ _ h5.1 h6, h5.2.trans h6⟩, ⟨h0 _ _ hΦ o0, w0a.refl _ _⟩, by rw [h2]; exact h4⟩⟩
  ·unfold WL; intro a Q hs hD he hK;simp only [wpListIn];have i0 : Region.wanted o' (yielded l.toArray a.tmps) = false := by rw [h1a, he]; exact hw
   simp only [i0];refine ⟨u0a _ _ _, ?_⟩;refine hK _ _ (by simp [Act.put, hd, hs]) ⟨by simp [Act.put, hd, hD], ?_⟩;rw [hd, W0a undef (by rw [hs]; exact hN), he];exact ⟨a0, .inl ⟨e0, n0, lo, Φ, y0, h0, hΦ, by rw [h2]; exact h4⟩⟩
 ·rintro f e w ⟨f0, hM⟩ b0;rcases hM with ⟨d0, -⟩ | ⟨-, hM⟩
  ·have := b0 m (by omega); rw [d0] at this; cases this
  ·exact hM
theorem w3c {id : Nat} {n t : List Deferred → Env → World → Prop} {b : Nat → List Deferred → Env → World → Prop} {e : Env} {w : World} (hm : P.follows .mixedOrders = true) (ix : List Nat)
 (m : Nat) (b0 : C2b l (fun _ => true) m = true) (a0 : (List.range m == ix) = true) (C : World → Prop) (hC : C w.drew) (ol : Oper) (d0 : l[m]? = some ol)
 (h : FL P N l C (fun _ => none) (fun e w => WL P r N l.toArray [ol] (fun D' e' w' => D' = D ∧ n D e' w') D e w) w.heap.size ix e [] (fun _ => True)) : W P r N (.region id l.toArray true) ⟨n, b, t⟩ D e w :=
 m4b hm ix m b0 a0 C hC (fun _ => none) (fun _ _ _ _ _ h => by cases h) ol d0 h
variable {lo : Nat} {gs : List Nat} {Φ : World → Prop} {e : Env} {w w0 : World} {L : List Ent} {M : List Nat}
theorem N5b (h : ∀ w, C w → Φ w → K e w) : FL P N l C V K lo [] e gs Φ := h
theorem g5a {i : Nat} {rest : List Nat} {o : Oper} (ho : l[i]? = some o) (hv : r2c o.op = true) (h : QL P N l.toArray C [o] (fun e' => FL P N l C V K lo rest e' gs Φ) e) : FL P N l C V K lo (i :: rest) e gs Φ := by
 unfold QL at h;obtain ⟨pa, hl, hq, hk⟩ := h;obtain ⟨d, v, h1, h2, h3, h4⟩ := hq 0 o rfl;obtain rfl : pa = [(d, v)] := by
  match pa, hl, h1 with
  | [x], _, h1 => simpa using h1
 refine ⟨o, d, ho, h2, h3, .inl ⟨v, ?_, hk⟩⟩;rcases h4 with ⟨h5, h6⟩ | h5
 ·refine .inl ⟨h5, fun w hw => ?_⟩;rcases h6 w hw with h7 | ⟨f, args, h7, _⟩
  ·exact h7
  ·obtain ⟨_, a0⟩ := J6a hv h7; cases a0
 ·exact .inr h5
theorem T0b {i d : Nat} {rest : List Nat} {x : Operand} {ty size n c : Nat} {t : TypeId} {p : String} {af : Array Edge} {A : Option Addr} (ho : l[i]? = some ⟨some d, .call { callee := .builtin .len, args := #[x], argTypes := #[ty] }, t, p, af, none⟩) (hT : SlT P ty size) (hx : ev e x = .slice A n c) (hd : Nat.ble (d + 1) N = true)
 (h : FL P N l C V K lo rest (upd e d (.int .i64 n)) gs Φ) : FL P N l C V K lo (i :: rest) e gs Φ := by
 obtain ⟨_, hu, _⟩ := hT;exact ⟨_, d, ho, rfl, Nat.le_of_ble_eq_true hd, .inl ⟨_, .inl ⟨rfl, fun w _ => by simp [execOp, resolve, invoke, builtin, Builtin.len_, hx, run_underlying hu, goInt]⟩, h⟩⟩
theorem B8b {i d t : Nat} {rest : List Nat} {o : Oper} {mk : Nat → Value} {cs : List Value} (ho : l[i]? = some o) (hd : o.dst = some d) (hN : Nat.ble (d + 1) N = true) (hw : Z0a l.toArray e o = true)
 (a0 : ∀ w1, Cl M w0 w L w1 → (execOp (ev e) o).run P w1 = .ok (.value (mk w1.heap.size)) (w1.alloc (.cells cs.toArray t (0, 0))))
 (h : ∀ g, lo ≤ g → g ∉ gs → FL P N l (Cl M w0 w L) V K lo rest (upd e d (mk g)) (g :: gs) (fun w => Φ w ∧ o0a w (g, t, cs))) : FL P N l (Cl M w0 w L) V K lo (i :: rest) e gs Φ :=
 ⟨o, d, ho, hd, Nat.le_of_ble_eq_true hN, .inr (.inl ⟨mk, t, cs, hw, fun w1 hC => ⟨_, a0 w1 hC, Cl.alloc _ _ hC, L2a _ _ _, by simp, by unfold o0a; show (w1.heap.push _)[w1.heap.size]? = _; simp⟩, h⟩)⟩
theorem E5b {i d el : Nat} {t : TypeId} {p : String} {af : Array Edge} {gd : Option (Nat × Bool)} {z : Value} {cs : List Value} {rest : List Nat}
 (ho : l[i]? = some ⟨some d, .alloc el, t, p, af, gd⟩) (hN : Nat.ble (d + 1) N = true) (hw : Z0a l.toArray e ⟨some d, .alloc el, t, p, af, gd⟩ = true) (hz : ∀ w, (zeroValue el).run P w = .ok z w) (a0 : z.cells.toList = cs)
 (h : ∀ g, lo ≤ g → g ∉ gs → FL P N l (Cl M w0 w L) V K lo rest (upd e d (.pointer (some ⟨g, 0, none⟩))) (g :: gs) (fun w => Φ w ∧ o0a w (g, el, cs))) : FL P N l (Cl M w0 w L) V K lo (i :: rest) e gs Φ := by
 refine B8b (mk := fun g => .pointer (some ⟨g, 0, none⟩)) ho rfl hN hw (fun w1 _ => ?_) h;subst a0;simp [execOp, Instr.alloc, newVar, newRow, hz]
theorem R1b {i d : Nat} {rest : List Nat} {t : TypeId} {p : String} {af : Array Edge} {args : Array Operand} {at_ : Array TypeId} {g : Operand} {caps : Array Value} {f : FuncId} {vs : List Value} {Qp : Value → Prop} {Qw : Value → World → Prop} (hH : Has P f)
 (ho : l[i]? = some ⟨some d, .call { callee := .value g, args := args, argTypes := at_ }, t, p, af, none⟩) (hN : Nat.ble (d + 1) N = true)
 (hw : Z0a l.toArray e ⟨some d, .call { callee := .value g, args := args, argTypes := at_ }, t, p, af, none⟩ = true) (hg : ev e g = .func (.func f) #[] caps) (a0 : args.toList.map (ev e) ++ caps.toList = vs) (hV : V i = some (f, vs.toArray, Qp, Qw))
 (h : ∀ u, Qp u → FL P N l C V K lo rest (upd e d u) gs (fun w => Φ w ∧ Qw u w)) : FL P N l C V K lo (i :: rest) e gs Φ := by
 refine ⟨_, d, ho, rfl, Nat.le_of_ble_eq_true hN, .inr (.inr ⟨f, vs.toArray, Qp, Qw, hV, hw, fun w1 _ => ?_, h⟩)⟩;subst a0;have : (args.map (ev e) ++ caps) = (args.toList.map (ev e) ++ caps.toList).toArray := by apply Array.ext'; simp
 simp [execOp, resolve, Deferred.ofValue, invoke, hg, hH _ w1, this]
def eqQ (v : Value) : Value → Prop := fun u => u = v
def noQ : Value → World → Prop := fun _ _ => True
theorem c6c {i d : Nat} {rest : List Nat} {t : TypeId} {p : String} {af : Array Edge} {args : Array Operand} {at_ : Array TypeId} {f : FuncId} {vs : List Value} {v : Value} (hH : Has P f)
 (ho : l[i]? = some ⟨some d, .call { callee := .value (.func f), args := args, argTypes := at_ }, t, p, af, none⟩) (hN : Nat.ble (d + 1) N = true)
 (hw : Z0a l.toArray e ⟨some d, .call { callee := .value (.func f), args := args, argTypes := at_ }, t, p, af, none⟩ = true) (a0 : args.toList.map (ev e) = vs) (hV : V i = some (f, vs.toArray, eqQ v, noQ))
 (h : FL P N l C V K lo rest (upd e d v) gs Φ) : FL P N l C V K lo (i :: rest) e gs Φ :=
 R1b (caps := #[]) hH ho hN hw rfl (by simpa using a0) hV fun u hu => by
  cases hu;exact FL.mono _ _ gs gs _ _ (fun x hx hn => ⟨hx, hn⟩) (fun w1 b0 => b0.1) h
theorem S3a {i d ty el size b0 n : Nat} {t : TypeId} {p : String} {af : Array Edge} {gd : Option (Nat × Bool)} {z : Value} {a0 : Array (Nat × Operand)} {vs : List Value} {cs : List Value} {rest : List Nat}
 (ho : l[i]? = some ⟨some d, .buildSlice ty n a0, t, p, af, gd⟩) (hN : Nat.ble (d + 1) N = true) (hw : Z0a l.toArray e ⟨some d, .buildSlice ty n a0, t, p, af, gd⟩ = true) (hS : SlZ P ty el size z b0)
 (i0 : a0.toList.map (fun q => (q.1, ev e q.2)) = (vs.zipIdx 0).map fun q => (q.2, q.1)) (hn : vs.length = n) (h0 : Nat.ble 1 n = true) (d0 : Nat.ble (n * size) 16777216 = true) (hv : vs.map (·.cells.size) = List.replicate n size)
 (f0 : vs.flatMap (·.cells.toList) = cs)
 (h : ∀ g, lo ≤ g → g ∉ gs → FL P N l (Cl M w0 w L) V K lo rest (upd e d (.slice (some ⟨g, 0, none⟩) n n)) (g :: gs) (fun w => Φ w ∧ o0a w (g, el, cs))) : FL P N l (Cl M w0 w L) V K lo (i :: rest) e gs Φ := by
 have hp : (a0.map fun (i, x) => (i, ev e x)) = ((vs.zipIdx 0).map fun q => (q.2, q.1)).toArray := by rw [← i0]; apply Array.ext'; simp
 have g0 : ∀ v ∈ vs, v.cells.size = size := fun v hm => by
  have : v.cells.size ∈ vs.map (·.cells.size) := List.mem_map.2 ⟨v, hm, rfl⟩;rw [hv] at this; exact (List.mem_replicate.1 this).2
 refine B8b (mk := fun g => .slice (some ⟨g, 0, none⟩) n n) (t := el) (cs := cs) ho rfl hN hw (fun w1 _ => ?_) h;have e0 := C4a hS hn (Nat.le_of_ble_eq_true h0) (Nat.le_of_ble_eq_true d0) g0 w1;subst f0;simp only [execOp, hp, Sem.run_bind, e0, Result.andThen_ok, Sem.run_pure]
theorem O7a {i d : Nat} {t : TypeId} {p : String} {af : Array Edge} {gd : Option (Nat × Bool)} {x y : Operand} {rest : List Nat}
 {ty el a0 n c : Nat} {z : Value} {kl kc : IntKind} (ho : l[i]? = some ⟨some d, .makeSlice ty x y, t, p, af, gd⟩) (hN : Nat.ble (d + 1) N = true) (hw : Z0a l.toArray e ⟨some d, .makeSlice ty x y, t, p, af, gd⟩ = true)
 (hS : SlZ P ty el 1 z a0) (hx : ev e x = .int kl (n : Int)) (hy : ev e y = .int kc (c : Int)) (g0 : n ≤ c) (hb : a0 * c ≤ 140737488355328) (hc : c ≤ 140737488355328)
 (f0 : z.cells = #[z])
 (h : ∀ g, lo ≤ g → g ∉ gs → FL P N l (Cl M w0 w L) V K lo rest (upd e d (.slice (some ⟨g, 0, none⟩) n c)) (g :: gs) (fun w => Φ w ∧ o0a w (g, el, List.replicate c z))) : FL P N l (Cl M w0 w L) V K lo (i :: rest) e gs Φ := by
 obtain ⟨ii, hi, hz, e0, d0⟩ := hS.parts;have b0 : (ii.bytes : Int) * (c : Int) ≤ 281474976710656 := by
  have : ((a0 * c : Nat) : Int) ≤ 281474976710656 := by omega
  rw [d0]; rwa [Int.natCast_mul] at this
 refine B8b (mk := fun g => .slice (some ⟨g, 0, none⟩) n c) (t := el) (cs := List.replicate c z) ho rfl hN hw (fun w1 _ => ?_) h;have hr := run_make (P := P) w1 ty el ii z hS.und hi hz kl kc n c (by omega) (by omega) b0 (by omega);have hm : madeCells z.cells (c * ii.size) = (List.replicate c z).toArray := by
  rw [f0, e0, Nat.mul_one];apply Array.ext
  ·simp [madeCells]
  ·intro j h1 h2;simp [madeCells, Nat.mod_one]
 simp only [Int.toNat_natCast, hm] at hr;simp only [execOp, hx, hy, Sem.run_bind, hr, Result.andThen_ok, Sem.run_pure]
end
end Go.Fw
