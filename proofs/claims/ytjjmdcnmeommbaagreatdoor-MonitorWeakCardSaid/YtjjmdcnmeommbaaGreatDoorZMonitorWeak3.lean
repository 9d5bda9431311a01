/-
  Part 3 of 8 of the proof of MonitorWeak: what it leans on. No conditions.
-/
import Derived.Test.YtjjmdcnmeommbaaGreatDoorZMonitorWeak2
import Derived.StringKeys
import Derived.Test.YtjjmdcnmeommbaaGreatDoorRows
import Derived.ProofKit
import Derived.LaidMore
import Derived.OpenShut
import Derived.Carry
import Derived.SizedLaws
import Derived.Stop.Joined
import Derived.Test.YtjjmdcnmeommbaaGreatDoorTie
import Derived.Test.YtjjmdcnmeommbaaGreatDoorCards
import Derived.SevenTiedAt
set_option maxRecDepth 100000
namespace Go.Fw
open Go.RowKit
def X2a (op a b c : Int) : Int :=
 if op = 4 then T6c (-1) a else if op = 5 then y7b a b else if op = 6 then bor a b else if op = 7 then T6c a b else if op = 9 then wr (a + wr (0 - b)) else if op = 8 then wr (a + b) else
 if op = 10 then wr (a * b) else if op = 11 then (if a = b then 1 else 0) else if op = 13 then (if a = b then 1 else if a < b then 1 else 0) else if op = 12 then (if a < b then 1 else 0) else
 if op = 14 then (if a = 1 then b else c) else 0
mutual
def E.val (old now : List Int) : E → Int
 | ⟨op, w, n, ks⟩ => if op = 1 then n else if op = 2 then y7b (now.getD n.toNat 0) (B4a w.toNat - 1) else if op = 3 then y7b (old.getD n.toNat 0) (B4a w.toNat - 1) else
  y7b (X2a op ((E.vals old now ks).getD 0 0) ((E.vals old now ks).getD 1 0) ((E.vals old now ks).getD 2 0)) (B4a w.toNat - 1)
def E.vals (old now : List Int) : List E → List Int
 | [] => []
 | k :: ks => E.val old now k :: E.vals old now ks
end
theorem E.vals_map (old now : List Int) (ks : List E) : E.vals old now ks = ks.map (E.val old now) := by
 induction ks with
 | nil => simp [E.vals]
 | cons k ks ih => simp [E.vals, ih]
theorem E.val_def (old now : List Int) (e : E) : e.val old now = if e.op = 1 then e.n else if e.op = 2 then y7b (now.getD e.n.toNat 0) (B4a e.w.toNat - 1) else if e.op = 3 then y7b (old.getD e.n.toNat 0) (B4a e.w.toNat - 1) else
 y7b (X2a e.op ((e.kids.map (E.val old now)).getD 0 0) ((e.kids.map (E.val old now)).getD 1 0) ((e.kids.map (E.val old now)).getD 2 0)) (B4a e.w.toNat - 1) := by
 cases e; simp only [E.val, E.vals_map]
def E.evl (old now : List Int) (e : E) : Int := if e.wf then e.val old now else 0
def t8c (vs : List Int) (k : Nat) : List Value := [.int .i64 ((vs.take k).getD 0 0), .int .i64 ((vs.take k).getD 1 0), .int .i64 ((vs.take k).getD 2 0)]
@[simp] theorem T8c (vs : List Int) (k : Nat) : (t8c vs k).length = 3 := rfl
theorem T0c (vs : List Int) (k : Nat) (h3 : vs.length ≤ 3) (h : k < vs.length) : (t8c vs k).set k (.int .i64 (vs.getD k 0)) = t8c vs (k + 1) := by
 unfold t8c
 match vs, h3 with
 | [], _ => simp at h
 | [a], _ => obtain rfl : k = 0 := by simp at h; omega
             simp
 | [a, b], _ => rcases (show k = 0 ∨ k = 1 by simp at h; omega) with rfl | rfl <;> simp
 | [a, b, c], _ => rcases (show k = 0 ∨ k = 1 ∨ k = 2 by simp at h; omega) with rfl | rfl | rfl <;> simp
 | a :: b :: c :: d :: l, h => simp at h
end Go.Fw
namespace Go.Proofs.YtjjmdcnmeommbaaGreatDoor
open Go.Fw Go.RowKit
theorem a1b (M : List Nat) (w0 : World) (v : Value) (l : List Int) (i : Int) (hR : RdI M w0 v l) (h0 : 0 ≤ i) :
 R0a Tryz.prog 80 #[v, .int .i64 i] w0 fun v w' => v = .int .i64 (l.getD i.toNat 0) ∧ Below w0.heap.size w0 w' := by
 obtain ⟨_, _, _, rfl⟩ := hR.form
 obtain ⟨_, _, _, _, hel⟩ := hR.at
 have S := St.refl w0
 refine a0a Tryz.func80 rfl Tryz.ntmps80 rfl ?_
 refine wB0 rfl ⟨⟩ (fun h8 => ?_) fun h8 => ?_
 ·refine lO0 rfl ⟨⟩ ?_
  obtain ⟨b, o, _, _, hee⟩ := hel (by omega)
  have hlt : i.toNat < l.length := by omega
  obtain ⟨_, _, hck2, hck3⟩ := hee i.toNat l[i.toNat] (List.getElem?_eq_getElem hlt)
  have hcb : w0.cell? ⟨b, o + i.toNat * 1, none⟩ = some (.int .i64 l[i.toNat]) := hck2 0 _ (by rw [hck3.1]; rfl)
  refine A0a W0a.slT rfl (by assumption) rfl (by omega) (by omega) rfl ?_
  refine u0a G0a rfl (by first | exact S.old hcb) rfl ?_
  refine lR0 rfl ⟨⟩ (o0a rfl (by conv => lhs; whnf) ?_)
  refine ⟨?_, S.fin⟩; simp [hlt]; done
 refine lR0 rfl ⟨⟩ (o0a rfl (by conv => lhs; whnf) ?_)
 refine ⟨?_, S.fin⟩; simp [show l.length ≤ i.toNat by omega]; done
theorem f6a (z : Bool) (w0 : World) : R0a Tryz.prog 143 #[.bool z] w0 fun v w' => v = .int .i64 (if z = true then 1 else 0) ∧ Below w0.heap.size w0 w' := by
 have S := St.refl w0
 cases z
 ·refine a0a Tryz.func143 rfl Tryz.ntmps143 rfl ?_
  refine wR0 rfl ⟨⟩ (o0a rfl (by conv => lhs; whnf) ?_)
  exact ⟨by simp, S.fin⟩
 ·refine a0a Tryz.func143 rfl Tryz.ntmps143 rfl ?_
  refine wR0 rfl ⟨⟩ (o0a rfl (by conv => lhs; whnf) ?_)
  exact ⟨by simp, S.fin⟩
theorem u2c (op a b c : Int) (w0 : World) : R0a Tryz.prog 81 #[.int .i64 op, .agg #[.int .i64 a, .int .i64 b, .int .i64 c]] w0 fun v w' => v = .int .i64 (X2a op a b c) ∧ Below w0.heap.size w0 w' := by
 have S := St.refl w0
 refine a0a Tryz.func81 rfl Tryz.ntmps81 rfl ?_
 refine wO0 rfl ⟨⟩ (m0a S (by conv => lhs; whnf) rfl ?_)
 intro g3 w3 S3 X3 G3
 refine lC0 rfl ⟨⟩ (x0a b0a [0, 1, 2, 3, 4, 5] [] [] (by kernel_rfl) rfl (Cl _ _ _ _) (Cl.start S3) ?_)
 refine W3a z2b rfl rfl (by omega) (by omega) rfl ?_
 refine i0a G0a rfl (fun w1 hw => by first | exact hw.1.cell 0 rfl rfl) rfl ?_
 refine W3a z2b rfl rfl (by omega) (by omega) rfl ?_
 refine i0a G0a rfl (fun w1 hw => by first | exact hw.1.cell 0 rfl rfl) rfl ?_
 refine qD rfl ⟨⟩ ?_
 rintro wR1 ⟨SR1, _⟩
 refine lB0 rfl ⟨⟩ (fun h13 => ?_) fun h13 => ?_
 ·refine lT rfl ⟨⟩ rfl ⟨congrArg (Value.int .i64) ?_, SR1.fin⟩
  unfold X2a
  rw [if_pos h13]
 refine lB0 rfl ⟨⟩ (fun h15 => ?_) fun h15 => ?_
 ·refine lT rfl ⟨⟩ rfl ⟨congrArg (Value.int .i64) ?_, SR1.fin⟩
  unfold X2a
  rw [if_neg h13, if_pos h15]
 refine lB0 rfl ⟨⟩ (fun h17 => ?_) fun h17 => ?_
 ·refine lT rfl ⟨⟩ rfl ⟨congrArg (Value.int .i64) ?_, SR1.fin⟩
  unfold X2a
  rw [if_neg h13, if_neg h15, if_pos h17]
 refine lB0 rfl ⟨⟩ (fun h19 => ?_) fun h19 => ?_
 ·refine lT rfl ⟨⟩ rfl ⟨congrArg (Value.int .i64) ?_, SR1.fin⟩
  unfold X2a
  rw [if_neg h13, if_neg h15, if_neg h17, if_pos h19]
 refine lB0 rfl ⟨⟩ (fun h21 => ?_) fun h21 => ?_
 ·refine lOn 8 SR1.k [] rfl ⟨⟩ (Z7c rfl rfl ?_)
  refine lOn 9 SR1.k [] rfl ⟨⟩ (R2c rfl rfl rfl ?_)
  refine lT rfl ⟨⟩ rfl ⟨congrArg (Value.int .i64) ?_, SR1.fin⟩
  unfold X2a
  rw [if_neg h13, if_neg h15, if_neg h17, if_neg h19, if_pos h21]
 refine lB0 rfl ⟨⟩ (fun h23 => ?_) fun h23 => ?_
 ·refine lOn 11 SR1.k [] rfl ⟨⟩ (R2c rfl rfl rfl ?_)
  refine lT rfl ⟨⟩ rfl ⟨congrArg (Value.int .i64) ?_, SR1.fin⟩
  unfold X2a
  rw [if_neg h13, if_neg h15, if_neg h17, if_neg h19, if_neg h21, if_pos h23]
 refine lB0 rfl ⟨⟩ (fun h25 => ?_) fun h25 => ?_
 ·refine lOn 11 SR1.k [] rfl ⟨⟩ (J7c rfl rfl rfl ?_)
  refine lT rfl ⟨⟩ rfl ⟨congrArg (Value.int .i64) ?_, SR1.fin⟩
  unfold X2a
  rw [if_neg h13, if_neg h15, if_neg h17, if_neg h19, if_neg h21, if_neg h23, if_pos h25]
 refine lB0 rfl ⟨⟩ (fun h27 => ?_) fun h27 => ?_
 ·refine lB0 rfl ⟨⟩ (fun h55 => ?_) fun h55 => ?_
  ·refine g0a SR1 M7a rfl rfl (f6a _ _) ?_
   intro w56 S56 X56
   refine lT rfl ⟨⟩ rfl ⟨congrArg (Value.int .i64) ?_, S56.fin⟩
   unfold X2a
   rw [if_neg h13, if_neg h15, if_neg h17, if_neg h19, if_neg h21, if_neg h23, if_neg h25, if_pos h27]; simp [h55]; done
  refine g0a SR1 M7a rfl rfl (f6a _ _) ?_
  intro w56 S56 X56
  refine lT rfl ⟨⟩ rfl ⟨congrArg (Value.int .i64) ?_, S56.fin⟩
  unfold X2a
  rw [if_neg h13, if_neg h15, if_neg h17, if_neg h19, if_neg h21, if_neg h23, if_neg h25, if_pos h27]; simp [h55]; done
 refine lB0 rfl ⟨⟩ (fun h29 => ?_) fun h29 => ?_
 ·refine lB0 rfl ⟨⟩ (fun h59 => ?_) fun h59 => ?_
  ·refine lT rfl ⟨⟩ rfl ⟨congrArg (Value.int .i64) ?_, SR1.fin⟩
   unfold X2a
   rw [if_neg h13, if_neg h15, if_neg h17, if_neg h19, if_neg h21, if_neg h23, if_neg h25, if_neg h27, if_pos h29]; (simp [h59]; done)
  refine lB0 rfl ⟨⟩ (fun h62 => ?_) fun h62 => ?_
  ·refine g0a SR1 M7a rfl rfl (f6a _ _) ?_
   intro w63 S63 X63
   refine lT rfl ⟨⟩ rfl ⟨congrArg (Value.int .i64) ?_, S63.fin⟩
   unfold X2a
   rw [if_neg h13, if_neg h15, if_neg h17, if_neg h19, if_neg h21, if_neg h23, if_neg h25, if_neg h27, if_pos h29]; (simp [h59, h62]; done)
  refine g0a SR1 M7a rfl rfl (f6a _ _) ?_
  intro w63 S63 X63
  refine lT rfl ⟨⟩ rfl ⟨congrArg (Value.int .i64) ?_, S63.fin⟩
  unfold X2a
  rw [if_neg h13, if_neg h15, if_neg h17, if_neg h19, if_neg h21, if_neg h23, if_neg h25, if_neg h27, if_pos h29]; (simp [h59, h62]; done)
 refine lB0 rfl ⟨⟩ (fun h31 => ?_) fun h31 => ?_
 ·refine lB0 rfl ⟨⟩ (fun h62 => ?_) fun h62 => ?_
  ·refine g0a SR1 M7a rfl rfl (f6a _ _) ?_
   intro w63 S63 X63
   refine lT rfl ⟨⟩ rfl ⟨congrArg (Value.int .i64) ?_, S63.fin⟩
   unfold X2a
   rw [if_neg h13, if_neg h15, if_neg h17, if_neg h19, if_neg h21, if_neg h23, if_neg h25, if_neg h27, if_neg h29, if_pos h31]; (simp [h62]; done)
  refine g0a SR1 M7a rfl rfl (f6a _ _) ?_
  intro w63 S63 X63
  refine lT rfl ⟨⟩ rfl ⟨congrArg (Value.int .i64) ?_, S63.fin⟩
  unfold X2a
  rw [if_neg h13, if_neg h15, if_neg h17, if_neg h19, if_neg h21, if_neg h23, if_neg h25, if_neg h27, if_neg h29, if_pos h31]; (simp [h62]; done)
 refine lB0 rfl ⟨⟩ (fun h33 => ?_) fun h33 => ?_
 ·refine lB0 rfl ⟨⟩ (fun h65 => ?_) fun h65 => ?_
  ·refine lT rfl ⟨⟩ rfl ⟨congrArg (Value.int .i64) ?_, SR1.fin⟩
   unfold X2a
   rw [if_neg h13, if_neg h15, if_neg h17, if_neg h19, if_neg h21, if_neg h23, if_neg h25, if_neg h27, if_neg h29, if_neg h31, if_pos h33]; simp [h65]; done
  refine lO0 rfl ⟨⟩ (S5a z2b rfl rfl (by omega) (by omega) rfl ?_)
  refine u0a G0a rfl (by first | exact SR1.cell 0 rfl rfl) rfl ?_
  refine lT rfl ⟨⟩ rfl ⟨congrArg (Value.int .i64) ?_, SR1.fin⟩
  unfold X2a
  rw [if_neg h13, if_neg h15, if_neg h17, if_neg h19, if_neg h21, if_neg h23, if_neg h25, if_neg h27, if_neg h29, if_neg h31, if_pos h33]; simp [h65]; done
 refine lT rfl ⟨⟩ rfl ⟨congrArg (Value.int .i64) ?_, SR1.fin⟩
 unfold X2a
 rw [if_neg h13, if_neg h15, if_neg h17, if_neg h19, if_neg h21, if_neg h23, if_neg h25, if_neg h27, if_neg h29, if_neg h31, if_neg h33]
theorem h1c : ∀ (e : E) (M : List Nat) (w0 : World) (b o : Nat) (vo vn : Value) (old now : List Int) (lim : Int), RdP M w0 e b o → c3a M w0 → RdI M w0 vo old → RdI M w0 vn now → e.good lim = true →
 R0a Tryz.prog 47 #[.pointer (some ⟨b, o, none⟩), vo, vn] w0 fun v w' => v = .int .i64 (e.val old now) ∧ Below w0.heap.size w0 w' := by
 intro e
 induction e using E.induct with
 | _ e ih =>
 intro M w0 b o vo vn old now lim hR hK hO hN hg
 obtain ⟨_, _, _, _, c0, c1, c2, _, n, _, c3, _, _, _, _, hks, _⟩ := hR.open_
 obtain ⟨Ao, no, co, rfl⟩ := hO.form
 obtain ⟨An, nn, cn, rfl⟩ := hN.form
 rw [E.good_def] at hg
 simp only [Bool.and_eq_true] at hg
 have hsh : e.Shape := of_decide_eq_true hg.1.2
 have hkg : ∀ k ∈ e.kids, k.good (lim - 1) = true := (E.goods_iff _ _).1 hg.2
 clear hg
 have hov : (e.op = 3 ∨ e.op = 2) → 0 ≤ e.n ∧ e.n < 32 := fun h => by
  have := (b5a (by omega)).1 hsh; omega
 have har := t7a hsh
 have har2 := D2a e.op
 have S := St.refl w0
 have hval := E.val_def old now e
 refine a0a Tryz.func47 rfl Tryz.ntmps47 rfl ?_
 refine wO0 rfl ⟨⟩ (u0a G0a rfl (by exact S.old c0) rfl ?_)
 refine lB0 rfl ⟨⟩ (fun h14 => ?_) fun h14 => ?_
 ·refine lO0 rfl ⟨⟩ (u0a G0a rfl (by exact S.old c2) rfl ?_)
  refine lT rfl ⟨⟩ rfl ⟨congrArg (Value.int .i64) ?_, S.fin⟩
  rw [hval]
  rw [if_pos h14]
 refine lB0 rfl ⟨⟩ (fun h20 => ?_) fun h20 => ?_
 ·refine lC0 rfl ⟨⟩ (x0a b0a [0, 1, 2, 3, 4, 5, 6, 7, 8, 9, 10, 11, 12, 13] [] [] (by kernel_rfl) rfl (Cl _ _ _ _) (Cl.start S) ?_)
  refine I1a (by conv => lhs; whnf) rfl ?_
  refine qO0 rfl ⟨⟩ (i0a G0a rfl (fun w1 hw => by exact hw.1.old c2) rfl ?_)
  refine K1a d3c rfl rfl (fun w1 S1 X1 => a1b M _ _ _ _ (RdS.keep (by assumption) (S1.keep0 M)) (by omega)) ?_
  refine qO0 rfl ⟨⟩ (i0a G0a rfl (fun w1 hw => by exact hw.1.old c1) rfl ?_)
  refine W3a j2b rfl rfl (by omega) (by omega) rfl ?_
  refine i0a G0a rfl (fun w1 hw => by exact hw.1.old (hK.at (by omega) (by omega))) rfl ?_
  refine qD rfl ⟨⟩ ?_
  rintro wR5 ⟨SR5, _⟩
  refine lT rfl ⟨⟩ rfl ⟨congrArg (Value.int .i64) ?_, SR5.fin⟩
  rw [hval]
  rw [if_neg h14, if_pos h20]
 refine lB0 rfl ⟨⟩ (fun h35 => ?_) fun h35 => ?_
 ·refine lC0 rfl ⟨⟩ (x0a b0a [0, 1, 2, 3, 4, 5, 6, 7, 8, 9, 10, 11, 12, 13] [] [] (by kernel_rfl) rfl (Cl _ _ _ _) (Cl.start S) ?_)
  refine I1a (by conv => lhs; whnf) rfl ?_
  refine qO0 rfl ⟨⟩ (i0a G0a rfl (fun w1 hw => by exact hw.1.old c2) rfl ?_)
  refine K1a d3c rfl rfl (fun w1 S1 X1 => a1b M _ _ _ _ (RdS.keep (by assumption) (S1.keep0 M)) (by omega)) ?_
  refine qO0 rfl ⟨⟩ (i0a G0a rfl (fun w1 hw => by exact hw.1.old c1) rfl ?_)
  refine W3a j2b rfl rfl (by omega) (by omega) rfl ?_
  refine i0a G0a rfl (fun w1 hw => by exact hw.1.old (hK.at (by omega) (by omega))) rfl ?_
  refine qD rfl ⟨⟩ ?_
  rintro wR7 ⟨SR7, _⟩
  refine lT rfl ⟨⟩ rfl ⟨congrArg (Value.int .i64) ?_, SR7.fin⟩
  rw [hval]
  rw [if_neg h14, if_neg h20, if_pos h35]
 refine lO0 rfl ⟨⟩ (k0a S P8c rfl rfl ?_)
 intro g7 w7 S7 X7 G7
 refine lO0 rfl ⟨⟩ (u0a T1a rfl (by exact S7.old c3) rfl ?_)
 refine lC0 rfl ⟨⟩ (wL (fun μ D ε w => D = [] ∧ ∃ k : Nat, (k + μ = e.kids.length) ∧ St [] w0 w [(some g7, 149, t8c (e.kids.map (E.val old now)) k)] ∧ ε 0 = .pointer (some ⟨b, o, none⟩) ∧ ε 1 = .slice Ao no co ∧ ε 2 = .slice An nn cn ∧ ε 7 = .pointer (some ⟨g7, 0, none⟩) ∧ ε 53 = .int .i64 n ∧ ε 54 = .int .i64 k) (μ := e.kids.length) ⟨rfl, 0, by omega, by exact S7, rfl, rfl, rfl, rfl, rfl, rfl⟩ ?_)
 rintro μ D ε w ⟨rfl, k, _, S, e0, e1, e2, e7, e53, e54⟩
 refine s0a 0 e0 (s0a 1 e1 (s0a 2 e2 (s0a 7 e7 (s0a 53 e53 (s0a 54 e54 ?_)))))
 clear e0 e1 e2 e7 e53 e54
 refine wB0 rfl ⟨⟩ (fun h55 => ?_) fun h55 => ?_
 ·refine lO0 rfl ⟨⟩ (u0a T1a rfl (by exact S.old c3) rfl ?_)
  refine lO0 rfl ⟨⟩ ?_
  have hlt : k < e.kids.length := by omega
  obtain ⟨bk, ok, _, hbkM, hkk⟩ := hks (by omega)
  refine A0a y1a.slT rfl (by assumption) rfl (by omega) (by omega) rfl ?_
  refine lO0 rfl ⟨⟩ (g0a S X2c rfl rfl (ih _ (List.getElem_mem hlt) M _ bk (ok + k * 4) _ _ old now _ ((RdP.kid hbkM hkk k hlt).keep (S.keep0 M)) (hK.keep (S.keep0 M)) (hO.keep (S.keep0 M)) (hN.keep (S.keep0 M)) (hkg _ (List.getElem_mem hlt))) ?_)
  intro w66 S66 X66
  refine S5a z2b rfl rfl (by omega) (by omega) rfl ?_
  first | refine w0a (kk := 0) S66 S8a rfl (by conv => lhs; whnf) rfl rfl (by (simp; omega)) ?_
  intro w12_11 S12_11 X12_11
  refine lP0 rfl ⟨by omega,⟨⟩⟩ ⟨μ - 1, by omega, rfl, k + 1, by omega, ?_, rfl, rfl, rfl, rfl, rfl, rfl⟩
  have h3 : (e.kids.map (E.val old now)).length ≤ 3 := by rw [List.length_map]; omega
  have hx := T0c (e.kids.map (E.val old now)) k h3 (by simpa using hlt)
  rw [← hx]
  simpa [hlt] using S12_11
 refine lC0 rfl ⟨⟩ (x0a b0a [0, 1, 2, 3, 4, 5, 6, 7, 8, 9, 10, 11, 12, 13] [] [] (by kernel_rfl) rfl (Cl _ _ _ _) (Cl.start S) ?_)
 refine qO0 rfl ⟨⟩ (i0a G0a rfl (fun w1 hw => by exact hw.1.old c0) rfl ?_)
 refine qO S.q [.w 0] rfl ⟨⟨rfl,by rfl⟩,⟨⟩⟩ (K1a H7c rfl rfl (fun w1 S1 X1 => u2c _ _ _ _ _) ?_)
 refine qO0 rfl ⟨⟩ (i0a G0a rfl (fun w1 hw => by exact hw.1.old c1) rfl ?_)
 refine W3a j2b rfl rfl (by omega) (by omega) rfl ?_
 refine i0a G0a rfl (fun w1 hw => by exact hw.1.old (hK.at (by omega) (by omega))) rfl ?_
 refine qD rfl ⟨⟩ ?_
 rintro wR14 ⟨SR14, _⟩
 refine lT rfl ⟨⟩ rfl ⟨congrArg (Value.int .i64) ?_, SR14.fin⟩
 rw [hval]
 obtain rfl : k = e.kids.length := by omega
 rw [if_neg h14, if_neg h20, if_neg h35]
 have h3 : (e.kids.map (E.val old now)).take e.kids.length = e.kids.map (E.val old now) := List.take_of_length_le (by simp)
 rw [h3]
theorem J6a (e : E) (M : List Nat) (w0 : World) (cs : List Value) (vo vn : Value) (old now : List Int) (hR : RdE M w0 e cs) (hK : c3a M w0) (hO : RdI M w0 vo old) (hN : RdI M w0 vn now) :
 R0a Tryz.prog 23 #[.agg cs.toArray, vo, vn] w0 fun v w' => v = .int .i64 (e.evl old now) ∧ Below w0.heap.size w0 w' := by
 obtain ⟨_, _, _, rfl, _, _, _, _, _, _, _, _⟩ := hR.open_
 obtain ⟨_, _, _, rfl⟩ := hO.form
 obtain ⟨_, _, _, rfl⟩ := hN.form
 have S := St.refl w0
 refine a0a Tryz.func23 rfl Tryz.ntmps23 rfl ?_
 refine wO0 rfl ⟨⟩ (m0a S (by conv => lhs; whnf) rfl ?_)
 intro g3 w3 S3 X3 G3
 refine lO S3.k [.w 0] rfl ⟨⟨rfl,by rfl⟩,⟨⟩⟩ (r0a S3 h9b rfl rfl (a5a e M _ _ (RdE.keep (S3.keep0 M) _ _ hR) (hK.keep (S3.keep0 M))) (fun h8 w8 S8 X8 => ?_) (fun h8 w8 S8 X8 => ?_))
 ·refine lO0 rfl ⟨⟩ ?_
  refine g0a S8 X2c rfl rfl (h1c e [] _ g3 0 _ _ old now 40 ⟨by simp, _, S8.cells 0 rfl, RdE.less (by simp) _ _ (RdE.keep (S8.keep0 M) _ _ hR)⟩ ((hK.keep (S8.keep0 M)).more (by simp)) ((hO.keep (S8.keep0 M)).less (by simp)) ((hN.keep (S8.keep0 M)).less (by simp)) (by unfold E.wf at h8; simp only [Bool.and_eq_true] at h8; exact h8.2)) ?_
  intro w12 S12 X12
  refine lT rfl ⟨⟩ rfl ⟨congrArg (Value.int .i64) ?_, S12.fin⟩
  unfold E.evl
  simp [h8]
 refine lT rfl ⟨⟩ rfl ⟨congrArg (Value.int .i64) ?_, S8.fin⟩
 unfold E.evl
 simp [h8]
end Go.Proofs.YtjjmdcnmeommbaaGreatDoor
namespace Go.Fw
open Go.RowKit
section
variable {σ : Type}
mutual
def E.lf (step : E → σ → σ) : E → σ → σ
 | ⟨op, w, n, ks⟩, s => E.lfs step ks (if ks.length = 0 then step ⟨op, w, n, ks⟩ s else s)
def E.lfs (step : E → σ → σ) : List E → σ → σ
 | [], s => s
 | k :: ks, s => E.lfs step ks (E.lf step k s)
end
theorem E.lf_def (step : E → σ → σ) (e : E) (s : σ) : e.lf step s = E.lfs step e.kids (if e.kids.length = 0 then step e s else s) := by cases e; simp only [E.lf]
theorem L0a.mono {M M' : List Nat} {w w' : World} (h : L0a M w w') (hs : ∀ g ∈ M, g ∈ M') : L0a M' w w' := ⟨h.os, h.tape, h.output, h.size, fun i hi hm => h.block i hi fun hh => hm (hs i hh)⟩
theorem St.more0 {M : List Nat} {w0 w w' : World} (S : St M w0 w []) (h : L0a M w w') : St M w0 w' [] :=
 S.changed (G := M) (L' := []) h (fun _ hg => .inr hg) rfl (by simp)
end
end Go.Fw
namespace Go.Proofs.YtjjmdcnmeommbaaGreatDoor
open Go.Fw Go.RowKit
theorem J3b {σ : Type} (M : List Nat) (Inv : σ → World → Prop) (step : E → σ → σ) (f : FuncId) (caps : Array Value) (hf : Has Tryz.prog f)
 (hstep : ∀ (e : E) (s : σ) (w : World) (b o : Nat), e.Shape → e.kids.length = 0 → RdP M w e b o → Inv s w →
   R0a Tryz.prog f (.pointer (some ⟨b, o, none⟩) :: caps.toList).toArray w fun _ w' => Inv (step e s) w' ∧ L0a M w w') :
 ∀ (e : E) (w0 : World) (b o : Nat) (s : σ) (lim : Int), RdP M w0 e b o → Inv s w0 → e.good lim = true →
 R0a Tryz.prog 166 #[.pointer (some ⟨b, o, none⟩), .func (.func f) #[] caps] w0 fun _ w' => Inv (e.lf step s) w' ∧ L0a M w0 w' := by
 intro e
 induction e using E.induct with
 | _ e ih =>
 intro w0 b o s lim hR hI hg
 obtain ⟨hbM, _, _, _, _, _, _, _, n, _, c3, _, _, _, _, hks, _⟩ := hR.open_
 rw [E.good_def] at hg
 simp only [Bool.and_eq_true] at hg
 have hsh : e.Shape := of_decide_eq_true hg.1.2
 have hkg : ∀ k ∈ e.kids, k.good (lim - 1) = true := (E.goods_iff _ _).1 hg.2
 clear hg
 have S : St M w0 w0 [] := ⟨L0a.refl _ _, by simp, by simp⟩
 have hlf := E.lf_def step e s
 refine a0a Tryz.func166 rfl Tryz.ntmps166 rfl ?_
 refine wX (fun D ε w => D = [] ∧ ∃ s1 : σ, (Inv s1 w) ∧ (s1 = if e.kids.length = 0 then step e s else s) ∧ St M w0 w [] ∧ ε 0 = .pointer (some ⟨b, o, none⟩) ∧ ε 1 = .func (.func f) #[] caps) ?_ ?_
 ·refine wO0 rfl ⟨⟩ (u0a T1a rfl (by first | exact S.oldM hbM c3) rfl ?_)
  refine lB0 rfl ⟨⟩ (fun h10 => ?_) fun h10 => ?_
  ·refine lO0 rfl ⟨⟩ (y1b hf rfl rfl rfl (hstep e s _ b o hsh (by omega) (hR.keep S.keepM) hI) ?_)
   rintro v13 w13 ⟨I13, B13⟩
   have S13 := S.more0 B13
   exact lP0 rfl ⟨⟩ ⟨rfl, _, I13, by rw [if_pos (by omega)], S13, rfl, rfl⟩
  exact lP0 rfl ⟨⟩ ⟨rfl, _, hI, by rw [if_neg (by omega)], S, rfl, rfl⟩
 rintro D ε w ⟨rfl, s1, hI1, hs1, S, e0, e1⟩
 refine s0a 0 e0 (s0a 1 e1 ?_)
 clear e0 e1
 rw [← hs1] at hlf
 refine wO0 rfl ⟨⟩ (u0a T1a rfl (by first | exact S.oldM hbM c3) rfl ?_)
 refine lC0 rfl ⟨⟩ (wL (fun μ D ε w => D = [] ∧ ∃ k : Nat, ∃ s2 : σ, (k + μ = e.kids.length) ∧ (Inv s2 w) ∧ (E.lfs step e.kids s1 = E.lfs step (e.kids.drop k) s2) ∧ St M w0 w [] ∧ ε 0 = .pointer (some ⟨b, o, none⟩) ∧ ε 1 = .func (.func f) #[] caps ∧ ε 18 = .int .i64 n ∧ ε 19 = .int .i64 k) (μ := e.kids.length) ⟨rfl, 0, s1, by omega, hI1, rfl, S, rfl, rfl, rfl, rfl⟩ ?_)
 rintro μ D ε w ⟨rfl, k, s2, _, hI2, hs2, S, e0, e1, e18, e19⟩
 refine s0a 0 e0 (s0a 1 e1 (s0a 18 e18 (s0a 19 e19 ?_)))
 clear e0 e1 e18 e19
 refine wB0 rfl ⟨⟩ (fun h20 => ?_) fun h20 => ?_
 ·refine lO0 rfl ⟨⟩ (u0a T1a rfl (by first | exact S.oldM hbM c3) rfl ?_)
  refine lO0 rfl ⟨⟩ ?_
  have hlt : k < e.kids.length := by omega
  obtain ⟨bk, ok, _, hbkM, hkk⟩ := hks (by omega)
  have hdr : e.kids.drop k = e.kids[k] :: e.kids.drop (k + 1) := List.drop_eq_getElem_cons hlt
  rw [hdr] at hs2
  simp only [E.lfs] at hs2
  refine A0a y1a.slT rfl (by assumption) rfl (by omega) (by omega) rfl ?_
  refine lO0 rfl ⟨⟩ (q3a T5b rfl rfl (ih _ (List.getElem_mem hlt) _ bk (ok + k * 4) s2 _ ((RdP.kid hbkM hkk k hlt).keep S.keepM) hI2 (hkg _ (List.getElem_mem hlt))) ?_)
  rintro v29 w29 ⟨I29, B29⟩
  have S29 := S.more0 B29
  exact lP0 rfl ⟨by omega,⟨⟩⟩ ⟨μ - 1, by omega, rfl, k + 1, _, by omega, I29, hs2, S29, rfl, rfl, rfl, rfl⟩
 refine lF0 rfl ⟨⟩ (S1a rfl ?_)
 obtain rfl : k = e.kids.length := by omega
 rw [List.drop_length] at hs2
 simp only [E.lfs] at hs2
 rw [hlf, hs2]
 exact ⟨hI2, S.below⟩
def c9c (M : List Nat) (gc gp gg : Nat) (vc : Value) (cells : List J1a) (pair : Bool) (s : Bool) (w : World) : Prop :=
 gc ∉ M ∧ gp ∉ M ∧ w.cell? ⟨gc, 0, none⟩ = some vc ∧ w.cell? ⟨gp, 0, none⟩ = some (.bool pair) ∧ t0a w (gg, 4, [.bool s]) ∧ q6c M w vc cells
theorem o9b (M : List Nat) (gc gp gg : Nat) (vc : Value) (cells : List J1a) (pair : Bool) (hgg : gg ∈ M) (e : E) (s : Bool) (w0 : World) (b o : Nat) (hsh : e.Shape) (hlf : e.kids.length = 0) (hR : RdP M w0 e b o) (hI : c9c M gc gp gg vc cells pair s w0) :
 R0a Tryz.prog 167 #[.pointer (some ⟨b, o, none⟩), .pointer (some ⟨gc, 0, none⟩), .pointer (some ⟨gp, 0, none⟩), .pointer (some ⟨gg, 0, none⟩)] w0 fun _ w' => c9c M gc gp gg vc cells pair (s && decide (e.OverN cells pair)) w' ∧ L0a M w0 w' := by
 obtain ⟨hgc, hgp, hcc, hcp, hblk, hC⟩ := hI
 obtain ⟨hbM, _, _, _, c0, c1, c2, _, n, _, _, _, _, hm, _, _, _⟩ := hR.open_
 obtain ⟨Ac, nc, cc, rfl, _, _, _, _, hcs⟩ := id hC
 have har := t7a hsh
 have har2 := D2a e.op
 have hov : (e.op = 3 ∨ e.op = 2) → 0 ≤ e.n ∧ e.n < 32 := fun h => by
  have := (b5a (by omega)).1 hsh; omega
 have S := St.borrow1 hblk
 have hsub : ∀ g ∈ [gg], g ∈ M := fun g hg => by simp at hg; subst hg; exact hgg
 have hb' : b ∉ [gg] := fun h => hbM (hsub b h)
 have hc' : gc ∉ [gg] := fun h => hgc (hsub gc h)
 have hp' : gp ∉ [gg] := fun h => hgp (hsub gp h)
 have fin : ∀ (z : Bool) (w' : World), St [gg] w0 w' [(some gg, 4, [.bool z])] → z = (s && decide (e.OverN cells pair)) → c9c M gc gp gg (.slice Ac nc cc) cells pair (s && decide (e.OverN cells pair)) w' ∧ L0a M w0 w' := by
  intro z w' S' hz
  subst hz
  exact ⟨⟨hgc, hgp, S'.oldM hc' hcc, S'.oldM hp' hcp, S'.blk 0 rfl, hC.keep (S'.keepM.mono hsub)⟩, S'.below.mono hsub⟩
 obtain ⟨pr, hpr⟩ : ∃ pr, pr = pair := ⟨_, rfl⟩
 have hcp2 := hcp
 rw [← hpr] at hcp2
 refine a0a Tryz.func167 rfl Tryz.ntmps167 rfl ?_
 refine wC0 rfl ⟨⟩ (x0a b0a [0, 1, 2, 3, 4, 5, 6, 7, 8, 9, 10, 11, 12, 13, 14, 15, 16, 17, 18, 19, 20, 21, 22, 23, 24, 25, 26, 27, 28, 29, 30, 31, 32, 33, 34, 35, 36, 37, 38, 39] [] [] (by kernel_rfl) rfl (Cl _ _ _ _) (Cl.start S) ?_)
 refine qO0 rfl ⟨⟩ (i0a G0a rfl (fun w1 hw => by exact hw.1.oldM hb' c0) rfl ?_)
 refine qB0 rfl ⟨⟩ (fun h9 => ?_) fun h9 => ?_
 ·refine qO0 rfl ⟨⟩ (i0a G0a rfl (fun w1 hw => by exact hw.1.oldM hb' c2) rfl ?_)
  refine qO0 rfl ⟨⟩ (i0a r7a rfl (fun w1 hw => by exact hw.1.oldM hc' hcc) rfl ?_)
  refine qB0 rfl ⟨⟩ (fun h17 => ?_) fun h17 => ?_
  ·refine qD rfl ⟨⟩ ?_
   rintro wR0 ⟨SR0, XR0⟩
   refine lO0 rfl ⟨⟩ ?_
   first | refine w0a (kk := 0) SR0 f0c rfl (by conv => lhs; whnf) rfl rfl (by exact Nat.le_of_ble_eq_true rfl) ?_
   intro w1_0 S1_0 X1_0
   refine lF0 rfl ⟨⟩ (S1a rfl ?_)
   refine fin _ _ S1_0 ?_; rw [decide_eq_false (show ¬ e.OverN cells pair from fun h => by have := h.2 (by omega); omega)]; simp; done
  refine qO0 rfl ⟨⟩ (i0a r7a rfl (fun w1 hw => by exact hw.1.oldM hc' hcc) rfl ?_)
  refine qO0 rfl ⟨⟩ (i0a G0a rfl (fun w1 hw => by exact hw.1.oldM hb' c2) rfl ?_)
  refine qO0 rfl ⟨⟩ ?_
  obtain ⟨bc, oc, _, hbc, hce⟩ := hcs (by omega)
  obtain ⟨m, hm⟩ := Int.eq_ofNat_of_zero_le (show 0 ≤ e.n by omega)
  have hml : m < cells.length := by omega
  have hbc' : bc ∉ [gg] := fun h => hbc (hsub bc h)
  obtain ⟨_, _, hcw', hrc⟩ := hce m cells[m] (List.getElem?_eq_getElem hml)
  have hcw : w0.cell? ⟨bc, oc + e.n.toNat * 6 + 1, none⟩ = some (.int .i64 (wAt cells e.n)) := by
   rw [hm]; have := hcw' 1 (.int .i64 cells[m].w) (by rw [hrc.1]; rfl)
   simpa [wAt, hml] using this
  refine j0a h5a.slT rfl (by assumption) rfl (by omega) (by omega) rfl ?_
  refine qO0 rfl ⟨⟩ (i0a G0a rfl (fun w1 hw => by exact hw.1.oldM hbc' hcw) rfl ?_)
  refine qO0 rfl ⟨⟩ (i0a G0a rfl (fun w1 hw => by exact hw.1.oldM hb' c1) rfl ?_)
  refine qB0 rfl ⟨⟩ (fun h31 => ?_) fun h31 => ?_
  ·refine qD rfl ⟨⟩ ?_
   rintro wR0 ⟨SR0, XR0⟩
   refine lO0 rfl ⟨⟩ ?_
   first | refine w0a (kk := 0) SR0 f0c rfl (by conv => lhs; whnf) rfl rfl (by exact Nat.le_of_ble_eq_true rfl) ?_
   intro w1_0 S1_0 X1_0
   refine lF0 rfl ⟨⟩ (S1a rfl ?_)
   refine fin _ _ S1_0 ?_; rw [decide_eq_false (show ¬ e.OverN cells pair from fun h => by have := h.2 (by omega); omega)]; simp; done
  refine qO0 rfl ⟨⟩ (i0a G0a rfl (fun w1 hw => by exact hw.1.oldM hb' c0) rfl ?_)
  refine qB0 rfl ⟨⟩ (fun h38 => ?_) fun h38 => ?_
  ·refine qO0 rfl ⟨⟩ ?_
   rcases (Bool.eq_false_or_eq_true (pr)).symm with hb40 | hb40
   ·refine i0a v2a rfl (fun w1 hw => by exact (hw.1.oldM hp' (hcp2.trans (by rw [hb40]))).trans (congrArg (fun b => some (Value.bool b)) hb40)) rfl ?_
    refine qD rfl ⟨⟩ ?_
    rintro wR0 ⟨SR0, XR0⟩
    refine lO0 rfl ⟨⟩ ?_
    first | refine w0a (kk := 0) SR0 f0c rfl (by conv => lhs; whnf) rfl rfl (by exact Nat.le_of_ble_eq_true rfl) ?_
    intro w1_0 S1_0 X1_0
    refine lF0 rfl ⟨⟩ (S1a rfl ?_)
    refine fin _ _ S1_0 ?_; rw [decide_eq_false (show ¬ e.OverN cells pair from fun h => by have := h.1 (by omega); rw [← hpr, hb40] at this; cases this)]; simp; done
   refine i0a v2a rfl (fun w1 hw => by exact (hw.1.oldM hp' (hcp2.trans (by rw [hb40]))).trans (congrArg (fun b => some (Value.bool b)) hb40)) rfl ?_
   refine qD rfl ⟨⟩ ?_
   rintro wR0 ⟨SR0, XR0⟩
   refine lF0 rfl ⟨⟩ (S1a rfl ?_)
   refine fin _ _ SR0 ?_; rw [decide_eq_true (show e.OverN cells pair from ⟨fun h => by rw [← hpr, hb40], fun h => by omega⟩)]; simp; done
  refine qD rfl ⟨⟩ ?_
  rintro wR0 ⟨SR0, XR0⟩
  refine lF0 rfl ⟨⟩ (S1a rfl ?_)
  refine fin _ _ SR0 ?_; rw [decide_eq_true (show e.OverN cells pair from ⟨fun h => absurd h (by omega), fun h => by omega⟩)]; simp; done
 refine qD rfl ⟨⟩ ?_
 rintro wR0 ⟨SR0, XR0⟩
 refine lF0 rfl ⟨⟩ (S1a rfl ?_)
 refine fin _ _ SR0 ?_; rw [decide_eq_true (show e.OverN cells pair from ⟨fun h => absurd h (by omega), fun h => by omega⟩)]; simp; done
theorem O6c (cells : List J1a) (pair : Bool) : ∀ (e : E) (s : Bool) (lim : Int), e.good lim = true → e.lf (fun e s => s && decide (e.OverN cells pair)) s = (s && e.over cells pair) := by
 intro e
 induction e using E.induct with
 | _ e ih =>
   intro s lim hg
   rw [E.good_def] at hg
   simp only [Bool.and_eq_true] at hg
   have hsh : e.Shape := of_decide_eq_true hg.1.2
   have hkg : ∀ k ∈ e.kids, k.good (lim - 1) = true := (E.goods_iff _ _).1 hg.2
   have har := t7a hsh
   have har2 := D2a e.op
   have key : ∀ (ks : List E), (∀ k ∈ ks, ∀ (s : Bool) (lim : Int), k.good lim = true → k.lf (fun e s => s && decide (e.OverN cells pair)) s = (s && k.over cells pair)) → (∀ k ∈ ks, k.good (lim - 1) = true) →
    ∀ s : Bool, E.lfs (fun e s => s && decide (e.OverN cells pair)) ks s = (s && E.overs cells pair ks) := by
    intro ks
    induction ks with
    | nil => intro _ _ s; simp [E.lfs, E.overs]
    | cons k ks ih2 =>
      intro h1 h2 s
      simp only [E.lfs, E.overs]
      rw [ih2 (fun k' hk' => h1 k' (by simp [hk'])) (fun k' hk' => h2 k' (by simp [hk'])), h1 k (by simp) _ (lim - 1) (h2 k (by simp)), Bool.and_assoc]
   rw [E.lf_def, key e.kids ih hkg, E.over_def]
   by_cases h0 : e.kids.length = 0
   ·rw [if_pos h0, Bool.and_assoc]
   ·rw [if_neg h0, decide_eq_true (show e.OverN cells pair by unfold E.OverN; omega)]; simp
theorem x3a (e : E) (M : List Nat) (w0 : World) (cs : List Value) (vc : Value) (cells : List J1a) (pair : Bool) (hR : RdE M w0 e cs) (hC : q6c M w0 vc cells) (hK : c3a M w0) :
 R0a Tryz.prog 132 #[.agg cs.toArray, vc, .bool pair] w0 fun v w' => v = .bool (e.valid cells pair) ∧ Below w0.heap.size w0 w' := by
 obtain ⟨_, _, _, rfl, _, _, _, _, _, _, _, _⟩ := hR.open_
 obtain ⟨Ac, nc, cc, rfl⟩ := hC.form
 have S := St.refl w0
 refine a0a Tryz.func132 rfl Tryz.ntmps132 rfl ?_
 refine wO0 rfl ⟨⟩ (m0a S (by conv => lhs; whnf) rfl ?_)
 intro g3 w3 S3 X3 G3
 refine h9a S3 (v := .slice _ _ _) rfl rfl rfl ?_
 intro g4 w4 S4 X4 G4
 refine h9a S4 (v := .bool _) rfl rfl rfl ?_
 intro g5 w5 S5 X5 G5
 refine lO S5.k [.w 2] rfl ⟨⟨rfl,by rfl⟩,⟨⟩⟩ (r0a S5 h9b rfl rfl (a5a e M _ _ (RdE.keep (S5.keep0 M) _ _ hR) (hK.keep (S5.keep0 M))) (fun h9 w9 S9 X9 => ?_) (fun h9 w9 S9 X9 => ?_))
 ·refine lO0 rfl ⟨⟩ (k0a S9 e0d rfl rfl ?_)
  intro g7 w7 S7 X7 G7
  refine w0a (kk := 0) S7 f0c rfl (by conv => lhs; whnf) rfl rfl (by exact Nat.le_of_ble_eq_true rfl) ?_
  intro w3_1 S3_1 X3_1
  refine lO0 rfl ⟨⟩ (f2a rfl rfl ?_)
  have hM' : ∀ g ∈ [g7] , g ∈ M ∨ w0.heap.size ≤ g := fun g hg => by
   simp at hg; subst hg; right; have := S3_1.new 0 rfl; simp at this; exact this
  have hgood : e.good 40 = true := by unfold E.wf at h9; simp only [Bool.and_eq_true] at h9; exact h9.2
  refine q3a T5b rfl rfl (J3b [g7] (c9c [g7] g4 g5 g7 (.slice Ac nc cc) cells pair) (fun e s => s && decide (e.OverN cells pair)) _ _ d5c (fun e s w b o h1 h2 h3 h4 => o9b [g7] g4 g5 g7 _ cells pair (by simp) e s w b o h1 h2 h3 h4) e _ g3 0 true 40
   ⟨by simpa using (S3_1.ne 0 3 rfl rfl (by omega)).symm, _, S3_1.cells 3 rfl, RdE.keep (S3_1.keep0 _) _ _ (RdE.more hM' _ _ hR)⟩
   ⟨by simpa using (S3_1.ne 0 2 rfl rfl (by omega)).symm, by simpa using (S3_1.ne 0 1 rfl rfl (by omega)).symm, S3_1.cell 2 rfl rfl, S3_1.cell 1 rfl rfl, S3_1.blk 0 rfl, (hC.more (by omega) hM').keep (S3_1.keep0 _)⟩ hgood) ?_
  rintro v12 w12 ⟨⟨-, -, -, -, I12, -⟩, B12⟩
  have S12 := S3_1.changed1 0 rfl B12 I12
  rw [O6c cells pair e true 40 hgood] at S12
  dsimp only [List.set] at S12
  refine lR S12.k [.o 0] rfl ⟨rfl,⟨⟩⟩ (o0a rfl (by conv => lhs; whnf) ?_)
  refine ⟨congrArg Value.bool ?_, S12.fin⟩
  unfold E.valid
  simp [h9]
 refine lT rfl ⟨⟩ rfl ⟨congrArg Value.bool ?_, S9.fin⟩
 unfold E.valid
 simp [h9]
end Go.Proofs.YtjjmdcnmeommbaaGreatDoor
namespace Go.Proofs.YtjjmdcnmeommbaaGreatDoor
open Go.Fw Go.RowKit
theorem T9b {M : List Nat} {w : World} : RdI M w (.slice none 0 0) [] := ⟨none, 0, 0, rfl, rfl, Nat.le_refl _, by unfold maxLen; omega, by omega, fun h => absurd h (by omega)⟩
def Z6c (g1 g2 : Nat) (s : List Bool × List Bool) (w : World) : Prop :=
 s.1.length = 32 ∧ s.2.length = 32 ∧ t0a w (g1, 235, s.1.map Value.bool) ∧ t0a w (g2, 235, s.2.map Value.bool)
def R5a (e : E) (s : List Bool × List Bool) : List Bool × List Bool := (if e.op = 3 then s.1.set e.n.toNat true else s.1, if e.op = 2 then s.2.set e.n.toNat true else s.2)
theorem r5b (g1 g2 : Nat) (hne : g1 ≠ g2) (e : E) (s : List Bool × List Bool) (w0 : World) (b o : Nat) (hsh : e.Shape) (hR : RdP [g1, g2] w0 e b o) (hI : Z6c g1 g2 s w0) :
 R0a Tryz.prog 202 #[.pointer (some ⟨b, o, none⟩), .pointer (some ⟨g1, 0, none⟩), .pointer (some ⟨g2, 0, none⟩)] w0 fun _ w' => Z6c g1 g2 (R5a e s) w' ∧ L0a [g1, g2] w0 w' := by
 obtain ⟨l1, l2, hb1, hb2⟩ := hI
 obtain ⟨_, _⟩ := s
 dsimp only at l1 l2 hb1 hb2
 obtain ⟨hbM, _, _, _, c0, _, c2, _, n, _, _, _, _, _, _, _, _⟩ := hR.open_
 have hov : (e.op = 3 ∨ e.op = 2) → 0 ≤ e.n ∧ e.n < 32 := fun h => by
  have := (b5a (by omega)).1 hsh; omega
 have S := St.borrow2 hb1 hb2 hne
 refine a0a Tryz.func202 rfl Tryz.ntmps202 rfl ?_
 refine wO0 rfl ⟨⟩ (u0a G0a rfl (by exact S.oldM hbM c0) rfl ?_)
 refine lB0 rfl ⟨⟩ (fun h9 => ?_) fun h9 => ?_
 ·refine lO0 rfl ⟨⟩ (u0a G0a rfl (by exact S.oldM hbM c2) rfl ?_)
  refine S5a v2b rfl rfl (by omega) (by omega) rfl ?_
  refine w0a (kk := 0) S f0c rfl (by conv => lhs; whnf) rfl rfl (by (simp; omega)) ?_
  intro w2_5 S2_5 X2_5
  refine lF0 rfl ⟨⟩ (S1a rfl ?_)
  refine ⟨?_, S2_5.below⟩
  unfold Z6c R5a
  refine ⟨by dsimp only; split <;> simp [l1], by dsimp only; split <;> simp [l2], ?_, ?_⟩
  ·have hh := S2_5.blk 0 rfl
   simpa [h9, List.map_set] using hh; done
  ·have hh := S2_5.blk 1 rfl
   simpa [h9, List.map_set] using hh; done
 refine lB0 rfl ⟨⟩ (fun h16 => ?_) fun h16 => ?_
 ·refine lO0 rfl ⟨⟩ (u0a G0a rfl (by exact S.oldM hbM c2) rfl ?_)
  refine S5a v2b rfl rfl (by omega) (by omega) rfl ?_
  refine w0a (kk := 1) S f0c rfl (by conv => lhs; whnf) rfl rfl (by (simp; omega)) ?_
  intro w4_5 S4_5 X4_5
  refine lF0 rfl ⟨⟩ (S1a rfl ?_)
  refine ⟨?_, S4_5.below⟩
  unfold Z6c R5a
  refine ⟨by dsimp only; split <;> simp [l1], by dsimp only; split <;> simp [l2], ?_, ?_⟩
  ·have hh := S4_5.blk 0 rfl
   simpa [h9, List.map_set] using hh; done
  ·have hh := S4_5.blk 1 rfl
   simpa [h9, h16, List.map_set] using hh; done
 refine lF0 rfl ⟨⟩ (S1a rfl ?_)
 refine ⟨?_, S.below⟩
 unfold Z6c R5a
 refine ⟨by dsimp only; split <;> simp [l1], by dsimp only; split <;> simp [l2], ?_, ?_⟩
 ·have hh := S.blk 0 rfl
  simpa [h9, List.map_set] using hh; done
 ·have hh := S.blk 1 rfl
  simpa [h9, h16, List.map_set] using hh; done
theorem P0b (M : List Nat) (w0 : World) (bs : List Bool) (hlen : bs.length = 32) (hM : ∀ g ∈ M, g < w0.heap.size) :
 R0a Tryz.prog 203 #[.agg (bs.map Value.bool).toArray] w0 fun v' w' => RdI M w' v' (V4a bs) ∧ Below w0.heap.size w0 w' := by
 have S := (St.refl w0).nilEnt 3
 have hlm : (bs.map Value.bool).length = 32 := by simpa using hlen
 refine a0a Tryz.func203 rfl Tryz.ntmps203 rfl ?_
 refine wO0 rfl ⟨⟩ (m0a S (by conv => lhs; whnf) rfl ?_)
 intro g1 w1 S1 X1 G1
 refine lC S1.k [.w 0] rfl ⟨⟨rfl,by assumption⟩,⟨⟩⟩ (wL (fun μ D ε w => D = [] ∧ ∃ k : Nat, ∃ G : Option Nat, ∃ cs : List Value, ∃ v : Value, (k + μ = 32) ∧ (G3a G 1 (H2a bs k).length cs v ((H2a bs k).map (Value.int .i64))) ∧ St [] w0 w [(G, 3, cs)] ∧ ε 3 = v ∧ ε 6 = .agg (bs.map Value.bool).toArray ∧ ε 7 = .int .i64 k) (μ := 32) ⟨rfl, 0, none, [], _, by omega, G3a.nil 1, S1.tail, rfl, rfl, rfl⟩ ?_)
 rintro μ D ε w ⟨rfl, k, G, cs, v, _, hrow, S, e3, e6, e7⟩
 refine s0a 3 e3 (s0a 6 e6 (s0a 7 e7 ?_))
 clear e3 e6 e7
 refine wB0 rfl ⟨⟩ (fun h8 => ?_) fun h8 => ?_
 ·refine lO0 rfl ⟨⟩ ?_
  have hlt : k < bs.length := by omega
  have hel : ((bs.map Value.bool).toArray)[((k : Nat) : Int).toNat]? = some (.bool bs[k]) := by simp [hlt]
  have hgd : bs.getD k false = bs[k] := by simp [hlt]
  have hml := F2a bs k
  cases hb10 : bs[k]
  ·have hlt : k < bs.length := by omega
   have hel : ((bs.map Value.bool).toArray)[((k : Nat) : Int).toNat]? = some (.bool bs[k]) := by simp [hlt]
   have hgd : bs.getD k false = bs[k] := by simp [hlt]
   have hml := F2a bs k
   refine e5b v2b rfl rfl (by omega) (by omega) (hel.trans (by rw [hb10])) rfl ?_
   refine lP0 rfl ⟨by omega,⟨⟩⟩ ⟨μ - 1, by omega, rfl, k + 1, G, cs, v, by omega, ?_, S, rfl, rfl, rfl⟩
   rw [U3a, hgd, hb10]; simpa using hrow
  have hlt : k < bs.length := by omega
  have hel : ((bs.map Value.bool).toArray)[((k : Nat) : Int).toNat]? = some (.bool bs[k]) := by simp [hlt]
  have hgd : bs.getD k false = bs[k] := by simp [hlt]
  have hml := F2a bs k
  refine e5b v2b rfl rfl (by omega) (by omega) (hel.trans (by rw [hb10])) rfl ?_
  refine lOn 11 S.k [] rfl ⟨⟩ (u1a (by conv => lhs; whnf) rfl ?_)
  refine lO0 rfl ⟨⟩ (y0a S W0a (vs := [.int .i64 _]) (cs := [_]) (by rfl) rfl rfl rfl rfl rfl rfl ?_)
  intro g14 w14 S14 X14 G14
  refine a2b (k := 1) S14 W0a rfl hrow rfl rfl (S14.cells 0 rfl) rfl (by simp [Value.oneCell']) (by omega) (by omega) rfl ?_
  intro v15 G15 cs15 w15 S15' hrow15 X15
  have S15 := S15'.tail
  refine X0a (by conv => lhs; whnf) rfl ?_
  refine lP0 rfl ⟨by omega,⟨⟩⟩ ⟨μ - 1, by omega, rfl, k + 1, G15, cs15, v15, by omega, ?_, S15, rfl, rfl, rfl⟩
  rw [U3a, hgd, hb10]; simpa using hrow15
 refine lOn 8 S.k [] rfl ⟨⟩ (u1a (by conv => lhs; whnf) rfl ?_)
 refine X0a (by conv => lhs; whnf) rfl ?_
 refine lR0 rfl ⟨⟩ (o0a rfl (by conv => lhs; whnf) ?_)
 obtain rfl : k = 32 := by omega
 have hmm : H2a bs 32 = V4a bs := by unfold V4a; rw [hlen]
 rw [hmm] at hrow
 refine ⟨hrow.rdI (k := 0) S rfl hM (fun x hx => ?_) ?_, S.nil.fin⟩
 ·obtain ⟨_, rfl, _, _⟩ := (Q5a _ _ _).1 hx; unfold i64; omega
 ·have := F2a bs bs.length; unfold V4a; omega
theorem F7c : ∀ (e : E) (a1 a2 : List Bool) (lim : Int), e.good lim = true → e.lf R5a (a1, a2) = (e.mark 3 a1, e.mark 2 a2) := by
 intro e
 induction e using E.induct with
 | _ e ih =>
   intro a1 a2 lim hg
   rw [E.good_def] at hg
   simp only [Bool.and_eq_true] at hg
   have hsh : e.Shape := of_decide_eq_true hg.1.2
   have hkg : ∀ k ∈ e.kids, k.good (lim - 1) = true := (E.goods_iff _ _).1 hg.2
   have har := t7a hsh
   have har2 := D2a e.op
   have key : ∀ (ks : List E), (∀ k ∈ ks, ∀ (a1 a2 : List Bool) (lim : Int), k.good lim = true → k.lf R5a (a1, a2) = (k.mark 3 a1, k.mark 2 a2)) → (∀ k ∈ ks, k.good (lim - 1) = true) →
    ∀ a1 a2 : List Bool, E.lfs R5a ks (a1, a2) = (E.markAll 3 ks a1, E.markAll 2 ks a2) := by
    intro ks
    induction ks with
    | nil => intro _ _ a1 a2; simp [E.lfs, E.markAll]
    | cons k ks ih2 =>
      intro h1 h2 a1 a2
      simp only [E.lfs, E.markAll]
      rw [h1 k (by simp) _ _ (lim - 1) (h2 k (by simp)), ih2 (fun k' hk' => h1 k' (by simp [hk'])) (fun k' hk' => h2 k' (by simp [hk']))]
   rw [E.lf_def, E.mark_def, E.mark_def]
   by_cases h0 : e.kids.length = 0
   ·rw [if_pos h0]; exact key e.kids ih hkg _ _
   ·rw [if_neg h0, if_neg (by omega), if_neg (by omega)]; exact key e.kids ih hkg _ _
theorem T2b (e : E) (M : List Nat) (w0 : World) (cs : List Value) (hR : RdE M w0 e cs) (hK : c3a M w0) (hM : ∀ g ∈ M, g < w0.heap.size) :
 R0a Tryz.prog 168 #[.agg cs.toArray] w0 fun v w' => (∃ a b, v = .tuple #[a, b] ∧ RdI M w' a (e.sup 3) ∧ RdI M w' b (e.sup 2)) ∧ Below w0.heap.size w0 w' := by
 obtain ⟨_, _, _, rfl, _, _, _, _, _, _, _, _⟩ := hR.open_
 have S := St.refl w0
 refine a0a Tryz.func168 rfl Tryz.ntmps168 rfl ?_
 refine wO0 rfl ⟨⟩ (m0a S (by conv => lhs; whnf) rfl ?_)
 intro g1 w1 S1 X1 G1
 refine lO S1.k [.w 0] rfl ⟨⟨rfl,by rfl⟩,⟨⟩⟩ (r0a S1 h9b rfl rfl (a5a e M _ _ (RdE.keep (S1.keep0 M) _ _ hR) (hK.keep (S1.keep0 M))) (fun h7 w7 S7 X7 => ?_) (fun h7 w7 S7 X7 => ?_))
 ·refine lO0 rfl ⟨⟩ (k0a S7 f3c rfl rfl ?_)
  intro g4 w4 S4 X4 G4
  refine k0a S4 f3c rfl rfl ?_
  intro g5 w5 S5 X5 G5
  refine lO0 rfl ⟨⟩ (f2a rfl rfl ?_)
  have hM' : ∀ g ∈ [g4, g5] , g ∈ M ∨ w0.heap.size ≤ g := fun g hg => by
   simp at hg; rcases hg with rfl | rfl
   ·right; have := S5.new 1 rfl; simp at this; exact this
   ·right; have := S5.new 0 rfl; simp at this; exact this
  have hgood : e.good 40 = true := by unfold E.wf at h7; simp only [Bool.and_eq_true] at h7; exact h7.2
  have hne := (S5.ne 0 1 rfl rfl (by omega)).symm
  refine q3a T5b rfl rfl (J3b [g4, g5] (Z6c g4 g5) R5a _ _ v5c (fun e s w b o h1 _ h3 h4 => r5b g4 g5 hne e s w b o h1 h3 h4) e _ g1 0 (List.replicate 32 false, List.replicate 32 false) 40
   ⟨by simpa using ⟨(S5.ne 1 2 rfl rfl (by omega)).symm, (S5.ne 0 2 rfl rfl (by omega)).symm⟩, _, S5.cells 2 rfl, RdE.keep (S5.keep0 _) _ _ (RdE.more hM' _ _ hR)⟩
   ⟨rfl, rfl, S5.blk 1 rfl, S5.blk 0 rfl⟩ hgood) ?_
  rintro v10 w10 ⟨⟨-, -, I1, I2⟩, B10⟩
  rw [F7c e _ _ 40 hgood] at I1 I2
  dsimp only at I1 I2
  have S10 := S5.changed2 1 0 rfl rfl B10 I1 I2
  dsimp only [List.set] at S10
  have q1 : (e.mark 3 (List.replicate 32 false)).length = 32 := by rw [E.mark_len]; simp
  have q2 : (e.mark 2 (List.replicate 32 false)).length = 32 := by rw [E.mark_len]; simp
  have q1' : ((e.mark 3 (List.replicate 32 false)).map Value.bool).length = 32 := by simpa using q1
  have q2' : ((e.mark 2 (List.replicate 32 false)).map Value.bool).length = 32 := by simpa using q2
  refine lC0 rfl ⟨⟩ (x0a b0a [0, 2] [1] [3, 4, 5] (by kernel_rfl) rfl (Cl _ _ _ _) (Cl.start S10) ?_)
  refine qN S10.q [.w 1,.w 0] rfl ⟨⟨rfl,by assumption⟩,⟨rfl,by assumption⟩,⟨⟩⟩ (j4a ?_)
  refine s6b (fun v w => RdI M w v (V4a (e.mark 3 (List.replicate 32 false)))) rfl rfl D8b rfl (fun v w w' h hk => h.keep hk.of_nil) (fun w1 S1 X1 => P0b M _ _ q1 (fun g hg => Nat.lt_of_lt_of_le (hM g hg) S1.size)) ?_
  refine O1a ?_
  rintro wR5 ⟨SR5, _⟩
  rintro v12 r12
  dsimp only [I3a]
  refine F0a SR5 D8b rfl rfl (P0b M _ _ q2 (fun g hg => Nat.lt_of_lt_of_le (hM g hg) SR5.size)) ?_
  rintro v14 w14 r14 S14 X14
  replace r12 := r12.keep (X14.of_nil)
  refine X0a (by conv => lhs; whnf) rfl ?_
  refine X0a (by conv => lhs; whnf) rfl ?_
  refine lR0 rfl ⟨⟩ (N2a rfl (by conv => lhs; whnf) (by conv => lhs; whnf) ?_)
  refine ⟨⟨_, _, rfl, ?_⟩, S14.fin⟩
  unfold E.sup
  rw [if_pos h7, if_pos h7]; exact ⟨r12, r14⟩
 refine lR0 rfl ⟨⟩ (N2a rfl (by conv => lhs; whnf) (by conv => lhs; whnf) ?_)
 refine ⟨⟨_, _, rfl, ?_⟩, S7.fin⟩
 unfold E.sup
 rw [if_neg (by simp [h7]), if_neg (by simp [h7])]; exact ⟨T9b, T9b⟩
end Go.Proofs.YtjjmdcnmeommbaaGreatDoor
namespace Go.Fw
open Go.RowKit
theorem C0a.fresh {a b c : World} {g : Nat} (h : C0a [] a b) (k : C0a [g] b c) (hg : a.heap.size ≤ g) : C0a [] a c :=
 ⟨Nat.le_trans h.size k.size, fun i hi hm => (k.same i (Nat.lt_of_lt_of_le hi h.size) (fun hh => by rw [List.mem_singleton] at hh; omega)).trans (h.same i hi hm)⟩
def shQ (p : d0a) (c : Int) : Bool := decide ((0 ≤ c ∧ c < p.cells.length) ∧ k1a p.cells c = -1)
def R8a (p : d0a) (t : Int) (c : Int) : Bool := decide ((0 ≤ c ∧ c < p.cells.length) ∧ k1a p.cells c = t)
def y2b (p : d0a) (t : Int) (c : Int) : Bool := shQ p c || R8a p t c
def Z2a (e : E) (q : Int → Bool) : Bool := (e.sup 3).all q && (e.sup 2).all q
theorem r9a {cells : List J1a} {pair : Bool} {e : E} (h : e.valid cells pair = true) : ∀ x ∈ e.sup 3 ++ e.sup 2, 0 ≤ x ∧ x < cells.length := fun x hx => by
 obtain ⟨hwf, hgd, hov⟩ := Y4a h
 rcases List.mem_append.1 hx with hx | hx
 ·have h1 := (A2b hwf (.inr rfl) x).1 hx
  have h2 := t5a (.inr rfl) e 40 hgd hov x h1.2.2
  omega
 ·have h1 := (A2b hwf (.inl rfl) x).1 hx
  have h2 := t5a (.inl rfl) e 40 hgd hov x h1.2.2
  omega
theorem i8a {e : E} {q : Int → Bool} : Z2a e q = true ↔ ∀ x ∈ e.sup 3 ++ e.sup 2, q x = true := by
 simp only [Z2a, Bool.and_eq_true, List.all_eq_true, List.mem_append]
 exact ⟨fun h x hx => hx.elim (h.1 x) (h.2 x), fun h => ⟨fun x hx => h x (.inl hx), fun x hx => h x (.inr hx)⟩⟩
theorem T0a.thr {p : d0a} (hp : T0a p) {x : Int} (h0 : 0 ≤ x) (h1 : x < p.cells.length) : -1 ≤ k1a p.cells x := by
 obtain ⟨i, rfl⟩ := Int.eq_ofNat_of_zero_le h0
 have hi : i < p.cells.length := by omega
 have := (hp.cells _ (List.getElem_mem hi)).thread
 rw [f1a (c := p.cells[i]) (by simp [hi])]
 omega
theorem b6b {p : d0a} (hp : T0a p) {e : E} {pair : Bool} (hv : e.valid p.cells pair = true) (h : p5a p.cells e true (-1)) : Z2a e (shQ p) = true := i8a.2 fun x hx => by
 have h1 := r9a hv x hx
 have h2 := h x hx
 have h3 := hp.thr h1.1 h1.2
 exact decide_eq_true ⟨h1, by omega⟩
theorem E7a {p : d0a} (hp : T0a p) {e : E} {pair : Bool} {t : Int} (hv : e.valid p.cells pair = true) (h : p5a p.cells e false t) : Z2a e (R8a p t) = true := i8a.2 fun x hx => by
 have h1 := r9a hv x hx
 have h2 := h x hx
 have h3 := hp.thr h1.1 h1.2
 have h4 : k1a p.cells x ≠ -1 := fun hh => by have := h2.1 hh; cases this
 exact decide_eq_true ⟨h1, by omega⟩
theorem X1b {p : d0a} (hp : T0a p) {e : E} {pair : Bool} {t : Int} (hv : e.valid p.cells pair = true) (h : p5a p.cells e true t) : Z2a e (y2b p t) = true := i8a.2 fun x hx => by
 have h1 := r9a hv x hx
 have h2 := h x hx
 have h3 := hp.thr h1.1 h1.2
 unfold y2b shQ R8a
 rw [Bool.or_eq_true, decide_eq_true_eq, decide_eq_true_eq]
 by_cases h5 : k1a p.cells x = -1
 ·exact .inl ⟨h1, h5⟩
 ·exact .inr ⟨h1, by omega⟩
end Go.Fw
namespace Go.Proofs.YtjjmdcnmeommbaaGreatDoor
open Go.Fw Go.RowKit
theorem i2a (i n : Int) (w0 : World) : R0a Tryz.prog 121 #[.int .i64 i, .int .i64 n] w0 fun v w' => v = .bool (decide (0 ≤ i ∧ i < n)) ∧ Below w0.heap.size w0 w' := by
 have S := St.refl w0
 refine a0a Tryz.func121 rfl Tryz.ntmps121 rfl ?_
 refine wB0 rfl ⟨⟩ (fun h6 => ?_) fun h6 => ?_
 ·refine lB0 rfl ⟨⟩ (fun h10 => ?_) fun h10 => ?_
  ·refine lT rfl ⟨⟩ rfl ?_
   exact ⟨congrArg Value.bool (by (rw [decide_eq_true]; omega)), S.fin⟩
  refine lT rfl ⟨⟩ rfl ?_
  exact ⟨congrArg Value.bool (by (rw [decide_eq_false]; omega)), S.fin⟩
 refine lT rfl ⟨⟩ rfl ?_
 exact ⟨congrArg Value.bool (by (rw [decide_eq_false]; omega)), S.fin⟩
theorem p7a (s : ByteArray) (w0 : World) (hs : z6a s) : R0a Tryz.prog 120 #[.string s] w0 fun v w' => v = .bool true ∧ Below w0.heap.size w0 w' := by
 have S := St.refl w0
 have h1 := hs.1
 have h2 := hs.2.1
 refine a0a Tryz.func120 rfl Tryz.ntmps120 rfl ?_
 refine wO0 rfl ⟨⟩ (i1b Tryz.underlying9 rfl rfl ?_)
 refine lB0 rfl ⟨⟩ (fun h6 => by exfalso; omega) fun h6 => ?_
 refine lO0 rfl ⟨⟩ (i1b Tryz.underlying9 rfl rfl ?_)
 refine lB0 rfl ⟨⟩ (fun h10 => by exfalso; omega) fun h10 => ?_
 refine lO0 rfl ⟨⟩ (i1b Tryz.underlying9 rfl rfl ?_)
 refine lC0 rfl ⟨⟩ (wL (fun μk D ε w => D = [] ∧ ∃ k : Nat, (k + μk = (s.size)) ∧ St [] w0 w [] ∧ Sl ε [(0, .string s), (13, .int .i64 s.size), (14, .int .i64 k)]) (μ := (s.size)) ⟨rfl, 0, by omega, S, rfl⟩ ?_)
 rintro μk D ε w ⟨rfl, k, _, S, eZ⟩
 refine wK eZ (wB0 rfl ⟨⟩ (fun h15 => ?_) fun h15 => ?_)
 ·refine lO0 rfl ⟨⟩ ?_
  have h3 := hs.2.2 k (by omega)
  refine Y8a Tryz.underlying9 rfl rfl (by omega) (by omega) rfl ?_
  refine lB0 rfl ⟨⟩ (fun h20 => by exfalso; simp only [Int.toNat_natCast] at h20; omega) (fun h20 => ?_)
  refine lO0 rfl ⟨⟩ (Y8a Tryz.underlying9 rfl rfl (by omega) (by omega) rfl ?_)
  refine lB0 rfl ⟨⟩ (fun h25 => by exfalso; simp only [Int.toNat_natCast] at h25; omega) (fun h25 => ?_)
  refine lP0 rfl ⟨by omega,⟨⟩⟩ ⟨μk - 1, by omega, rfl, (k + 1), (by omega), S, rfl⟩
 exact lT rfl ⟨⟩ rfl ⟨rfl, S.fin⟩
theorem E7b (e : E) (M : List Nat) (w0 : World) (cs : List Value) (hR : RdE M w0 e cs) : R0a Tryz.prog 123 #[.agg cs.toArray] w0 fun v w' => v = .bool (dec e.absent) ∧ Below w0.heap.size w0 w' := by
 obtain ⟨_, _, _, rfl, hn, _, _, _, _⟩ := hR.cells
 have S := St.refl w0
 refine a0a Tryz.func123 rfl Tryz.ntmps123 rfl ?_
 refine wO0 rfl ⟨⟩ (m0a S (by conv => lhs; whnf) rfl ?_)
 intro g1 w1 S1 X1 G1
 refine lB S1.k [.o 0] rfl ⟨rfl,⟨⟩⟩ (fun h5 => ?_) fun h5 => ?_
 ·refine lB S1.k [.o 0] rfl ⟨rfl,⟨⟩⟩ (fun h9 => ?_) fun h9 => ?_
  ·refine lB S1.k [.o 0] rfl ⟨rfl,⟨⟩⟩ (fun h14 => ?_) fun h14 => ?_
   ·refine lB S1.k [.o 0] rfl ⟨rfl,⟨⟩⟩ (fun h20 => ?_) fun h20 => ?_
    ·refine lR0 rfl ⟨⟩ (o0a rfl (by conv => lhs; whnf) ?_)
     exact ⟨b0b ⟨by omega, by omega, by omega, List.length_eq_zero_iff.1 (by omega)⟩, S1.fin⟩
    refine lR0 rfl ⟨⟩ (o0a rfl (by conv => lhs; whnf) ?_)
    refine ⟨u2a (fun h => ?_), S1.fin⟩; obtain ⟨a1, a2, a3, a4⟩ := h; rw [a4] at hn; simp at hn; omega
   refine lR0 rfl ⟨⟩ (o0a rfl (by conv => lhs; whnf) ?_)
   refine ⟨u2a (fun h => ?_), S1.fin⟩; obtain ⟨a1, a2, a3, a4⟩ := h; rw [a4] at hn; simp at hn; omega
  refine lR0 rfl ⟨⟩ (o0a rfl (by conv => lhs; whnf) ?_)
  refine ⟨u2a (fun h => ?_), S1.fin⟩; obtain ⟨a1, a2, a3, a4⟩ := h; rw [a4] at hn; simp at hn; omega
 refine lR0 rfl ⟨⟩ (o0a rfl (by conv => lhs; whnf) ?_)
 refine ⟨u2a (fun h => ?_), S1.fin⟩; obtain ⟨a1, a2, a3, a4⟩ := h; rw [a4] at hn; simp at hn; omega
theorem W4a (M : List Nat) (w0 : World) (v : Value) (l : List Int) (hR : RdI M w0 v l) (hr : r4a l) : R0a Tryz.prog 126 #[v] w0 fun v w' => v = .bool true ∧ Below w0.heap.size w0 w' := by
 obtain ⟨A, n, c, rfl⟩ := hR.form
 obtain ⟨_, _, _⟩ := hR.len
 have S := St.refl w0
 refine a0a Tryz.func126 rfl Tryz.ntmps126 rfl ?_
 refine wC0 rfl ⟨⟩ (wL (fun μk D ε w => D = [] ∧ ∃ k : Nat, (k + μk = max (l.length) 1) ∧ (1 ≤ k) ∧ St [] w0 w [] ∧ Sl ε [(0, .slice A n c), (3, .int .i64 k)]) (μ := (max (l.length) 1 - 1)) ⟨rfl, 1, by omega, by omega, S, rfl⟩ ?_)
 rintro μk D ε w ⟨rfl, k, _, _, S, eZ⟩
 refine wK eZ (wB0 rfl ⟨⟩ (fun h7 => ?_) fun h7 => ?_)
 ·refine lC0 rfl ⟨⟩ (x0a b0a [0, 1, 2, 3, 4, 5, 6, 7, 8, 9] [] [] (by kernel_rfl) rfl (Cl _ _ _ _) (Cl.start S) ?_)
  obtain ⟨_, b12, p12, _, hxy, hA12, _, _, hc12, hr12⟩ := RdS.get (hR) (k) (by omega)
  obtain ⟨rfl, _⟩ := id hr12
  obtain ⟨x, b17, p17, _, hxx, hA17, _, _, hc17, hr17⟩ := RdS.get (hR) (k - 1) (by omega)
  obtain ⟨rfl, _⟩ := id hr17
  have e17 : ((k : Int) - 1).toNat = k - 1 := by omega
  rw [← e17] at hc17
  have hxy2 := k8b hr hxx hxy (by omega)
  refine qB ((S.q.a hc17).a hc12) [.x b12 p12,.f 0 0,.x b17 p17,.f 1 0] rfl ⟨rfl,⟨hA17,by omega⟩,by omega,rfl,⟨hA12,by omega⟩,⟨⟩⟩ (fun h19 => by exfalso; omega) fun h19 => ?_
  refine qD rfl ⟨⟩ ?_
  rintro wR4 ⟨SR4, _⟩
  refine lP0 rfl ⟨by omega,⟨⟩⟩ ⟨μk - 1, by omega, rfl, (k + 1), (by omega), (by omega), SR4, rfl⟩
 exact lT rfl ⟨⟩ rfl ⟨rfl, S.fin⟩
theorem G3b (M : List Nat) (w0 : World) (v vf : Value) (l : List Int) (q : Int → Bool) (hR : RdI M w0 v l) (hp : o2a Tryz.prog M w0 vf q) :
 R0a Tryz.prog 193 #[v, vf] w0 fun v w' => (∃ n, v = .int .i64 n ∧ (0 ≤ n ↔ l.any q = true)) ∧ Below w0.heap.size w0 w' := by
 obtain ⟨A, n, c, rfl⟩ := hR.form
 obtain ⟨_, _, _⟩ := hR.len
 have S := St.refl w0
 refine a0a Tryz.func193 rfl Tryz.ntmps193 rfl ?_
 refine wC0 rfl ⟨⟩ (wL (fun μk D ε w => D = [] ∧ ∃ k : Nat, (k + μk = (l.length)) ∧ (n1a (l) k (fun x => q x = false)) ∧ St [] w0 w [] ∧ Sl ε [(0, .slice A n c), (1, vf), (7, .int .i64 n), (8, .int .i64 k)]) (μ := (l.length)) ⟨rfl, 0, by omega, n1a.zero, S, rfl⟩ ?_)
 rintro μk D ε w ⟨rfl, k, _, ha, S, eZ⟩
 refine wK eZ (wB0 rfl ⟨⟩ (fun h9 => ?_) fun h9 => ?_)
 ·refine lOn 16 S.k [] rfl ⟨⟩ (u1a (by conv => lhs; whnf) rfl ?_)
  obtain ⟨x, b14, p14, _, hxx, hA14, _, _, hc14, hr14⟩ := RdS.get (hR) (k) (by omega)
  obtain ⟨rfl, i114⟩ := id hr14
  refine lO (S.k.a hc14) [.x b14 p14,.f 0 0] rfl ⟨rfl,⟨hA14,by omega⟩,⟨⟩⟩ (g2b S (hp.keep (S.keep0 M)) rfl rfl (i114) rfl (fun h16 w16 S16 X16 => ?_) (fun h16 w16 S16 X16 => ?_))
  ·exact lT rfl ⟨⟩ rfl ⟨⟨_, rfl, ⟨fun _ => List.any_eq_true.2 ⟨x, f0a hxx, h16⟩, fun _ => by omega⟩⟩, S16.fin⟩
  refine lP0 rfl ⟨by omega,⟨⟩⟩ ⟨μk - 1, by omega, rfl, (k + 1), (by omega), (ha.succ hxx (h16)), S16, rfl⟩
 refine lT rfl ⟨⟩ rfl ?_
 refine ⟨⟨_, rfl, ⟨fun h => by omega, fun h => ?_⟩⟩, S.fin⟩; obtain ⟨x, h1, h2⟩ := List.any_eq_true.1 h; rw [ha.all (by omega) x h1] at h2; cases h2
theorem w9a (M : List Nat) (w0 : World) (v vf : Value) (l : List Int) (q : Int → Bool) (hR : RdI M w0 v l) (hp : o2a Tryz.prog M w0 vf q) :
 R0a Tryz.prog 161 #[v, vf] w0 fun v w' => v = .bool (l.any q) ∧ Below w0.heap.size w0 w' := by
 obtain ⟨_, _, _, rfl⟩ := hR.form
 have S := St.refl w0
 refine a0a Tryz.func161 rfl Tryz.ntmps161 rfl ?_
 refine wOn 8 S.k [] rfl ⟨⟩ (u1a (by conv => lhs; whnf) rfl ?_)
 refine F0a S z3c rfl rfl (G3b M _ _ _ l q (hR.keep (S.keep0 M)) (hp.keep (S.keep0 M))) ?_
 rintro v7 w7 ⟨_, rfl, hm⟩ S7 X7
 refine lB0 rfl ⟨⟩ (fun h8 => ?_) fun h8 => ?_
 ·refine lR0 rfl ⟨⟩ (o0a rfl (by conv => lhs; whnf) ?_)
  exact ⟨by rw [hm.1 (by omega)], S7.fin⟩
 refine lT rfl ⟨⟩ rfl ?_
 refine ⟨congrArg Value.bool ?_, S7.fin⟩; cases hq : l.any q with | false => rfl | true => exact absurd (hm.2 hq) (by omega)
theorem N7b (g : Nat) (c : Int) (M : List Nat) (w0 : World) (vf : Value) (q : Int → Bool) (hc : w0.cell? ⟨g, 0, none⟩ = some vf) (hp : o2a Tryz.prog M w0 vf q) (hi : i64 c) :
 R0a Tryz.prog 162 #[.int .i64 c, .pointer (some ⟨g, 0, none⟩)] w0 fun v w' => v = .bool (!q c) ∧ Below w0.heap.size w0 w' := by
 have S := St.refl w0
 refine a0a Tryz.func162 rfl Tryz.ntmps162 rfl ?_
 refine wO0 rfl ⟨⟩ (u0a d2b rfl (by first | exact S.old hc) rfl ?_)
 refine lO0 rfl ⟨⟩ (g2b S (hp.keep (S.keep0 M)) rfl rfl (hi) rfl (fun h6 w6 S6 X6 => ?_) (fun h6 w6 S6 X6 => ?_))
 ·refine lR0 rfl ⟨⟩ (o0a rfl (by conv => lhs; whnf) ?_)
  exact ⟨by rw [h6], S6.fin⟩
 refine lR0 rfl ⟨⟩ (o0a rfl (by conv => lhs; whnf) ?_)
 exact ⟨by rw [h6], S6.fin⟩
theorem U0a {M : List Nat} {w : World} {g : Nat} (hM : ∀ g ∈ M, g < w.heap.size) (h : w.heap.size ≤ g ∨ g ∈ ([] : List Nat)) : g ∉ M := fun hh => by
 rcases h with h | h
 ·have := hM g hh; omega
 ·cases h
theorem K5a (M : List Nat) (w0 : World) (v vf : Value) (l : List Int) (q : Int → Bool) (hR : RdI M w0 v l) (hp : o2a Tryz.prog M w0 vf q) (hM : ∀ g ∈ M, g < w0.heap.size) :
 R0a Tryz.prog 127 #[v, vf] w0 fun v w' => v = .bool (l.all q) ∧ Below w0.heap.size w0 w' := by
 obtain ⟨_, _, c, rfl⟩ := hR.form
 obtain ⟨_, _, _, rfl, _, _⟩ := id hp
 have S := St.refl w0
 refine a0a Tryz.func127 rfl Tryz.ntmps127 rfl ?_
 refine wO0 rfl ⟨⟩ (h9a S (v := .func _ _ _) rfl rfl rfl ?_)
 intro g3 w3 S3 X3 G3
 refine lO0 rfl ⟨⟩ (f2a rfl rfl ?_)
 refine r0a S3 Q6c rfl rfl (w9a M _ _ _ l (fun c => !q c) (hR.keep (S3.keep0 M)) ⟨162, #[], _, rfl, Y3c, fun w' hk c hc => N7b g3 c M w' _ q (hk.cell (a := ⟨g3, 0, none⟩) (U0a hM (S3.new 0 rfl)) (S3.cell 0 rfl rfl)) (hp.keep ((S3.keep0 M).trans hk)) hc⟩) (fun h7 w7 S7 X7 => ?_) (fun h7 w7 S7 X7 => ?_)
 ·refine lT rfl ⟨⟩ rfl ⟨congrArg Value.bool ?_, S7.fin⟩
  have h8 : l.all q = !(l.any fun c => !q c) := by simp [List.all_eq_not_any_not]
  rw [h8, h7] <;> rfl
 refine lT rfl ⟨⟩ rfl ⟨congrArg Value.bool ?_, S7.fin⟩
 have h8 : l.all q = !(l.any fun c => !q c) := by simp [List.all_eq_not_any_not]
 rw [h8, h7] <;> rfl
theorem J4a (p : d0a) (M : List Nat) (w0 : World) (cs : List Value) (c : Int) (hP : g1a M w0 p cs) :
 R0a Tryz.prog 125 #[.agg cs.toArray, .int .i64 c] w0 fun v w' => v = .bool (shQ p c) ∧ Below w0.heap.size w0 w' := by
 obtain ⟨_, _, _, _, _, _, _, _, _, _, _, _, rfl, hC, _, _, _, _, _, _, _, _, _, _, _⟩ := hP.open_
 have S := St.refl w0
 refine a0a Tryz.func125 rfl Tryz.ntmps125 rfl ?_
 refine wO0 rfl ⟨⟩ (m0a S (by conv => lhs; whnf) rfl ?_)
 intro g2 w2 S2 X2 G2
 refine lO S2.k [.o 0] rfl ⟨rfl,⟨⟩⟩ (r0a S2 U2a rfl rfl (i2a _ _ _) (fun h10 w10 S10 X10 => ?_) (fun h10 w10 S10 X10 => ?_))
 ·have h11 := of_decide_eq_true h10
  obtain ⟨x, b16, p16, _, hxx, hA16, _, _, hc16, hr16⟩ := RdS.get (hC) (c.toNat) (by omega)
  obtain ⟨rfl, _, _, _, _⟩ := K2a.open_ hr16
  refine lB (S10.k.a hc16) [.o 0,.x b16 p16,.f 0 3] rfl ⟨rfl,⟨hA16,by omega⟩,rfl,⟨⟩⟩ (fun h19 => ?_) fun h19 => ?_
  ·refine lT rfl ⟨⟩ rfl ⟨congrArg Value.bool ?_, S10.fin⟩
   unfold shQ
   rw [decide_eq_true]; exact ⟨by omega, by rw [f1a hxx]; omega⟩
  refine lT rfl ⟨⟩ rfl ⟨congrArg Value.bool ?_, S10.fin⟩
  unfold shQ
  rw [decide_eq_false]; intro hh; rw [f1a hxx] at hh; omega
 refine lT rfl ⟨⟩ rfl ⟨congrArg Value.bool ?_, S10.fin⟩
 unfold shQ
 rw [decide_eq_false]; intro hh; have := of_decide_eq_false h10; omega
theorem y3a {p : d0a} {M : List Nat} {w : World} {cs : List Value} (hP : g1a M w p cs) : o2a Tryz.prog M w (.func (.func 125) #[.agg cs.toArray] #[]) (shQ p) :=
 ⟨_, _, _, rfl, m9a, fun w' hk c _ => J4a p M w' cs c (hP.keep hk)⟩
theorem t6c (p : d0a) (t c : Int) (g g' : Nat) (M : List Nat) (w0 : World) (cs : List Value) (hP : g1a M w0 p cs) (hg : r1a w0 g 0 cs) (hg' : w0.cell? ⟨g', 0, none⟩ = some (.int .i64 t)) :
 R0a Tryz.prog 194 #[.int .i64 c, .pointer (some ⟨g, 0, none⟩), .pointer (some ⟨g', 0, none⟩)] w0 fun v w' => v = .bool (R8a p t c) ∧ Below w0.heap.size w0 w' := by
 obtain ⟨_, _, _, _, _, _, _, _, _, _, _, _, rfl, hC, _, _, _, _, _, _, _, _, _, _, _⟩ := hP.open_
 have S := St.refl w0
 refine a0a Tryz.func194 rfl Tryz.ntmps194 rfl ?_
 refine wC0 rfl ⟨⟩ (x0a b0a [0, 1, 2, 3, 4, 5, 6, 7, 8, 9, 10, 11, 12, 13, 14, 15, 16, 17] [] [] (by kernel_rfl) rfl (Cl _ _ _ _) (Cl.start S) ?_)
 refine qO0 rfl ⟨⟩ (i0a r7a rfl (fun w1 hw => by exact hw.1.old (hg _ _ rfl)) rfl ?_)
 refine qO0 rfl ⟨⟩ (M1a U2a rfl rfl (fun w1 S1 X1 => i2a _ _ _) (fun h10 => ?_) fun h10 => ?_)
 ·refine qO0 rfl ⟨⟩ (i0a r7a rfl (fun w1 hw => by exact hw.1.old (hg _ _ rfl)) rfl ?_)
  have h11 := of_decide_eq_true h10
  obtain ⟨x, b16, p16, _, hxx, hA16, _, _, hc16, hr16⟩ := RdS.get (hC) (c.toNat) (by omega)
  obtain ⟨rfl, _, _, _, _⟩ := K2a.open_ hr16
  refine qO (S.q.a hc16) [.x b16 p16,.f 0 3] rfl ⟨rfl,⟨hA16,by omega⟩,⟨⟩⟩ (i0a G0a rfl (fun w1 hw => by exact hw.1.old hg') rfl ?_)
  refine qB0 rfl ⟨⟩ (fun h20 => ?_) fun h20 => ?_
  ·refine qD rfl ⟨⟩ ?_
   rintro wR1 ⟨SR1, XR1⟩
   refine lT rfl ⟨⟩ rfl ⟨congrArg Value.bool ?_, SR1.fin⟩
   unfold R8a
   rw [decide_eq_true]; exact ⟨by omega, by rw [f1a hxx]; omega⟩
  refine qD rfl ⟨⟩ ?_
  rintro wR1 ⟨SR1, XR1⟩
  refine lT rfl ⟨⟩ rfl ⟨congrArg Value.bool ?_, SR1.fin⟩
  unfold R8a
  rw [decide_eq_false]; intro hh; rw [f1a hxx] at hh; omega
 refine qD rfl ⟨⟩ ?_
 rintro wR1 ⟨SR1, XR1⟩
 refine lT rfl ⟨⟩ rfl ⟨congrArg Value.bool ?_, SR1.fin⟩
 unfold R8a
 rw [decide_eq_false]; intro hh; have := of_decide_eq_false h10; omega
theorem A1b (p : d0a) (t : Int) (M : List Nat) (w0 : World) (cs : List Value) (hP : g1a M w0 p cs) (hM : ∀ g ∈ M, g < w0.heap.size) :
 R0a Tryz.prog 163 #[.agg cs.toArray, .int .i64 t] w0 fun v w' => o2a Tryz.prog M w' v (R8a p t) ∧ Below w0.heap.size w0 w' := by
 obtain ⟨_, _, _, _, _, _, _, _, _, _, _, _, rfl, _, _, _, _, _, _, _, _, _, _, _, _⟩ := hP.open_
 have S := St.refl w0
 refine a0a Tryz.func163 rfl Tryz.ntmps163 rfl ?_
 refine wO0 rfl ⟨⟩ (m0a S (by conv => lhs; whnf) rfl ?_)
 intro g2 w2 S2 X2 G2
 refine h9a S2 (v := .int .i64 _) rfl rfl rfl ?_
 intro g3 w3 S3 X3 G3
 refine lO0 rfl ⟨⟩ (f2a rfl rfl ?_)
 refine lR0 rfl ⟨⟩ (o0a rfl (by conv => lhs; whnf) ?_)
 exact ⟨⟨_, _, _, rfl, D3c, fun w' hk c _ => t6c p t c g2 g3 M w' _ (hP.keep ((S3.keep0 M).trans hk)) ((S3.cells 1 rfl).keep hk (U0a hM (S3.new 1 rfl))) (hk.cell (a := ⟨g3, 0, none⟩) (U0a hM (S3.new 0 rfl)) (S3.cell 0 rfl rfl))⟩, S3.fin⟩
theorem x5b (p : d0a) (t c : Int) (g g' : Nat) (M : List Nat) (w0 : World) (cs : List Value) (vf : Value) (hP : g1a M w0 p cs) (hg : r1a w0 g 0 cs) (hg' : w0.cell? ⟨g', 0, none⟩ = some vf) (hp : o2a Tryz.prog M w0 vf (R8a p t)) (hc : i64 c) :
 R0a Tryz.prog 164 #[.int .i64 c, .pointer (some ⟨g, 0, none⟩), .pointer (some ⟨g', 0, none⟩)] w0 fun v w' => v = .bool (y2b p t c) ∧ Below w0.heap.size w0 w' := by
 obtain ⟨_, _, _, _, _, _, _, _, _, _, _, _, rfl, _, _, _, _, _, _, _, _, _, _, _, _⟩ := hP.open_
 have S := St.refl w0
 refine a0a Tryz.func164 rfl Tryz.ntmps164 rfl ?_
 refine wO0 rfl ⟨⟩ ?_
 first | refine m2a e2b rfl ((fun j v hj => S.old (hg j v hj))) (by rfl) rfl ?_
 refine lO0 rfl ⟨⟩ (r0a S m9a rfl rfl (J4a p M _ _ _ (hP.keep (S.keep0 M))) (fun h7 w7 S7 X7 => ?_) (fun h7 w7 S7 X7 => ?_))
 ·refine lT rfl ⟨⟩ rfl ⟨congrArg Value.bool ?_, S7.fin⟩
  unfold y2b
  rw [h7] <;> rfl
 refine lO0 rfl ⟨⟩ (u0a d2b rfl (by first | exact S7.old hg') rfl ?_)
 refine lO0 rfl ⟨⟩ (g2b S7 (hp.keep (S7.keep0 M)) rfl rfl (hc) rfl (fun h11 w11 S11 X11 => ?_) (fun h11 w11 S11 X11 => ?_))
 ·refine lT rfl ⟨⟩ rfl ⟨congrArg Value.bool ?_, S11.fin⟩
  unfold y2b
  rw [h7, h11] <;> rfl
 refine lT rfl ⟨⟩ rfl ⟨congrArg Value.bool ?_, S11.fin⟩
 unfold y2b
 rw [h7, h11] <;> rfl
theorem B6a (p : d0a) (t : Int) (M : List Nat) (w0 : World) (cs : List Value) (hP : g1a M w0 p cs) (hM : ∀ g ∈ M, g < w0.heap.size) :
 R0a Tryz.prog 129 #[.agg cs.toArray, .int .i64 t] w0 fun v w' => o2a Tryz.prog M w' v (y2b p t) ∧ Below w0.heap.size w0 w' := by
 obtain ⟨_, _, _, _, _, _, _, _, _, _, _, _, rfl, _, _, _, _, _, _, _, _, _, _, _, _⟩ := hP.open_
 have S := St.refl w0
 refine a0a Tryz.func129 rfl Tryz.ntmps129 rfl ?_
 refine wO0 rfl ⟨⟩ (m0a S (by conv => lhs; whnf) rfl ?_)
 intro g2 w2 S2 X2 G2
 refine lO S2.k [.w 0] rfl ⟨⟨rfl,by rfl⟩,⟨⟩⟩ ?_
 refine F0a S2 B1b rfl rfl (A1b p t M _ _ (hP.keep (S2.keep0 M)) (fun g hg => by have := hM g hg; have := S2.size; omega)) ?_
 rintro v8 w8 hp8 S8 X8
 obtain ⟨_, _, _, rfl, _, _⟩ := id hp8
 refine k0a S8 V2c rfl rfl ?_
 intro g5 w5 S5 X5 G5
 refine w0a (kk := 0) S5 t3c rfl (by conv => lhs; whnf) rfl rfl (by exact Nat.le_of_ble_eq_true rfl) ?_
 intro w1_4 S1_4 X1_4
 refine lO0 rfl ⟨⟩ (f2a rfl rfl ?_)
 refine lR0 rfl ⟨⟩ (o0a rfl (by conv => lhs; whnf) ?_)
 exact ⟨⟨_, _, _, rfl, g4c, fun w' hk c hc => x5b p t c g2 g5 M w' _ _ (hP.keep ((S1_4.keep0 M).trans hk)) ((S1_4.cells 1 rfl).keep hk (U0a hM (S1_4.new 1 rfl))) (hk.cell (a := ⟨g5, 0, none⟩) (U0a hM (S1_4.new 0 rfl)) (S1_4.cell 0 rfl rfl)) (hp8.keep ((C0a.fresh X5 X1_4 G5).of_nil.trans hk)) hc⟩, S1_4.fin⟩
theorem T5a (e : E) (M : List Nat) (w0 : World) (es : List Value) (vf : Value) (q : Int → Bool) (hR : RdE M w0 e es) (hp : o2a Tryz.prog M w0 vf q) (hK : c3a M w0) (hM : ∀ g ∈ M, g < w0.heap.size) :
 R0a Tryz.prog 133 #[.agg es.toArray, vf] w0 fun v w' => v = .bool (Z2a e q) ∧ Below w0.heap.size w0 w' := by
 obtain ⟨_, _, _, rfl, _, _, _, _, _⟩ := hR.cells
 obtain ⟨_, _, _, rfl, _, _⟩ := id hp
 have S := St.refl w0
 have hM' : ∀ w' : World, w0.heap.size ≤ w'.heap.size → ∀ g ∈ M, g < w'.heap.size := fun w' h g hg => by have := hM g hg; omega
 refine a0a Tryz.func133 rfl Tryz.ntmps133 rfl ?_
 refine wO0 rfl ⟨⟩ (m0a S (by conv => lhs; whnf) rfl ?_)
 intro g2 w2 S2 X2 G2
 refine lO S2.k [.w 0] rfl ⟨⟨rfl,by rfl⟩,⟨⟩⟩ (F0a S2 Y5c rfl rfl (T2b e M _ _ (RdE.keep (S2.keep0 M) _ _ hR) (hK.keep (S2.keep0 M)) (hM' _ S2.size)) ?_)
 rintro v9 w9 ⟨_, _, rfl, ra, rb⟩ S9 X9
 obtain ⟨_, _, _, rfl⟩ := ra.form
 obtain ⟨_, _, _, rfl⟩ := rb.form
 refine lOn 10 S9.k [] rfl ⟨⟩ (u1a (by conv => lhs; whnf) rfl ?_)
 refine r0a S9 R7a rfl rfl (K5a M _ _ _ _ q ra (hp.keep (S9.keep0 M)) (hM' _ S9.size)) (fun h14 w14 S14 X14 => ?_) (fun h14 w14 S14 X14 => ?_)
 ·replace ra := ra.keep (X14.of_nil)
  replace rb := rb.keep (X14.of_nil)
  refine lOn 2 S14.k [] rfl ⟨⟩ (P1b rfl rfl rfl ?_)
  refine u1a (by conv => lhs; whnf) rfl ?_
  refine lO0 rfl ⟨⟩ (r0a S14 R7a rfl rfl (K5a M _ _ _ _ q rb (hp.keep (S14.keep0 M)) (hM' _ S14.size)) (fun h18 w18 S18 X18 => ?_) (fun h18 w18 S18 X18 => ?_))
  ·replace ra := ra.keep (X18.of_nil)
   refine lT rfl ⟨⟩ rfl ⟨congrArg Value.bool ?_, S18.fin⟩
   unfold Z2a
   rw [h14, h18] <;> rfl
  refine lT rfl ⟨⟩ rfl ⟨congrArg Value.bool ?_, S18.fin⟩
  unfold Z2a
  rw [h14, h18] <;> rfl
 refine lT rfl ⟨⟩ rfl ⟨congrArg Value.bool ?_, S14.fin⟩
 unfold Z2a
 rw [h14] <;> rfl
theorem I9a (p : d0a) (e : E) (M : List Nat) (w0 : World) (cs es : List Value) (pair : Bool) (vf : Value) (q : Int → Bool) (hP : g1a M w0 p cs) (hR : RdE M w0 e es) (hp : o2a Tryz.prog M w0 vf q) (hK : c3a M w0) (hM : ∀ g ∈ M, g < w0.heap.size)
 (hw : e.w = 1) (hv : e.valid p.cells pair = true) (hs : Z2a e q = true) :
 R0a Tryz.prog 124 #[.agg cs.toArray, .agg es.toArray, .bool pair, vf] w0 fun v w' => v = .bool true ∧ Below w0.heap.size w0 w' := by
 obtain ⟨_, _, _, _, _, _, _, _, _, _, _, _, rfl, hC, _, _, _, _, _, _, _, _, _, _, _⟩ := hP.open_
 obtain ⟨_, _, _, rfl, _, _, _, _, _⟩ := hR.cells
 obtain ⟨_, _, _, rfl, _, _⟩ := id hp
 have S := St.refl w0
 have hM' : ∀ w' : World, w0.heap.size ≤ w'.heap.size → ∀ g ∈ M, g < w'.heap.size := fun w' h g hg => by have := hM g hg; omega
 refine a0a Tryz.func124 rfl Tryz.ntmps124 rfl ?_
 refine wO0 rfl ⟨⟩ (m0a S (by conv => lhs; whnf) rfl ?_)
 intro g4 w4 S4 X4 G4
 refine m0a S4 (by conv => lhs; whnf) rfl ?_
 intro g5 w5 S5 X5 G5
 refine lB S5.k [.o 0] rfl ⟨rfl,⟨⟩⟩ (fun h11 => ?_) (fun h11 => by exfalso; omega)
 refine lO S5.k [.w 0,.o 1] rfl ⟨rfl,⟨rfl,by rfl⟩,⟨⟩⟩ (g0a S5 F6a rfl rfl (hv ▸ x3a e M _ _ _ p.cells pair (RdE.keep (S5.keep0 M) _ _ hR) (hC.keep (S5.keep0 M)) (hK.keep (S5.keep0 M))) ?_)
 intro w18 S18 X18
 refine lOn 3 S18.k [.w 0] rfl ⟨⟨rfl,by rfl⟩,⟨⟩⟩ (P1b rfl rfl rfl ?_)
 refine u1a (by conv => lhs; whnf) rfl ?_
 refine lO0 rfl ⟨⟩ (g0a S18 F7a rfl rfl (hs ▸ T5a e M _ _ _ q (RdE.keep (S18.keep0 M) _ _ hR) (hp.keep (S18.keep0 M)) (hK.keep (S18.keep0 M)) (hM' _ S18.size)) ?_)
 intro w23 S23 X23
 exact lT rfl ⟨⟩ rfl ⟨rfl, S23.fin⟩
theorem E5a (p : d0a) (M : List Nat) (w0 : World) (cs : List Value) (c : Int) (hP : g1a M w0 p cs) (h0 : 0 ≤ c) (h1 : c < p.cells.length) :
 R0a Tryz.prog 210 #[.agg cs.toArray, .int .i64 c] w0 fun v w' => v = .bool (S0b p.cells c) ∧ Below w0.heap.size w0 w' := by
 obtain ⟨_, _, _, _, _, _, _, _, _, _, _, _, rfl, hC, _, _, _, _, _, _, _, _, _, _, _⟩ := hP.open_
 have S := St.refl w0
 refine a0a Tryz.func210 rfl Tryz.ntmps210 rfl ?_
 refine wO0 rfl ⟨⟩ (m0a S (by conv => lhs; whnf) rfl ?_)
 intro g2 w2 S2 X2 G2
 obtain ⟨x, b9, p9, _, hxx, hA9, _, _, hc9, hr9⟩ := RdS.get (hC) (c.toNat) (by omega)
 obtain ⟨rfl, _, _, _, _⟩ := K2a.open_ hr9
 refine lR (S2.k.a hc9) [.o 0,.x b9 p9,.f 0 4] rfl ⟨rfl,⟨hA9,by omega⟩,rfl,⟨⟩⟩ (o0a rfl (by conv => lhs; whnf) ?_)
 exact ⟨by rw [Z4a hxx], S2.fin⟩
end Go.Proofs.YtjjmdcnmeommbaaGreatDoor
namespace Go.Fw
open Go.RowKit
theorem E6a (n : Nat) : B4a n = ((2 ^ n : Nat) : Int) := by
 induction n with
 | zero => rfl
 | succ n ih => simp only [B4a, ih, Nat.pow_succ]; omega
theorem e7b (a : Int) (h0 : 0 ≤ a) (h1 : a < 9223372036854775808) : IntKind.i64.wrap a = a := by
 unfold IntKind.wrap
 have hm : a % (2 ^ IntKind.i64.bits : Int) = a := Int.emod_eq_of_lt h0 (by simp [IntKind.bits]; omega)
 simp only [hm]
 rw [if_neg]
 simp [IntKind.bits, IntKind.signed]; omega
theorem m0c (a : Int) (n : Nat) (hn : n ≤ 62) : y7b a (B4a n - 1) = a % B4a n := by
 have h2 : (2 : Nat) ^ n ≤ 2 ^ 62 := Nat.pow_le_pow_right (by omega) hn
 have hpos : 0 < (2 : Nat) ^ n := Nat.pow_pos (by omega)
 rw [E6a]
 have e1 : (((2 ^ n : Nat) : Int) - 1) = ((2 ^ n - 1 : Nat) : Int) := by omega
 have key : (BitVec.ofInt 64 a &&& BitVec.ofInt 64 (((2 ^ n : Nat) : Int) - 1)).toNat = (a % ((2 ^ n : Nat) : Int)).toNat := by
  rw [BitVec.toNat_and, e1, BitVec.ofInt_natCast, BitVec.toNat_ofNat, BitVec.toNat_ofInt]
  rw [Nat.mod_eq_of_lt (show 2 ^ n - 1 < 2 ^ 64 by omega), Nat.and_two_pow_sub_one_eq_mod]
  have hd : ((2 ^ n : Nat) : Int) ∣ ((2 ^ 64 : Nat) : Int) := Int.natCast_dvd_natCast.2 (Nat.pow_dvd_pow 2 (by omega))
  have h64 : 0 ≤ a % ((2 ^ 64 : Nat) : Int) := Int.emod_nonneg _ (by decide)
  have hn0 : 0 ≤ a % ((2 ^ n : Nat) : Int) := Int.emod_nonneg _ (by omega)
  have : (((a % ((2 ^ 64 : Nat) : Int)).toNat % 2 ^ n : Nat) : Int) = ((a % ((2 ^ n : Nat) : Int)).toNat : Int) := by
   rw [Int.natCast_emod, Int.toNat_of_nonneg h64, Int.toNat_of_nonneg hn0, Int.emod_emod_of_dvd _ hd]
  omega
 have hb : y7b a (((2 ^ n : Nat) : Int) - 1) = IntKind.i64.wrap ((BitVec.ofInt 64 a &&& BitVec.ofInt 64 (((2 ^ n : Nat) : Int) - 1)).toNat : Int) := rfl
 rw [hb, key]
 have hn0 : 0 ≤ a % ((2 ^ n : Nat) : Int) := Int.emod_nonneg _ (by omega)
 have hn1 : a % ((2 ^ n : Nat) : Int) < ((2 ^ n : Nat) : Int) := Int.emod_lt_of_pos _ (by omega)
 rw [Int.toNat_of_nonneg hn0]
 exact e7b _ hn0 (by omega)
end Go.Fw
namespace Go.Fw
open Go.RowKit
theorem T0a.thread {p : d0a} (hp : T0a p) {k : Nat} {x : J0a} (hx : p.threads[k]? = some x) : e7a p k x := by
 obtain ⟨h, rfl⟩ := List.getElem?_eq_some_iff.1 hx
 exact hp.threads k h
theorem H1c {a : Int} (h0 : 0 ≤ a) (h1 : a < 18446744073709551616) : IntKind.u64.wrap a = a := by
 unfold IntKind.wrap
 have hm : a % (2 ^ IntKind.u64.bits : Int) = a := Int.emod_eq_of_lt h0 (by simp [IntKind.bits]; omega)
 simp only [hm]
 rw [if_neg]
 simp [IntKind.bits, IntKind.signed]
def z4a (l : List Value) : List (Value × Value) := l.map fun x => (x, .agg #[])
theorem P7a (l : List Value) (x : Value) : z4a (l ++ [x]) = z4a l ++ [(x, .agg #[])] := by simp [z4a]
theorem M4a {l : List Value} {x : Value} (h : x ∉ l) : ∀ y ∈ z4a l, y.1 ≠ x := fun y hy e => by
 obtain ⟨_, hz, rfl⟩ := List.mem_map.1 hy
 simp only at e
 subst e
 exact h hz
theorem X3a {α : Type} {l : List α} {k : Nat} {x : α} {f : α → Value} (hp : l.Pairwise fun a b => f a ≠ f b) (hx : l[k]? = some x) : f x ∉ (l.take k).map f := fun hm => by
 obtain ⟨_, hy, he⟩ := List.mem_map.1 hm
 obtain ⟨j, _, rfl⟩ := List.mem_take_iff_getElem.1 hy
 obtain ⟨hk, rfl⟩ := List.getElem?_eq_some_iff.1 hx
 exact (List.pairwise_iff_getElem.1 hp) j k _ hk (by omega) he
end Go.Fw
namespace Go.Proofs.YtjjmdcnmeommbaaGreatDoor
open Go.Fw Go.RowKit
theorem M7b (p : d0a) (M : List Nat) (w0 : World) (cs : List Value) (hP : g1a M w0 p cs) (hp : T0a p) :
 R0a Tryz.prog 70 #[.agg cs.toArray] w0 fun v w' => v = .tuple #[.int .i64 0, .int .i64 (-1)] ∧ Below w0.heap.size w0 w' := by
 obtain ⟨Ac, nc, cc, Am, nm, cm, Al, nl, cl, At, nt, ct, rfl, _, _, _, hTh, _, _, _, _, _, _, _, _⟩ := hP.open_
 have S := St.refl w0
 have q1 := hp.ncells
 have q2 := hp.nmodules
 have q3 := hp.nlocks
 have q4 := hp.nthreads
 refine a0a Tryz.func70 rfl Tryz.ntmps70 rfl ?_
 refine wO0 rfl ⟨⟩ (m0a S (by conv => lhs; whnf) rfl ?_)
 intro g1 w1 S1 X1 G1
 refine lO S1.k [.w 0] rfl ⟨⟨rfl,rfl⟩,⟨⟩⟩ (k0a S1 R1c rfl rfl ?_)
 intro g4 w4 S4 X4 G4
 refine c0a (kk := 0) (vs := [_, _, _, _]) S4 n0c rfl rfl rfl rfl rfl rfl rfl ?_
 intro w1_3 S1_3 X1_3
 dsimp only [e0a, List.set] at S1_3
 refine lB S1_3.k [.o 0] rfl ⟨rfl,⟨⟩⟩ (fun h12 => by exfalso; omega) fun h12 => ?_
 refine lB S1_3.k [.o 0] rfl ⟨rfl,⟨⟩⟩ (fun h17 => by exfalso; omega) fun h17 => ?_
 refine lB S1_3.k [.o 0] rfl ⟨rfl,⟨⟩⟩ (fun h23 => by exfalso; omega) fun h23 => ?_
 refine lB S1_3.k [.o 0] rfl ⟨rfl,⟨⟩⟩ (fun h29 => by exfalso; omega) fun h29 => ?_
 refine lC S1_3.k [.o 0] rfl ⟨rfl,⟨⟩⟩ (wL (fun μk D ε w => D = [] ∧ ∃ k : Nat, (k + μk = (p.threads.length)) ∧ St [] w0 w [(some g4, 27, [.slice Ac nc cc, .slice Am nm cm, .slice Al nl cl, .slice At nt ct]), (some g1, 138, [.slice Ac nc cc, .slice Am nm cm, .slice Al nl cl, .slice At nt ct])] ∧ Sl ε [(32, .slice At nt ct), (33, .int .i64 nt), (34, .int .i64 k)]) (μ := (p.threads.length)) ⟨rfl, 0, by omega, S1_3, rfl⟩ ?_)
 rintro μk D ε w ⟨rfl, k, _, S, eZ⟩
 refine wK eZ (wB0 rfl ⟨⟩ (fun h35 => ?_) fun h35 => ?_)
 ·obtain ⟨x, b37, p37, _, hxx, hA37, _, hl37, hc37, hr37⟩ := RdS.get (hTh) (k) (by omega)
  obtain ⟨_, _, _, _, _, _, _, _, _, _, _, _, rfl, _, _, _, _, _, _, _, _, _, _, _, _, _⟩ := v0a.open_ hr37
  have hx1 := hp.thread hxx
  have q5 := hx1.points
  have q6 := hx1.nsteps
  have q7 := hx1.nloops
  refine lO (S.k.a hc37) [.x b37 p37,.v 0] rfl ⟨⟨rfl,hl37⟩,⟨hA37,by omega⟩,⟨⟩⟩ (k0a S M2b rfl rfl ?_)
  intro g6 w6 S6 X6 G6
  refine lO0 rfl ⟨⟩ (c0a (kk := 0) (vs := [_, _, _, _, _, _, _]) S6 t1b rfl rfl rfl rfl rfl rfl rfl ?_)
  intro w6_5 S6_5 X6_5
  dsimp only [e0a, List.set] at S6_5
  refine lB S6_5.k [.o 0] rfl ⟨rfl,⟨⟩⟩ (fun h41 => by exfalso; omega) fun h41 => ?_
  refine lB S6_5.k [.o 0] rfl ⟨rfl,⟨⟩⟩ (fun h46 => by exfalso; omega) fun h46 => ?_
  refine lB S6_5.k [.o 0] rfl ⟨rfl,⟨⟩⟩ (fun h52 => by exfalso; omega) fun h52 => ?_
  refine lP0 rfl ⟨by omega,⟨⟩⟩ ⟨μk - 1, by omega, rfl, (k + 1), (by omega), S6_5.tail, rfl⟩
 refine lR0 rfl ⟨⟩ (N2a rfl (by conv => lhs; whnf) (by conv => lhs; whnf) ?_)
 exact ⟨rfl, S.fin⟩
theorem U8a (b : Nat) (l : List Value) (s : ByteArray) (w0 : World) (hm : F3a Tryz.prog 9 w0 b (z4a l)) (hs : s.size ≤ 140737488355328) (hnew : Value.string s ∉ l) :
 R0a Tryz.prog 122 #[.map (some b), .string s] w0 fun v w' => v = .bool false ∧ L0a [b] w0 w' ∧ F3a Tryz.prog 9 w' b (z4a (l ++ [.string s])) := by
 have S := St.reflM [b] w0
 have hk : keyOf Tryz.prog 9 (.string s) = some (.string s.data.toList) := Go.WideMaps.keyOf_string_mk Tryz.underlying9 (by unfold maxLen; omega)
 refine a0a Tryz.func122 rfl Tryz.ntmps122 rfl ?_
 refine wO0 rfl ⟨⟩ (Y9a (Go.Maps.string_keyed Tryz.underlying9) Tryz.underlying142 c1b hm rfl rfl hk rfl (fun v hv => absurd rfl (M4a hnew _ hv)) (fun _ => ?_))
 refine lO0 rfl ⟨⟩ (k0a S c1b rfl rfl ?_)
 intro g5 w5 S5 X5 G5
 replace hm := hm.keep X5 (List.not_mem_nil)
 first | refine c0a (kk := 0) (vs := []) S5 r8b rfl rfl rfl rfl rfl rfl rfl ?_
 intro w1_7 S1_7 X1_7
 dsimp only [e0a, List.set] at S1_7
 replace hm := hm.keep X1_7 (fun hh => by rw [List.mem_singleton] at hh; first | exact hm.ne (S5.blk 0 rfl) hh)
 refine lO0 rfl ⟨⟩ (b1a A4b (vs := []) (cs := []) rfl rfl rfl rfl ?_)
 refine B2b S1_7 (Go.Maps.string_keyed Tryz.underlying9) Tryz.underlying142 hm rfl rfl rfl hk (M4a hnew) (.inr (by simp)) ?_
 intro wm Sm Xm Mm
 refine lT rfl ⟨⟩ rfl ?_
 exact ⟨rfl, Sm.below, by rw [P7a]; exact Mm⟩
theorem q8b (p : d0a) (M : List Nat) (w0 : World) (cs : List Value) (hP : g1a M w0 p cs) (hp : T0a p) :
 R0a Tryz.prog 71 #[.agg cs.toArray] w0 fun v w' => v = .int .i64 0 ∧ Below w0.heap.size w0 w' := by
 obtain ⟨Ac, nc, cc, Am, nm, cm, Al, nl, cl, At, nt, ct, rfl, hC, _, _, _, _, _, _, _, _, _, _, _⟩ := hP.open_
 have S := St.refl w0
 have hdis : p.cells.Pairwise fun a b => Value.string a.name ≠ .string b.name := hp.cellNames.imp fun h e => h (by injection e)
 refine a0a Tryz.func71 rfl Tryz.ntmps71 rfl ?_
 refine wO0 rfl ⟨⟩ (m0a S (by conv => lhs; whnf) rfl ?_)
 intro g1 w1 S1 X1 G1
 refine lO0 rfl ⟨⟩ (s5a (k := 9) S1 rfl ?_)
 intro g6 w6 S6 X6 G6 Mp6
 have hg6 : w0.heap.size ≤ g6 := by have := S1.size; omega
 refine lC S6.k [.o 0] rfl ⟨rfl,⟨⟩⟩ (wL (fun μk D ε w => D = [] ∧ ∃ k : Nat, (k + μk = (p.cells.length)) ∧ (F3a Tryz.prog 9 w g6 (z4a ((p.cells.take k).map fun c => .string c.name))) ∧ St [] w0 w [(some g1, 138, [.slice Ac nc cc, .slice Am nm cm, .slice Al nl cl, .slice At nt ct])] ∧ Sl ε [(1, .pointer (some ⟨g1, 0, none⟩)), (3, .map (some g6)), (9, .slice Ac nc cc), (10, .int .i64 nc), (11, .int .i64 k)]) (μ := (p.cells.length)) ⟨rfl, 0, by omega, (by simpa [z4a] using Mp6), S6, rfl⟩ ?_)
 rintro μk D ε w ⟨rfl, k, _, Mp6, S, eZ⟩
 refine wK eZ (wB0 rfl ⟨⟩ (fun h12 => ?_) fun h12 => ?_)
 ·obtain ⟨x, b13, p13, _, hxx, hA13, _, hl13, hc13, hr13⟩ := RdS.get (hC) (k) (by omega)
  obtain ⟨rfl, _, _, _, _⟩ := K2a.open_ hr13
  have q1 := hp.cells x (f0a hxx)
  have q2 := q1.w
  have q3 := q1.init
  have q4 := q1.thread
  refine lO (S.k.a hc13) [.x b13 p13,.v 0] rfl ⟨⟨rfl,hl13⟩,⟨hA13,by omega⟩,⟨⟩⟩ (k0a S Z5c rfl rfl ?_)
  intro g5 w5 S5 X5 G5
  replace Mp6 := Mp6.keep X5 (List.not_mem_nil)
  refine c0a (kk := 0) (vs := [_, _, _, _, _, _]) S5 d6c rfl rfl rfl rfl rfl rfl rfl ?_
  intro w4_3 S4_3 X4_3
  dsimp only [e0a, List.set] at S4_3
  replace Mp6 := Mp6.keep X4_3 (fun hh => by rw [List.mem_singleton] at hh; exact Mp6.ne (S5.blk 0 rfl) hh)
  refine lO S4_3.k [.o 0] rfl ⟨rfl,⟨⟩⟩ (g0a S4_3 w2b rfl rfl (p7a _ _ q1.name) ?_)
  intro w18 S18 X18
  replace Mp6 := Mp6.keep X18 (List.not_mem_nil)
  refine lB S18.k [.o 0] rfl ⟨rfl,⟨⟩⟩ (fun h22 => by exfalso; omega) fun h22 => ?_
  refine lB S18.k [.o 0] rfl ⟨rfl,⟨⟩⟩ (fun h25 => by exfalso; omega) fun h25 => ?_
  refine lO S18.k [.o 0,.o 0] rfl ⟨rfl,rfl,⟨⟩⟩ (x4b Tryz.underlying3 Tryz.underlying176 rfl rfl ?_)
  rw [H1c (by omega) (by omega), show x.w = ((x.w.toNat : Nat) : Int) by omega]
  refine A6c (n := x.w.toNat) rfl (by rfl) (by omega) rfl ?_
  refine g0a S18 U2a rfl rfl ((show decide (0 ≤ x.init ∧ x.init < ((2 ^ x.w.toNat : Nat) : Int)) = true from decide_eq_true (by rw [← E6a]; exact q3)) ▸ i2a _ _ _) ?_
  intro w32 S32 X32
  replace Mp6 := Mp6.keep X32 (List.not_mem_nil)
  refine lB S32.k [.o 0] rfl ⟨rfl,⟨⟩⟩ (fun h37 => ?_) fun h37 => ?_
  ·refine lO S32.k [.o 0,.o 1] rfl ⟨rfl,rfl,⟨⟩⟩ (g0a S32 U2a rfl rfl ((show decide (0 ≤ x.thread ∧ x.thread < (nt : Int)) = true from decide_eq_true (by omega)) ▸ i2a _ _ _) ?_)
   intro w45 S45 X45
   replace Mp6 := Mp6.keep X45 (List.not_mem_nil)
   refine lO S45.k [.o 0,.o 1] rfl ⟨rfl,rfl,⟨⟩⟩ ?_
   refine g0a S45 U2a rfl rfl ((show decide (0 ≤ x.module_ ∧ x.module_ < (nm : Int)) = true from decide_eq_true (by have := q1.mod; unfold G2a at this; omega)) ▸ i2a _ _ _) ?_
   intro w54 S54 X54
   replace Mp6 := Mp6.keep X54 (List.not_mem_nil)
   refine lO S54.k [.o 0] rfl ⟨rfl,⟨⟩⟩ ?_
   have hnew := X3a hdis hxx
   have hsz : x.name.size ≤ 140737488355328 := by have := q1.name.2.1; omega
   refine q3a G1b rfl rfl (U8a g6 _ x.name _ Mp6 hsz hnew) ?_
   rintro v60 w60 ⟨rfl, B60, M60⟩
   have S60 := S54.turned Mp6 (.inl hg6) B60
   refine lP0 rfl ⟨by omega,⟨⟩⟩ ?_
   refine ⟨μk - 1, by omega, rfl, (k + 1), (by omega), ((by rw [h1a hxx, List.map_append]; exact M60)), S60.tail, rfl⟩
  refine lO S32.k [.o 0,.o 1] rfl ⟨rfl,rfl,⟨⟩⟩ ?_
  refine g0a S32 U2a rfl rfl ((show decide (0 ≤ x.module_ ∧ x.module_ < (nm : Int)) = true from decide_eq_true (by have := q1.mod; unfold G2a at this; omega)) ▸ i2a _ _ _) ?_
  intro w54 S54 X54
  replace Mp6 := Mp6.keep X54 (List.not_mem_nil)
  refine lO S54.k [.o 0] rfl ⟨rfl,⟨⟩⟩ ?_
  have hnew := X3a hdis hxx
  have hsz : x.name.size ≤ 140737488355328 := by have := q1.name.2.1; omega
  refine q3a G1b rfl rfl (U8a g6 _ x.name _ Mp6 hsz hnew) ?_
  rintro v60 w60 ⟨rfl, B60, M60⟩
  have S60 := S54.turned Mp6 (.inl hg6) B60
  refine lP0 rfl ⟨by omega,⟨⟩⟩ ?_
  refine ⟨μk - 1, by omega, rfl, (k + 1), (by omega), ((by rw [h1a hxx, List.map_append]; exact M60)), S60.tail, rfl⟩
 exact lT rfl ⟨⟩ rfl ⟨rfl, S.fin⟩
theorem v5b (p : d0a) (M : List Nat) (w0 : World) (cs : List Value) (hP : g1a M w0 p cs) (hp : T0a p) (hK : c3a M w0) (hM : ∀ g ∈ M, g < w0.heap.size) :
 R0a Tryz.prog 72 #[.agg cs.toArray] w0 fun v w' => v = .int .i64 0 ∧ Below w0.heap.size w0 w' := by
 obtain ⟨Ac, nc, cc, Am, nm, cm, Al, nl, cl, At, nt, ct, rfl, _, hMo, _, _, _, _, _, _, _, _, _, _⟩ := hP.open_
 have S := St.refl w0
 have hM' : ∀ w' : World, w0.heap.size ≤ w'.heap.size → ∀ g ∈ M, g < w'.heap.size := fun w' h g hg => by have := hM g hg; omega
 have hdis : p.modules.Pairwise fun a b => Value.string a.name ≠ .string b.name := hp.moduleNames.imp fun h e => h (by injection e)
 refine a0a Tryz.func72 rfl Tryz.ntmps72 rfl ?_
 refine wO0 rfl ⟨⟩ (m0a S (by conv => lhs; whnf) rfl ?_)
 intro g1 w1 S1 X1 G1
 refine lO0 rfl ⟨⟩ (s5a (k := 9) S1 rfl ?_)
 intro g6 w6 S6 X6 G6 Mp6
 have hg6 : w0.heap.size ≤ g6 := by have := S1.size; omega
 refine lC S6.k [.o 0] rfl ⟨rfl,⟨⟩⟩ (wL (fun μk D ε w => D = [] ∧ ∃ k : Nat, (k + μk = (p.modules.length)) ∧ (F3a Tryz.prog 9 w g6 (z4a ((p.modules.take k).map fun c => .string c.name))) ∧ St [] w0 w [(some g1, 138, [.slice Ac nc cc, .slice Am nm cm, .slice Al nl cl, .slice At nt ct])] ∧ Sl ε [(1, .pointer (some ⟨g1, 0, none⟩)), (3, .map (some g6)), (9, .slice Am nm cm), (10, .int .i64 nm), (11, .int .i64 k)]) (μ := (p.modules.length)) ⟨rfl, 0, by omega, (by simpa [z4a] using Mp6), S6, rfl⟩ ?_)
 rintro μk D ε w ⟨rfl, k, _, Mp6, S, eZ⟩
 refine wK eZ (wB0 rfl ⟨⟩ (fun h12 => ?_) fun h12 => ?_)
 ·obtain ⟨x, b13, p13, _, hxx, hA13, _, hl13, hc13, hr13⟩ := RdS.get (hMo) (k) (by omega)
  obtain ⟨_, _, _, _, _, _, _, _, _, rfl, hR13, hG13, hF13, _, _⟩ := q0a.open_ hr13
  have q1 := hp.modules x (f0a hxx)
  refine lO (S.k.a hc13) [.x b13 p13,.v 0] rfl ⟨⟨rfl,hl13⟩,⟨hA13,by omega⟩,⟨⟩⟩ (k0a S N6c rfl rfl ?_)
  intro g5 w5 S5 X5 G5
  replace Mp6 := Mp6.keep X5 (List.not_mem_nil)
  refine c0a (kk := 0) (vs := [_, _, _, _, _, _, _, _, _, _, _]) S5 X4c rfl rfl rfl rfl rfl rfl rfl ?_
  intro w4_3 S4_3 X4_3
  dsimp only [e0a, List.set] at S4_3
  replace Mp6 := Mp6.keep X4_3 (fun hh => by rw [List.mem_singleton] at hh; exact Mp6.ne (S5.blk 0 rfl) hh)
  refine lO S4_3.k [.o 0] rfl ⟨rfl,⟨⟩⟩ (g0a S4_3 w2b rfl rfl (p7a _ _ q1.name) ?_)
  intro w18 S18 X18
  replace Mp6 := Mp6.keep X18 (List.not_mem_nil)
  refine lO S18.k [.o 0] rfl ⟨rfl,⟨⟩⟩ (g0a S18 w2b rfl rfl (p7a _ _ q1.owner) ?_)
  intro w22 S22 X22
  replace Mp6 := Mp6.keep X22 (List.not_mem_nil)
  refine lO S22.k [.o 0] rfl ⟨rfl,⟨⟩⟩ ?_
  have hnew := X3a hdis hxx
  have hsz : x.name.size ≤ 140737488355328 := by have := q1.name.2.1; omega
  refine q3a G1b rfl rfl (U8a g6 _ x.name _ Mp6 hsz hnew) ?_
  rintro v28 w28 ⟨rfl, B28, M28⟩
  have S28 := S22.turned Mp6 (.inl hg6) B28
  clear Mp6
  have Mp6 := M28
  refine lO S28.k [.o 0] rfl ⟨rfl,⟨⟩⟩ (r0a S28 h6c rfl rfl (E7b x.rely M _ _ (RdE.keep (S28.keep0 M) _ _ hR13)) (fun h32 w32 S32 X32 => ?_) (fun h32 w32 S32 X32 => ?_))
  ·replace Mp6 := Mp6.keep X32 (List.not_mem_nil)
   refine lO S32.k [.w 1,.o 0,.w 1] rfl ⟨⟨rfl,rfl⟩,rfl,⟨rfl,rfl⟩,⟨⟩⟩ (k2a rfl rfl rfl ?_)
   refine g0a S32 q9a rfl rfl (I9a p x.guar M _ _ _ true _ (shQ p) (hP.keep (S32.keep0 M)) (RdE.keep (S32.keep0 M) _ _ hG13) (y3a (hP.keep (S32.keep0 M))) (hK.keep (S32.keep0 M)) (hM' _ S32.size) q1.guar.2.1 q1.guar.1 (b6b hp q1.guar.1 q1.guar.2.2)) ?_
   intro w48 S48 X48
   replace Mp6 := Mp6.keep X48 (List.not_mem_nil)
   refine lO S48.k [.o 0] rfl ⟨rfl,⟨⟩⟩ (g0a S48 Q4b rfl rfl (W4a M _ _ _ (hF13.keep (S48.keep0 M)) q1.up) ?_)
   intro w53 S53 X53
   replace Mp6 := Mp6.keep X53 (List.not_mem_nil)
   refine lO S53.k [.o 0,.w 1] rfl ⟨⟨rfl,rfl⟩,rfl,⟨⟩⟩ (k2a rfl rfl rfl ?_)
   refine g0a S53 R7a rfl rfl ((show x.frame.all (shQ p) = true from List.all_eq_true.2 fun z hz => decide_eq_true (q1.frame z hz)) ▸ K5a M _ _ _ x.frame (shQ p) (hF13.keep (S53.keep0 M)) (y3a (hP.keep (S53.keep0 M))) (hM' _ S53.size)) ?_
   intro w59 S59 X59
   replace Mp6 := Mp6.keep X59 (List.not_mem_nil)
   refine lP0 rfl ⟨by omega,⟨⟩⟩ ?_
   refine ⟨μk - 1, by omega, rfl, (k + 1), (by omega), ((by rw [h1a hxx, List.map_append]; exact Mp6)), S59.tail, rfl⟩
  replace Mp6 := Mp6.keep X32 (List.not_mem_nil)
  refine lO S32.k [.w 1,.o 0,.w 1] rfl ⟨⟨rfl,rfl⟩,rfl,⟨rfl,rfl⟩,⟨⟩⟩ (k2a rfl rfl rfl ?_)
  refine lO0 rfl ⟨⟩ ?_
  have ht40 := q1.rely.resolve_left (Y1b h32)
  refine g0a S32 q9a rfl rfl (I9a p x.rely M _ _ _ true _ (shQ p) (hP.keep (S32.keep0 M)) (RdE.keep (S32.keep0 M) _ _ hR13) (y3a (hP.keep (S32.keep0 M))) (hK.keep (S32.keep0 M)) (hM' _ S32.size) ht40.2.1 ht40.1 (b6b hp ht40.1 ht40.2.2)) ?_
  intro w40 S40 X40
  replace Mp6 := Mp6.keep X40 (List.not_mem_nil)
  refine lO S40.k [.w 1,.o 0,.w 1] rfl ⟨⟨rfl,rfl⟩,rfl,⟨rfl,rfl⟩,⟨⟩⟩ (k2a rfl rfl rfl ?_)
  refine g0a S40 q9a rfl rfl (I9a p x.guar M _ _ _ true _ (shQ p) (hP.keep (S40.keep0 M)) (RdE.keep (S40.keep0 M) _ _ hG13) (y3a (hP.keep (S40.keep0 M))) (hK.keep (S40.keep0 M)) (hM' _ S40.size) q1.guar.2.1 q1.guar.1 (b6b hp q1.guar.1 q1.guar.2.2)) ?_
  intro w48 S48 X48
  replace Mp6 := Mp6.keep X48 (List.not_mem_nil)
  refine lO S48.k [.o 0] rfl ⟨rfl,⟨⟩⟩ (g0a S48 Q4b rfl rfl (W4a M _ _ _ (hF13.keep (S48.keep0 M)) q1.up) ?_)
  intro w53 S53 X53
  replace Mp6 := Mp6.keep X53 (List.not_mem_nil)
  refine lO S53.k [.o 0,.w 1] rfl ⟨⟨rfl,rfl⟩,rfl,⟨⟩⟩ (k2a rfl rfl rfl ?_)
  refine g0a S53 R7a rfl rfl ((show x.frame.all (shQ p) = true from List.all_eq_true.2 fun z hz => decide_eq_true (q1.frame z hz)) ▸ K5a M _ _ _ x.frame (shQ p) (hF13.keep (S53.keep0 M)) (y3a (hP.keep (S53.keep0 M))) (hM' _ S53.size)) ?_
  intro w59 S59 X59
  replace Mp6 := Mp6.keep X59 (List.not_mem_nil)
  refine lP0 rfl ⟨by omega,⟨⟩⟩ ?_
  refine ⟨μk - 1, by omega, rfl, (k + 1), (by omega), ((by rw [h1a hxx, List.map_append]; exact Mp6)), S59.tail, rfl⟩
 exact lT rfl ⟨⟩ rfl ⟨rfl, S.fin⟩
theorem s3c {x : Int} (h : i64 x) : keyOf Tryz.prog 3 (.int .i64 x) = some (.int .i64 x) := Go.Maps.keyOf_int_mk Tryz.underlying3 (by unfold i64 at h; simp [Lit.wf, IntKind.min, IntKind.max, IntKind.signed, IntKind.bits]; omega)
theorem j8b (p : d0a) (M : List Nat) (w0 : World) (cs : List Value) (hP : g1a M w0 p cs) (hp : T0a p) (hK : c3a M w0) (hM : ∀ g ∈ M, g < w0.heap.size) :
 R0a Tryz.prog 73 #[.agg cs.toArray] w0 fun v w' => v = .int .i64 0 ∧ Below w0.heap.size w0 w' := by
 obtain ⟨Ac, nc, cc, Am, nm, cm, Al, nl, cl, At, nt, ct, rfl, hC, _, hLk, _, _, _, _, _, _, _, _, _⟩ := hP.open_
 have S := St.refl w0
 have hM' : ∀ w' : World, w0.heap.size ≤ w'.heap.size → ∀ g ∈ M, g < w'.heap.size := fun w' h g hg => by have := hM g hg; omega
 have hdis : p.locks.Pairwise fun a b => Value.int .i64 a.cell ≠ .int .i64 b.cell := hp.lockCells.imp fun h e => h (by injection e)
 refine a0a Tryz.func73 rfl Tryz.ntmps73 rfl ?_
 refine wO0 rfl ⟨⟩ (m0a S (by conv => lhs; whnf) rfl ?_)
 intro g1 w1 S1 X1 G1
 refine lO0 rfl ⟨⟩ (s5a (k := 3) S1 rfl ?_)
 intro g8 w8 S8 X8 G8 Mp8
 have hg8 : w0.heap.size ≤ g8 := by have := S1.size; omega
 refine lC S8.k [.o 0] rfl ⟨rfl,⟨⟩⟩ (wL (fun μk D ε w => D = [] ∧ ∃ k : Nat, (k + μk = (p.locks.length)) ∧ (F3a Tryz.prog 3 w g8 (z4a ((p.locks.take k).map fun c => .int .i64 c.cell))) ∧ St [] w0 w [(some g1, 138, [.slice Ac nc cc, .slice Am nm cm, .slice Al nl cl, .slice At nt ct])] ∧ Sl ε [(1, .pointer (some ⟨g1, 0, none⟩)), (3, .map (some g8)), (11, .slice Al nl cl), (12, .int .i64 nl), (13, .int .i64 k)]) (μ := (p.locks.length)) ⟨rfl, 0, by omega, (by simpa [z4a] using Mp8), S8, rfl⟩ ?_)
 rintro μk D ε w ⟨rfl, k, _, Mp8, S, eZ⟩
 refine wK eZ (wB0 rfl ⟨⟩ (fun h14 => ?_) fun h14 => ?_)
 ·obtain ⟨x, b15, p15, _, hxx, hA15, _, hl15, hc15, hr15⟩ := RdS.get (hLk) (k) (by omega)
  obtain ⟨_, _, _, rfl, i115, _, hE15⟩ := n3a.open_ hr15
  have q1 := hp.locks x (f0a hxx)
  have q2 := q1.cell
  have q3 := q2.1
  unfold G2a at q3
  refine lO (S.k.a hc15) [.x b15 p15,.v 0] rfl ⟨⟨rfl,hl15⟩,⟨hA15,by omega⟩,⟨⟩⟩ (k0a S H5c rfl rfl ?_)
  intro g5 w5 S5 X5 G5
  replace Mp8 := Mp8.keep X5 (List.not_mem_nil)
  refine c0a (kk := 0) (vs := [_, _, _, _, _, _]) S5 b5c rfl rfl rfl rfl rfl rfl rfl ?_
  intro w4_3 S4_3 X4_3
  dsimp only [e0a, List.set] at S4_3
  replace Mp8 := Mp8.keep X4_3 (fun hh => by rw [List.mem_singleton] at hh; exact Mp8.ne (S5.blk 0 rfl) hh)
  refine lO S4_3.k [.w 1,.o 0] rfl ⟨rfl,⟨rfl,rfl⟩,⟨⟩⟩ (g0a S4_3 m9a rfl rfl ((show shQ p x.cell = true from decide_eq_true ⟨q3, q2.2.1⟩) ▸ J4a p M _ _ _ (hP.keep (S4_3.keep0 M))) ?_)
  intro w20 S20 X20
  replace Mp8 := Mp8.keep X20 (List.not_mem_nil)
  obtain ⟨c, b28, p28, _, hxc, hA28, _, _, hc28, hr28⟩ := RdS.get (hC) (x.cell.toNat) (by omega)
  obtain ⟨rfl, _, _, _, _⟩ := K2a.open_ hr28
  have q4 := q2.2.2.1
  rw [X9a q3.1 hxc] at q4
  refine lB (S20.k.a hc28) [.o 1,.o 0,.x b28 p28,.f 0 1] rfl ⟨rfl,⟨hA28,by omega⟩,rfl,rfl,⟨⟩⟩ (fun h31 => by exfalso; omega) fun h31 => ?_
  obtain ⟨_, b39, p39, _, hx39, hA39, _, _, hc39, hr39⟩ := RdS.get (hC) (x.cell.toNat) (by omega)
  obtain rfl := Option.some.inj (hxc.symm.trans hx39)
  obtain ⟨rfl, _, _, _, _⟩ := K2a.open_ hr39
  refine lO S20.k [.o 1,.o 0,.x b39 p39] rfl ⟨⟨hA39,by omega⟩,rfl,rfl,⟨⟩⟩ ?_
  refine u0a v2a rfl (v := .bool false) (by have h4 := S20.old (hc39 4 _ rfl); rw [← Z4a hxc, q2.2.2.2] at h4; exact h4) rfl ?_
  refine lO S20.k [.o 0] rfl ⟨rfl,⟨⟩⟩ ?_
  have hk47 := s3c i115
  have hnew := X3a hdis hxx
  refine Y9a (Go.Maps.int_keyed Tryz.underlying3) Tryz.underlying181 c1b Mp8 rfl rfl hk47 rfl (fun v hv => absurd rfl (M4a hnew _ hv)) (fun _ => ?_)
  refine lO0 rfl ⟨⟩ (k0a S20 c1b rfl rfl ?_)
  intro g6 w6 S6 X6 G6
  replace Mp8 := Mp8.keep X6 (List.not_mem_nil)
  refine c0a (kk := 0) (vs := []) S6 r8b rfl rfl rfl rfl rfl rfl rfl ?_
  intro w7_8 S7_8 X7_8
  dsimp only [e0a, List.set] at S7_8
  replace Mp8 := Mp8.keep X7_8 (fun hh => by rw [List.mem_singleton] at hh; exact Mp8.ne (S6.blk 0 rfl) hh)
  refine lO S7_8.k [.o 1,.o 2] rfl ⟨rfl,rfl,⟨⟩⟩ ?_
  refine g0a S7_8 U2a rfl rfl ((show decide (0 ≤ x.module_ ∧ x.module_ < (nm : Int)) = true from decide_eq_true (by have := q1.mod; unfold G2a at this; omega)) ▸ i2a _ _ _) ?_
  intro w58 S58 X58
  replace Mp8 := Mp8.keep X58 (List.not_mem_nil)
  refine lO S58.k [.o 1] rfl ⟨rfl,⟨⟩⟩ (b1a A4b (vs := []) (cs := []) rfl rfl rfl rfl ?_)
  refine B2b (key := .int .i64 x.cell) (v := .agg #[]) S58 (Go.Maps.int_keyed Tryz.underlying3) Tryz.underlying181 Mp8 rfl rfl rfl hk47 (M4a hnew) (.inl hg8) ?_
  intro wm Sm Xm Mm
  clear Mp8
  have Mp8 := Mm
  refine lO Sm.k [.w 2,.o 1,.w 2] rfl ⟨⟨rfl,rfl⟩,rfl,⟨rfl,rfl⟩,⟨⟩⟩ (k2a rfl rfl rfl ?_)
  refine g0a Sm q9a rfl rfl (I9a p x.inv M _ _ _ false _ (shQ p) (hP.keep (Sm.keep0 M)) (RdE.keep (Sm.keep0 M) _ _ hE15) (y3a (hP.keep (Sm.keep0 M))) (hK.keep (Sm.keep0 M)) (hM' _ Sm.size) q1.inv.2.1 q1.inv.1 (b6b hp q1.inv.1 q1.inv.2.2)) ?_
  intro w70 S70 X70
  replace Mp8 := Mp8.keep X70 (List.not_mem_nil)
  refine lP0 rfl ⟨by omega,⟨⟩⟩ ?_
  refine ⟨μk - 1, by omega, rfl, (k + 1), (by omega), ((by rw [h1a hxx, List.map_append, List.map_singleton, P7a]; exact Mp8)), S70.tail.tail, rfl⟩
 exact lT rfl ⟨⟩ rfl ⟨rfl, S.fin⟩
end Go.Proofs.YtjjmdcnmeommbaaGreatDoor
namespace Go.Fw
open Go.RowKit
section
variable {P : Program} {r : Option Nat} {N : Nat} {l : List Oper} {D : List Deferred} {C : World → Prop} {K : List Deferred → Env → World → Prop}
def k4b (l : List Oper) (pur : Nat → Bool) (m : Nat) : Bool :=
 f5a l && ((List.range l.length).all fun i => (j1a l i).all fun j => decide (j < i)) && ((List.range m).all fun i => (List.range i).all fun j => (m4a l i).contains j || M9a l pur j i) && ((List.range m).all fun j => (m4a l m).contains j) && decide (l.length = m + 1)
abbrev j0d {M : List Nat} {w0 w : World} {L : List Ent} (_ : St M w0 w L) : World → Prop := Cl M w0 w L
def n7a (m : Nat) (f : Nat → Bool) : List Nat := (List.range m).filter fun i => !f i
theorem h0b {m : Nat} (f : Nat → Bool) {i : Nat} (hi : i < m) (hf : f i = false) : ∃ pre post, n7a m f = pre ++ i :: post ∧ n7a m (fun j => f j || j == i) = pre ++ post ∧ ∀ j ∈ pre, j < i ∧ f j = false := by
 have hr : List.range m = List.range i ++ i :: (List.range' (i + 1) (m - (i + 1))) := by
  have h1 : m = i + (m - i) := by omega
  have h2 : m - i = (m - (i + 1)) + 1 := by omega
  rw [List.range_eq_range', List.range_eq_range', show List.range' 0 m = List.range' 0 (i + ((m - (i + 1)) + 1)) by rw [← h2, ← h1], ← List.range'_append_1]
  simp [List.range'_succ]
 refine ⟨(List.range i).filter fun j => !f j, (List.range' (i + 1) (m - (i + 1))).filter fun j => !f j, ?_, ?_, ?_⟩
 ·unfold n7a; rw [hr, List.filter_append, List.filter_cons]; simp [hf]
 ·unfold n7a; rw [hr, List.filter_append, List.filter_cons]
  simp only [beq_self_eq_true, Bool.or_true, Bool.not_true, Bool.false_eq_true, if_false]
  congr 1
  ·apply List.filter_congr; intro j hj; have := List.mem_range.1 hj; have : (j == i) = false := by simp; omega
   simp [this]
  ·apply List.filter_congr; intro j hj; have := List.mem_range'.1 hj; have : (j == i) = false := by simp; omega
   simp [this]
 ·intro j hj; rw [List.mem_filter] at hj; exact ⟨List.mem_range.1 hj.1, by simpa using hj.2⟩
theorem E0b {id : Nat} {n t : List Deferred → Env → World → Prop} {b : Nat → List Deferred → Env → World → Prop} {e : Env} {w : World} (hm : P.follows .mixedOrders = true) (pur : Nat → Bool) (ix : List Nat)
 (m : Nat) (hok : k4b l pur m = true) (hix : (List.range m == ix) = true) (C : World → Prop) (ol : Oper) (hol : l[m]? = some ol)
 (h : WM P r N l C pur (fun D e w => WL P r N l.toArray [ol] (fun D' e' w' => D' = D ∧ n D e' w') D e w) D ix e w.drew) : W P r N (.region id l.toArray true) ⟨n, b, t⟩ D e w := by
 obtain rfl : List.range m = ix := eq_of_beq hix
 generalize hKd : (fun (D : List Deferred) (e : Env) (w : World) => WL P r N l.toArray [ol] (fun D' e' w' => D' = D ∧ n D e' w') D e w) = K' at h
 unfold k4b at hok
 simp only [Bool.and_eq_true, decide_eq_true_eq] at hok
 obtain ⟨⟨⟨⟨hpl, hac⟩, hin⟩, hlast⟩, _⟩ := hok
 have hlw : ∀ j, j < m → j ∈ m4a l m := fun j hj => by
  have := List.all_eq_true.1 hlast j (List.mem_range.2 hj)
  simpa using this
 have hz : (∀ i, N ≤ i → e i = undef) → W P r N (.region id l.toArray true) ⟨n, b, t⟩ D e w := by
  intro hz
  refine I7b hm hac (fun f e w => (∀ i, N ≤ i → e i = undef) ∧ (∀ i, f i = true → ∀ j ∈ j1a l i, f j = true) ∧ ((f m = false ∧ WM P r N l C pur K' D (n7a m f) e w) ∨ (f m = true ∧ n D e w))) ⟨hz, by simp, .inl ⟨rfl, ?_⟩⟩ ?_ ?_
  ·have : n7a m (fun _ => false) = List.range m := by unfold n7a; simp
   rw [this]; exact h
  ·rintro f e w i o ⟨hz, hcl, hM⟩ ho hfi hpr
   have hil0 : i < l.length := (List.getElem?_eq_some_iff.1 ho).1
   have hcl' : ∀ k, (f k || k == i) = true → ∀ j ∈ j1a l k, (f j || j == i) = true := by
    intro k hk j hj
    simp only [Bool.or_eq_true, beq_iff_eq] at hk ⊢
    rcases hk with hk | rfl
    ·exact .inl (hcl k hk j hj)
    ·exact .inl (hpr j hj)
   rcases hM with ⟨hfm, hM⟩ | ⟨hfm, -⟩
   rotate_left
   ·have := E3a hcl l.length (j1a l m) (hcl m hfm) i (hlw i (by
     rcases Nat.lt_or_ge i m with h | h
     ·exact h
     ·have : i = m := by omega
      subst this; rw [hfi] at hfm; cases hfm))
    rw [hfi] at this; cases this
   by_cases him : i = m
   ·subst him
    obtain rfl : ol = o := Option.some.inj (hol.symm.trans ho)
    have hall : ∀ j, j < i → f j = true := fun j hj => E3a hcl _ _ hpr j (hlw j hj)
    have hrem : n7a i f = [] := by
     unfold n7a; rw [List.filter_eq_nil_iff]; intro j hj; simp [hall j (List.mem_range.1 hj)]
    rw [hrem] at hM
    have h4 := hM.2
    rw [← hKd] at h4
    clear hM h hKd
    unfold WL at *
    refine fun a Q hs hD he hK => h4 a Q hs hD he (fun a' w' hs' hh => hK a' w' hs' ?_)
    refine ⟨hh.1, fun j hj => ?_, hcl', .inr ⟨by simp, hh.2⟩⟩
    simp only [S0a, Array.getD_eq_getD_getElem?]; rw [Array.getElem?_eq_none (by omega)]; rfl
   have hil : i < m := by omega
   have hfm' : (f m || m == i) = false := by simp [hfm]; omega
   obtain ⟨pre, _, h1, h2, h3⟩ := h0b (m := m) f hil hfi
   rw [h1] at hM
   have hwt : ∀ j ∈ m4a l i, f j = true := E3a hcl _ _ hpr
   obtain ⟨o', _, ho', hd, hN, h4⟩ := WM.first hpl pre e w (fun j hj => by
    have := List.all_eq_true.1 (List.all_eq_true.1 hin i (List.mem_range.2 hil)) j (List.mem_range.2 (h3 j hj).1)
    simp only [Bool.or_eq_true, List.contains_eq_mem, decide_eq_true_eq] at this
    rcases this with h | h
    ·have := hwt j h; rw [(h3 j hj).2] at this; cases this
    ·exact h) hz hM
   obtain rfl : o' = o := Option.some.inj (ho'.symm.trans ho)
   rcases h4 with ⟨hpi, v, hv, h4⟩ | ⟨hpi, h4⟩
   ·have hCw := hM.inC
    rcases hv with ⟨hw, hv⟩ | ⟨hw, rfl⟩
    ·unfold WL; intro a Q hs hD he hK
     simp only [wpListIn]
     have hw' : Region.wanted o' (yielded l.toArray a.tmps) = true := by rw [o1a, he]; exact hw
     simp only [hw', if_true]
     refine ⟨z0a _ _ _, ?_⟩
     rw [Oper.semAt_eq _ _ _ (B0a hpl ho).2, j2a, he, hv w hCw, Oper.uponIn_value]
     refine hK _ _ (by simp [Act.put, hd, hs]) ⟨by simp [Act.put, hd, hD], ?_⟩
     rw [hd, d1a v (by rw [hs]; exact hN), he]
     exact ⟨Y1a hN hz, hcl', .inl ⟨hfm', by rw [h2]; exact h4⟩⟩
    ·unfold WL; intro a Q hs hD he hK
     simp only [wpListIn]
     have hw' : Region.wanted o' (yielded l.toArray a.tmps) = false := by rw [o1a, he]; exact hw
     simp only [hw']
     refine ⟨z0a _ _ _, ?_⟩
     refine hK _ _ (by simp [Act.put, hd, hs]) ⟨by simp [Act.put, hd, hD], ?_⟩
     rw [hd, d1a undef (by rw [hs]; exact hN), he]
     exact ⟨Y1a hN hz, hcl', .inl ⟨hfm', by rw [h2]; exact h4⟩⟩
   ·unfold WL at *
    refine fun a Q hs hD he hK => h4 a Q hs hD he (fun a' w' hs' hh => hK a' w' hs' ?_)
    obtain ⟨hDD, v, hv, h5⟩ := hh
    exact ⟨hDD, by rw [hv]; exact Y1a hN hz, hcl', .inl ⟨hfm', by rw [h2]; exact h5⟩⟩
  ·rintro f e w ⟨hz, hcl, hM⟩ hall
   rcases hM with ⟨hfm, -⟩ | ⟨-, hM⟩
   ·have := hall m (by omega); rw [hfm] at this; cases this
   ·exact hM
 unfold W at *
 intro a hs hd he
 refine hz (fun i hi => ?_) a hs hd he
 rw [← he]; simp only [S0a, Array.getD_eq_getD_getElem?]; rw [Array.getElem?_eq_none (by omega)]; rfl
end
end Go.Fw
namespace Go.Fw
open Go.RowKit
theorem RdS.dropped {α : Type} {M : List Nat} {w : World} {size b o n c : Nat} {R : List Value → α → Prop} {l : List α} (h : RdS M w size R (.slice (some ⟨b, o, none⟩) n c) l) (lo : Nat) (hlo : lo ≤ n) :
 RdS M w size R (.slice (some (if c = lo then ⟨b, o, none⟩ else ⟨b, o + lo * size, none⟩)) (n - lo) (c - lo)) (l.drop lo) := by
 obtain ⟨_, _, _, _, h5⟩ := h.at
 refine ⟨_, _, _, rfl, by simp; omega, by omega, by omega, by omega, fun h0 => ?_⟩
 obtain ⟨_, _, hA, hb, hel⟩ := h5 (by omega)
 cases hA
 rw [if_neg (by omega)]
 refine ⟨b, o + lo * size, rfl, hb, fun i x hx => ?_⟩
 rw [List.getElem?_drop] at hx
 obtain ⟨cs, h6, h7, h8⟩ := hel _ x hx
 refine ⟨cs, h6, ?_, h8⟩
 rw [Nat.add_mul, ← Nat.add_assoc] at h7
 exact h7
end Go.Fw
namespace Go.Proofs.YtjjmdcnmeommbaaGreatDoor
open Go.Fw Go.RowKit
theorem g8a (s : m1a) (M : List Nat) (w0 : World) (ss : List Value) (vf : Value) (q : Int → Bool) (hS : A1a M w0 ss s) (hp : o2a Tryz.prog M w0 vf q) (hK : c3a M w0) (hM : ∀ g ∈ M, g < w0.heap.size)
 (hg : Z2a s.guard q = true) (hs : ∀ a ∈ s.set, Z2a a.to q = true) :
 R0a Tryz.prog 208 #[.agg ss.toArray, vf] w0 fun v w' => v = .bool true ∧ Below w0.heap.size w0 w' := by
 obtain ⟨Ag, ng, cg, As, ns, cs', rfl, ⟨_, _, _, _, _⟩, hG, hSet, _, _⟩ := hS.open_
 obtain ⟨f, first, caps, rfl, _, _⟩ := id hp
 have S := St.refl w0
 have hM' : ∀ w' : World, w0.heap.size ≤ w'.heap.size → ∀ g ∈ M, g < w'.heap.size := fun w' h g hg => by have := hM g hg; omega
 refine a0a Tryz.func208 rfl Tryz.ntmps208 rfl ?_
 refine wO0 rfl ⟨⟩ (m0a S (by conv => lhs; whnf) rfl ?_)
 intro g2 w2 S2 X2 G2
 refine lOn 8 S2.k [.o 0] rfl ⟨rfl,⟨⟩⟩ (u1a (by conv => lhs; whnf) rfl ?_)
 refine g0a S2 F7a rfl rfl (hg ▸ T5a _ M _ _ _ q (RdE.keep (S2.keep0 M) _ _ hG) (hp.keep (S2.keep0 M)) (hK.keep (S2.keep0 M)) (hM' _ S2.size)) ?_
 intro w10 S10 X10
 refine lC S10.k [.o 0] rfl ⟨rfl,⟨⟩⟩ (wL (fun μk D ε w => D = [] ∧ ∃ k : Nat, (k + μk = (s.set.length)) ∧ St [] w0 w [(some g2, 88, [.int .i64 s.kind, .int .i64 s.frm, .int .i64 s.to, .int .i64 s.guard.op, .int .i64 s.guard.w, .int .i64 s.guard.n, .slice Ag ng cg, .slice As ns cs', .bool s.release, .int .i64 s.target, .int .i64 s.module_])] ∧ Sl ε [(1, .func (.func f) first caps), (13, .slice As ns cs'), (14, .int .i64 ns), (15, .int .i64 k)]) (μ := (s.set.length)) ⟨rfl, 0, by omega, S10, rfl⟩ ?_)
 rintro μk D ε w ⟨rfl, k, _, S, eZ⟩
 refine wK eZ (wB0 rfl ⟨⟩ (fun h16 => ?_) fun h16 => ?_)
 ·obtain ⟨a, b17, p17, _, hxa, hA17, _, hl17, hc17, hr17⟩ := RdS.get (hSet) (k) (by omega)
  obtain ⟨_, _, _, rfl, _, hE17⟩ := Q0a.open_ hr17
  refine lO (S.k.a hc17) [.x b17 p17,.v 0] rfl ⟨⟨rfl,hl17⟩,⟨hA17,by omega⟩,⟨⟩⟩ (k0a S R3b rfl rfl ?_)
  intro g6 w6 S6 X6 G6
  refine c0a (kk := 0) (vs := [_, _, _, _, _]) S6 V3b rfl rfl rfl rfl rfl rfl rfl ?_
  intro w5_3 S5_3 X5_3
  dsimp only [e0a, List.set] at S5_3
  refine lO S5_3.k [.o 0] rfl ⟨rfl,⟨⟩⟩ (g0a S5_3 F7a rfl rfl ((hs a (f0a hxa)) ▸ T5a _ M _ _ _ q (RdE.keep (S5_3.keep0 M) _ _ hE17) (hp.keep (S5_3.keep0 M)) (hK.keep (S5_3.keep0 M)) (hM' _ S5_3.size)) ?_)
  intro w22 S22 X22
  refine lP0 rfl ⟨by omega,⟨⟩⟩ ⟨μk - 1, by omega, rfl, (k + 1), (by omega), S22.tail, rfl⟩
 exact lT rfl ⟨⟩ rfl ⟨rfl, S.fin⟩
theorem Q9a (l : List N1a) (M : List Nat) (w0 : World) (v vf : Value) (q : Int → Bool) (hS : Y6c M w0 v l) (hp : o2a Tryz.prog M w0 vf q) (hs : ∀ a ∈ l, q a.cell = true) :
 R0a Tryz.prog 209 #[v, vf] w0 fun v w' => v = .bool true ∧ Below w0.heap.size w0 w' := by
 obtain ⟨As, ns, cs', rfl⟩ := hS.form
 obtain ⟨_, _, _⟩ := hS.len
 obtain ⟨f, first, caps, rfl, _, _⟩ := id hp
 have S := St.refl w0
 refine a0a Tryz.func209 rfl Tryz.ntmps209 rfl ?_
 refine wC0 rfl ⟨⟩ (wL (fun μk D ε w => D = [] ∧ ∃ k : Nat, (k + μk = (l.length)) ∧ St [] w0 w [] ∧ Sl ε [(1, .func (.func f) first caps), (7, .slice As ns cs'), (8, .int .i64 ns), (9, .int .i64 k)]) (μ := (l.length)) ⟨rfl, 0, by omega, S, rfl⟩ ?_)
 rintro μk D ε w ⟨rfl, k, _, S, eZ⟩
 refine wK eZ (wB0 rfl ⟨⟩ (fun h10 => ?_) fun h10 => ?_)
 ·obtain ⟨a, b11, p11, _, hxa, hA11, _, hl11, hc11, hr11⟩ := RdS.get (hS) (k) (by omega)
  obtain ⟨_, _, _, rfl, ia11, _⟩ := Q0a.open_ hr11
  refine lO (S.k.a hc11) [.x b11 p11,.v 0] rfl ⟨⟨rfl,hl11⟩,⟨hA11,by omega⟩,⟨⟩⟩ (k0a S R3b rfl rfl ?_)
  intro g6 w6 S6 X6 G6
  first | refine c0a (kk := 0) (vs := [_, _, _, _, _]) S6 V3b rfl rfl rfl rfl rfl rfl rfl ?_
  intro w3_3 S3_3 X3_3
  dsimp only [e0a, List.set] at S3_3
  refine lO S3_3.k [.o 0] rfl ⟨rfl,⟨⟩⟩ (Q8a S3_3 (hp.keep (S3_3.keep0 M)) rfl rfl (ia11) (hs a (f0a hxa)) rfl (fun w16 S16 X16 => ?_))
  refine lP0 rfl ⟨by omega,⟨⟩⟩ ⟨μk - 1, by omega, rfl, (k + 1), (by omega), S16.tail, rfl⟩
 exact lT rfl ⟨⟩ rfl ⟨rfl, S.fin⟩
theorem n5c (e : E) (M : List Nat) (w0 : World) (cs : List Value) (hR : RdE M w0 e cs) (he : e = ⟨1, 1, 1, []⟩) : R0a Tryz.prog 214 #[.agg cs.toArray] w0 fun v w' => v = .bool true ∧ Below w0.heap.size w0 w' := by
 obtain ⟨_, n, _, rfl, _, _, _, _, _⟩ := hR.cells
 have e1 : e.op = 1 := by rw [he]
 have e2 : e.w = 1 := by rw [he]
 have e3 : e.n = 1 := by rw [he]
 have e4 : e.kids.length = 0 := by rw [he]; rfl
 have S := St.refl w0
 refine a0a Tryz.func214 rfl Tryz.ntmps214 rfl ?_
 refine wO0 rfl ⟨⟩ (m0a S (by conv => lhs; whnf) rfl ?_)
 intro g1 w1 S1 X1 G1
 refine lB S1.k [.o 0] rfl ⟨rfl,⟨⟩⟩ (fun h5 => ?_) (fun h5 => by exfalso; omega)
 refine lB S1.k [.o 0] rfl ⟨rfl,⟨⟩⟩ (fun h9 => ?_) (fun h9 => by exfalso; omega)
 refine lB S1.k [.o 0] rfl ⟨rfl,⟨⟩⟩ (fun h14 => ?_) (fun h14 => by exfalso; omega)
 refine lB S1.k [.o 0] rfl ⟨rfl,⟨⟩⟩ (fun h20 => ?_) (fun h20 => by exfalso; omega)
 exact lT rfl ⟨⟩ rfl ⟨rfl, S1.fin⟩
theorem i6b (s : m1a) (M : List Nat) (w0 : World) (ss : List Value) (hS : A1a M w0 ss s) (hg : s.guard = ⟨1, 1, 1, []⟩) (hs : s.set = []) :
 R0a Tryz.prog 212 #[.agg ss.toArray] w0 fun v w' => v = .bool true ∧ Below w0.heap.size w0 w' := by
 obtain ⟨_, _, _, _, _, _, rfl, ⟨_, _, _, _, _⟩, hG, _, hns, _⟩ := hS.open_
 have S := St.refl w0
 rw [hs] at hns
 simp only [List.length_nil] at hns
 refine a0a Tryz.func212 rfl Tryz.ntmps212 rfl ?_
 refine wO0 rfl ⟨⟩ (m0a S (by conv => lhs; whnf) rfl ?_)
 intro g1 w1 S1 X1 G1
 refine lO S1.k [.o 0] rfl ⟨rfl,⟨⟩⟩ (g0a S1 k6c rfl rfl (n5c _ M _ _ (RdE.keep (S1.keep0 M) _ _ hG) hg) ?_)
 intro w5 S5 X5
 refine lB S5.k [.o 0] rfl ⟨rfl,⟨⟩⟩ (fun h10 => ?_) (fun h10 => by exfalso; omega)
 exact lT rfl ⟨⟩ rfl ⟨rfl, S5.fin⟩
theorem h2c {p : d0a} {s : m1a} {t : Int} {z : Bool} (h : ∀ (i : Nat) (hi : i < s.set.length), 0 < i ∨ s.kind ≠ 2 → p5a p.cells (s.set[i]).to z t) {k : Nat} {a : N1a} (ha : s.set[k + 1]? = some a) : p5a p.cells a.to z t := by
 obtain ⟨h1, rfl⟩ := List.getElem?_eq_some_iff.1 ha
 exact h _ h1 (.inl (by omega))
structure W6a (p : d0a) (t : Nat) (x : J0a) (s : m1a) (M : List Nat) (w : World) (cs ss : List Value) : Prop where
 prog : g1a M w p cs
 step : A1a M w ss s
 ok : T0a p
 sok : F4a p t x.points s
 masks : c3a M w
 low : ∀ g ∈ M, g < w.heap.size
theorem b3b (p : d0a) (t : Nat) (x : J0a) (s : m1a) (M : List Nat) (w0 : World) (cs ss : List Value) (h : W6a p t x s M w0 cs ss) (hk : s.kind = 1) :
 R0a Tryz.prog 195 #[.agg cs.toArray, .int .i64 t, .agg ss.toArray] w0 fun v w' => v = .bool true ∧ Below w0.heap.size w0 w' := by
 obtain ⟨hP, hS, hp, hso, hK, hM⟩ := h
 obtain ⟨_, _, _, _, _, _, _, _, _, _, _, _, rfl, _, _, _, _, _, _, _, _, _, _, _, _⟩ := hP.open_
 obtain ⟨_, _, _, _, _, _, rfl, ⟨_, _, _, _, _⟩, _, hSet, _, _⟩ := hS.open_
 have S := St.refl w0
 have hM' : ∀ w' : World, w0.heap.size ≤ w'.heap.size → ∀ g ∈ M, g < w'.heap.size := fun w' h g hg => by have := hM g hg; omega
 have h4 : decide (s.kind = 4) = false := decide_eq_false (by omega)
 have hvg : Z2a s.guard (R8a p t) = true := E7a hp hso.guard.1 (h4 ▸ hso.row.guard)
 have hvs : ∀ a ∈ s.set, Z2a a.to (R8a p t) = true := fun a ha => by
  obtain ⟨i, hi, rfl⟩ := List.getElem_of_mem ha
  exact E7a hp (hso.set _ ha).2.1 (h4 ▸ hso.row.vals i hi (.inr (by omega)))
 have hcs : ∀ a ∈ s.set, R8a p t a.cell = true := fun a ha => decide_eq_true ⟨(hso.set a ha).1, hso.row.k1 hk a ha⟩
 refine a0a Tryz.func195 rfl Tryz.ntmps195 rfl ?_
 refine wO0 rfl ⟨⟩ (m0a S (by conv => lhs; whnf) rfl ?_)
 intro g3 w3 S3 X3 G3
 refine m0a S3 (by conv => lhs; whnf) rfl ?_
 intro g5 w5 S5 X5 G5
 refine lO S5.k [.w 1] rfl ⟨⟨rfl,by rfl⟩,⟨⟩⟩ (F0a S5 B1b rfl rfl (A1b p t M _ _ (hP.keep (S5.keep0 M)) (hM' _ S5.size)) ?_)
 rintro v10 w10 hq S10 X10
 obtain ⟨_, _, _, rfl, _, _⟩ := id hq
 refine lO S10.k [.w 0] rfl ⟨⟨rfl,by rfl⟩,⟨⟩⟩ (g0a S10 b5b rfl rfl (g8a s M _ _ _ (R8a p t) (A1a.keep (S10.keep0 M) _ _ hS) hq (hK.keep (S10.keep0 M)) (hM' _ S10.size) hvg hvs) ?_)
 intro w13 S13 X13
 replace hq := hq.keep (X13.of_nil)
 refine lO S13.k [.o 0] rfl ⟨rfl,⟨⟩⟩ (g0a S13 o5b rfl rfl (Q9a s.set M _ _ _ (R8a p t) (RdS.keepW hSet (S13.keep0 M) (Q0a.keep (S13.keep0 M))) hq hcs) ?_)
 intro w18 S18 X18
 exact lT rfl ⟨⟩ rfl ⟨rfl, S18.fin⟩
theorem s2b (p : d0a) (t : Nat) (x : J0a) (s : m1a) (M : List Nat) (w0 : World) (cs ss : List Value) (h : W6a p t x s M w0 cs ss) (hk : s.kind = 4) :
 R0a Tryz.prog 198 #[.agg cs.toArray, .int .i64 t, .agg ss.toArray] w0 fun v w' => v = .bool true ∧ Below w0.heap.size w0 w' := by
 obtain ⟨hP, hS, hp, hso, hK, hM⟩ := h
 obtain ⟨_, _, _, _, _, _, _, _, _, _, _, _, rfl, _, _, _, _, _, _, _, _, _, _, _, _⟩ := hP.open_
 obtain ⟨_, _, _, _, _, _, rfl, ⟨_, _, _, _, _⟩, _, hSet, _, _⟩ := hS.open_
 have S := St.refl w0
 have hM' : ∀ w' : World, w0.heap.size ≤ w'.heap.size → ∀ g ∈ M, g < w'.heap.size := fun w' h g hg => by have := hM g hg; omega
 have h4 : decide (s.kind = 4) = true := decide_eq_true (by omega)
 have hvg : Z2a s.guard (y2b p t) = true := X1b hp hso.guard.1 (h4 ▸ hso.row.guard)
 have hvs : ∀ a ∈ s.set, Z2a a.to (y2b p t) = true := fun a ha => by
  obtain ⟨i, hi, rfl⟩ := List.getElem_of_mem ha
  exact X1b hp (hso.set _ ha).2.1 (h4 ▸ hso.row.vals i hi (.inr (by omega)))
 have hcs : ∀ a ∈ s.set, y2b p t a.cell = true := fun a ha => by
  unfold y2b shQ R8a
  rw [Bool.or_eq_true, decide_eq_true_eq, decide_eq_true_eq]
  rcases hso.row.cells a ha with h | h
  ·exact .inr ⟨(hso.set a ha).1, h⟩
  ·exact .inl ⟨(hso.set a ha).1, h⟩
 refine a0a Tryz.func198 rfl Tryz.ntmps198 rfl ?_
 refine wO0 rfl ⟨⟩ (m0a S (by conv => lhs; whnf) rfl ?_)
 intro g3 w3 S3 X3 G3
 refine m0a S3 (by conv => lhs; whnf) rfl ?_
 intro g5 w5 S5 X5 G5
 refine lO S5.k [.w 1] rfl ⟨⟨rfl,by rfl⟩,⟨⟩⟩ (F0a S5 n5b rfl rfl (B6a p t M _ _ (hP.keep (S5.keep0 M)) (hM' _ S5.size)) ?_)
 rintro v10 w10 hq S10 X10
 obtain ⟨_, _, _, rfl, _, _⟩ := id hq
 refine lO S10.k [.w 0] rfl ⟨⟨rfl,by rfl⟩,⟨⟩⟩ (g0a S10 b5b rfl rfl (g8a s M _ _ _ (y2b p t) (A1a.keep (S10.keep0 M) _ _ hS) hq (hK.keep (S10.keep0 M)) (hM' _ S10.size) hvg hvs) ?_)
 intro w13 S13 X13
 replace hq := hq.keep (X13.of_nil)
 refine lO S13.k [.o 0] rfl ⟨rfl,⟨⟩⟩ (g0a S13 o5b rfl rfl (Q9a s.set M _ _ _ (y2b p t) (RdS.keepW hSet (S13.keep0 M) (Q0a.keep (S13.keep0 M))) hq hcs) ?_)
 intro w18 S18 X18
 exact lT rfl ⟨⟩ rfl ⟨rfl, S18.fin⟩
theorem w3b (p : d0a) (t : Nat) (x : J0a) (s : m1a) (M : List Nat) (w0 : World) (cs ss : List Value) (h : W6a p t x s M w0 cs ss) (hk : 5 ≤ s.kind) :
 R0a Tryz.prog 199 #[.agg cs.toArray, .int .i64 t, .agg ss.toArray] w0 fun v w' => v = .bool true ∧ Below w0.heap.size w0 w' := by
 obtain ⟨hP, hS, _, hso, _, _⟩ := h
 obtain ⟨_, _, _, _, _, _, _, _, _, _, _, _, rfl, _, _, _, _, _, _, _, _, _, _, _, _⟩ := hP.open_
 obtain ⟨_, _, _, _, _, _, rfl, ⟨_, _, _, _, _⟩, _, _, _, _⟩ := hS.open_
 have S := St.refl w0
 refine a0a Tryz.func199 rfl Tryz.ntmps199 rfl ?_
 refine wO0 rfl ⟨⟩ (m0a S (by conv => lhs; whnf) rfl ?_)
 intro g3 w3 S3 X3 G3
 refine m0a S3 (by conv => lhs; whnf) rfl ?_
 intro g5 w5 S5 X5 G5
 refine lO S5.k [.w 0] rfl ⟨⟨rfl,by rfl⟩,⟨⟩⟩ (g0a S5 f8b rfl rfl (i6b s M _ _ (A1a.keep (S5.keep0 M) _ _ hS) (hso.row.k5 hk).2 (hso.row.k5 hk).1) ?_)
 intro w8 S8 X8
 exact lT rfl ⟨⟩ rfl ⟨rfl, S8.fin⟩
theorem n0b (p : d0a) (t : Nat) (x : J0a) (s : m1a) (M : List Nat) (w0 : World) (cs ss : List Value) (h : W6a p t x s M w0 cs ss) (hk : 6 ≤ s.kind) :
 R0a Tryz.prog 201 #[.agg cs.toArray, .int .i64 t, .agg ss.toArray] w0 fun v w' => v = .bool true ∧ Below w0.heap.size w0 w' := by
 obtain ⟨hP, hS, _, hso, _, _⟩ := h
 obtain ⟨_, _, _, _, _, _, _, _, _, _, nt, _, rfl, _, _, _, _, _, _, _, _, _, _, _, _⟩ := hP.open_
 obtain ⟨_, _, _, _, _, _, rfl, ⟨_, _, _, _, _⟩, _, _, _, _⟩ := hS.open_
 have S := St.refl w0
 have h6 := hso.row.k6 hk
 have h61 := h6.1
 have h62 := h6.2
 unfold G2a at h61
 refine a0a Tryz.func201 rfl Tryz.ntmps201 rfl ?_
 refine wO0 rfl ⟨⟩ (m0a S (by conv => lhs; whnf) rfl ?_)
 intro g3 w3 S3 X3 G3
 refine m0a S3 (by conv => lhs; whnf) rfl ?_
 intro g5 w5 S5 X5 G5
 refine lO S5.k [.w 0] rfl ⟨⟨rfl,by rfl⟩,⟨⟩⟩ (g0a S5 f8b rfl rfl (i6b s M _ _ (A1a.keep (S5.keep0 M) _ _ hS) (hso.row.k5 (by omega)).2 (hso.row.k5 (by omega)).1) ?_)
 intro w8 S8 X8
 refine lB S8.k [.o 0] rfl ⟨rfl,⟨⟩⟩ (fun h13 => ?_) (fun h13 => by exfalso; omega)
 refine lO S8.k [.o 0,.o 1] rfl ⟨rfl,rfl,⟨⟩⟩ (g0a S8 U2a rfl rfl ((show decide (0 ≤ s.target ∧ s.target < (nt : Int)) = true from decide_eq_true (by omega)) ▸ i2a _ _ _) ?_)
 intro w22 S22 X22
 exact lT rfl ⟨⟩ rfl ⟨rfl, S22.fin⟩
theorem r3b (p : d0a) (t : Nat) (x : J0a) (s : m1a) (M : List Nat) (w0 : World) (cs ss : List Value) (h : W6a p t x s M w0 cs ss) (hk : s.kind = 6) :
 R0a Tryz.prog 200 #[.agg cs.toArray, .int .i64 t, .agg ss.toArray] w0 fun v w' => v = .bool true ∧ Below w0.heap.size w0 w' := by
 have h0 := h
 obtain ⟨hP, hS, hp, hso, hK, hM⟩ := h
 obtain ⟨_, _, _, _, _, _, _, _, _, _, _, _, rfl, _, _, _, hTh, _, _, _, _, _, _, _, _⟩ := hP.open_
 obtain ⟨_, _, _, _, _, _, rfl, ⟨_, _, _, _, _⟩, _, _, _, _⟩ := hS.open_
 have S := St.refl w0
 have hM' : ∀ w' : World, w0.heap.size ≤ w'.heap.size → ∀ g ∈ M, g < w'.heap.size := fun w' h g hg => by have := hM g hg; omega
 have h6 := hso.row.k6 (by omega)
 have h61 := h6.1
 unfold G2a at h61
 refine a0a Tryz.func200 rfl Tryz.ntmps200 rfl ?_
 refine wO0 rfl ⟨⟩ (m0a S (by conv => lhs; whnf) rfl ?_)
 intro g3 w3 S3 X3 G3
 refine m0a S3 (by conv => lhs; whnf) rfl ?_
 intro g5 w5 S5 X5 G5
 refine lO S5.k [.w 1,.w 0] rfl ⟨⟨rfl,by rfl⟩,⟨rfl,by rfl⟩,⟨⟩⟩ (g0a S5 W8b rfl rfl (n0b p t x s M _ _ _ ⟨hP.keep (S5.keep0 M), A1a.keep (S5.keep0 M) _ _ hS, hp, hso, hK.keep (S5.keep0 M), hM' _ S5.size⟩ (by omega)) ?_)
 intro w10 S10 X10
 obtain ⟨u, b17, p17, _, hxu, hA17, _, _, hc17, hr17⟩ := RdS.get (hTh) (s.target.toNat) (by omega)
 obtain ⟨_, _, _, _, _, _, _, _, _, _, _, _, rfl, _, _, _, _, _, _, _, _, _, _, _, _, _⟩ := v0a.open_ hr17
 refine lO S10.k [.o 1,.o 0,.x b17 p17] rfl ⟨⟨hA17,by omega⟩,rfl,rfl,⟨⟩⟩ ?_
 refine u0a v2a rfl (v := .bool true) (by have h4 := S10.old (hc17 6 _ rfl); rw [hso.row.k7 hk u hxu] at h4; exact h4) rfl ?_
 exact lT rfl ⟨⟩ rfl ⟨rfl, S10.fin⟩
theorem y4b (p : d0a) (t : Nat) (x : J0a) (s : m1a) (M : List Nat) (w0 : World) (cs ss : List Value) (h : W6a p t x s M w0 cs ss) (hk : s.kind = 2) :
 R0a Tryz.prog 196 #[.agg cs.toArray, .int .i64 t, .agg ss.toArray] w0 fun v w' => v = .bool true ∧ Below w0.heap.size w0 w' := by
 obtain ⟨hP, hS, hp, hso, hK, hM⟩ := h
 obtain ⟨Ac, nc, cc, Am, nm, cm, Al, nl, cl, At, nt, ct, rfl, _, _, _, _, _, _, _, _, _, _, _, _⟩ := hP.open_
 obtain ⟨Ag, ng, cg, _, ns, cs', rfl, ⟨_, _, _, _, _⟩, hG, hSet, _, _⟩ := hS.open_
 have S := St.refl w0
 have hM' : ∀ w' : World, w0.heap.size ≤ w'.heap.size → ∀ g ∈ M, g < w'.heap.size := fun w' h g hg => by have := hM g hg; omega
 have h4 : decide (s.kind = 4) = false := decide_eq_false (by omega)
 have hvg : Z2a s.guard (R8a p t) = true := E7a hp hso.guard.1 (h4 ▸ hso.row.guard)
 obtain ⟨a0, l, hset, ht0, hg0, hop, hsn, hgn, hl⟩ := hso.row.k2 hk
 have hlen : s.set.length = l.length + 1 := by rw [hset]; rfl
 have hm0 : a0 ∈ s.set := by rw [hset]; simp
 have hc0 := (hso.set a0 hm0).1
 have hn0 := U0b (hso.set a0 hm0).2.1 hop
 have hxa0 : s.set[0]? = some a0 := by rw [hset]; rfl
 unfold G2a at hc0
 obtain ⟨_, b0, p0, _, hxy0, rfl, hM0, _, hcc0, hr0⟩ := RdS.get hSet 0 (by omega)
 obtain rfl := Option.some.inj (hxa0.symm.trans hxy0)
 obtain ⟨Ae0, ne0, ce0, rfl, ia0, _⟩ := Q0a.open_ hr0
 have hdl : s.set.drop 1 = l := by rw [hset]; rfl
 have hTl := RdS.dropped hSet 1 (by omega)
 rw [hdl] at hTl
 refine a0a Tryz.func196 rfl Tryz.ntmps196 rfl ?_
 refine wO0 rfl ⟨⟩ (m0a S (by conv => lhs; whnf) rfl ?_)
 intro g3 w3 S3 X3 G3
 refine m0a S3 (by conv => lhs; whnf) rfl ?_
 intro g5 w5 S5 X5 G5
 refine lO S5.k [.w 1] rfl ⟨⟨rfl,rfl⟩,⟨⟩⟩ (F0a S5 B1b rfl rfl (A1b p t M _ _ (hP.keep (S5.keep0 M)) (hM' _ S5.size)) ?_)
 rintro v14 w14 hq S14 X14
 obtain ⟨f, first, caps, rfl, _, _⟩ := id hq
 have K14 := C0a.refl [] w14
 refine lB S14.k [.o 0] rfl ⟨rfl,⟨⟩⟩ (fun h18 => by exfalso; omega) fun h18 => ?_
 refine lO S14.k [.o 0] rfl ⟨rfl,⟨⟩⟩ (g0a S14 F7a rfl rfl (hvg ▸ T5a _ M _ _ _ (R8a p t) (RdE.keep (S14.keep0 M) _ _ hG) (hq.keep K14.of_nil) (hK.keep (S14.keep0 M)) (hM' _ S14.size)) ?_)
 intro w23 S23 X23
 replace K14 := K14.trans X23
 refine lC0 rfl ⟨⟩ (E0b b0a (fun i => [0, 1, 2, 3, 4, 5, 6, 7, 8, 9, 11].contains i) [0, 1, 2, 3, 4, 5, 6, 7, 8, 9, 10, 11] 12 (by kernel_rfl) (by kernel_rfl) (j0d S23) _ rfl ?_)
 have SR4 := S23.drew
 have XR4 : C0a [] w23 w23.drew := z2a _ _
 generalize w23.drew = wR4 at SR4 XR4 ⊢
 replace K14 := K14.trans XR4
 refine w2a ⟨SR4, XR4⟩ rfl rfl rfl ?_
 refine E0a K5b rfl rfl ?_
 refine p0a ?_
 refine w2a ⟨SR4, XR4⟩ rfl rfl rfl ?_
 refine i0a X8b rfl (fun w1 hw => by exact hw.1.cell 0 rfl rfl) rfl ?_
 refine p0a ?_
 refine w2a ⟨SR4, XR4⟩ rfl rfl rfl ?_
 refine j0a W9a.slT rfl (by rfl) rfl (by omega) (by omega) rfl ?_
 refine p0a ?_
 refine w2a ⟨SR4, XR4⟩ rfl rfl rfl ?_
 refine E0a J9b rfl rfl ?_
 refine p0a ?_
 refine w2a ⟨SR4, XR4⟩ rfl rfl rfl ?_
 refine i0a G0a rfl (fun w1 hw => by exact hw.1.old (hcc0 _ _ rfl)) rfl ?_
 refine p0a ?_
 refine w2a ⟨SR4, XR4⟩ rfl rfl rfl ?_
 refine E0a K5b rfl rfl ?_
 refine p0a ?_
 refine w2a ⟨SR4, XR4⟩ rfl rfl rfl ?_
 refine i0a X8b rfl (fun w1 hw => by exact hw.1.cell 0 rfl rfl) rfl ?_
 refine p0a ?_
 refine w2a ⟨SR4, XR4⟩ rfl rfl rfl ?_
 refine j0a W9a.slT rfl (by rfl) rfl (by omega) (by omega) rfl ?_
 refine p0a ?_
 refine w2a ⟨SR4, XR4⟩ rfl rfl rfl ?_
 refine E0a k9b rfl rfl ?_
 refine p0a ?_
 refine w2a ⟨SR4, XR4⟩ rfl rfl rfl ?_
 refine J3a C2a rfl (fun w1 hw => (r1a.sub hcc0 1 4).keep (hw.1.keep0 M) hM0) (by rfl) rfl ?_
 refine p0a ?_
 refine i7b ⟨SR4, XR4⟩ rfl rfl rfl rfl ?_
 refine k0a SR4 J8a rfl rfl ?_
 intro g9 w9 S9 X9 G9
 have GK149 := Nat.le_trans K14.size G9
 have XCw9 := XR4.trans X9
 replace K14 := K14.trans X9
 refine Z0a ⟨rfl, ?_⟩
 refine w2a ⟨S9.tail, XCw9⟩ rfl rfl rfl ?_
 refine J1c (v := .int .i64 _) rfl rfl ?_
 refine p0a ?_
 refine J0b ⟨S9.tail, XCw9⟩ ?_
 refine c0a (kk := 0) (vs := [_, _, _, _]) S9 i6a rfl rfl rfl rfl rfl rfl rfl ?_
 intro w4_12 S4_12 X4_12
 dsimp only [e0a, List.set] at S4_12
 replace K14 := K14.fresh X4_12 (by first | exact GK149)
 refine Z0a ⟨rfl, ?_⟩
 refine fO0 rfl ⟨⟩ (Q8a S4_12 (hq.keep K14.of_nil) rfl rfl (ia0) (decide_eq_true ⟨hc0, ht0⟩) rfl (fun w38 S38 X38 => ?_))
 replace K14 := K14.trans X38
 refine lO S38.k [.w 2] rfl ⟨⟨rfl,rfl⟩,⟨⟩⟩ (g0a S38 x9a rfl rfl (hg0 ▸ E5a p M _ _ _ (hP.keep (S38.keep0 M)) hc0.1 hc0.2) ?_)
 intro w43 S43 X43
 replace K14 := K14.trans X43
 refine lB S43.k [.o 0] rfl ⟨rfl,⟨⟩⟩ (fun h48 => by exfalso; omega) fun h48 => ?_
 refine lO S43.k [.w 2,.o 0] rfl ⟨rfl,⟨rfl,rfl⟩,⟨⟩⟩ (g0a S43 m9a rfl rfl ((show shQ p a0.to.n = true from decide_eq_true ⟨hn0, hsn⟩) ▸ J4a p M _ _ _ (hP.keep (S43.keep0 M))) ?_)
 intro w54 S54 X54
 replace K14 := K14.trans X54
 refine lO S54.k [.w 2,.o 0] rfl ⟨rfl,⟨rfl,rfl⟩,⟨⟩⟩ (g0a S54 x9a rfl rfl (hgn ▸ E5a p M _ _ _ (hP.keep (S54.keep0 M)) hn0.1 hn0.2) ?_)
 intro w61 S61 X61
 replace K14 := K14.trans X61
 refine lO S61.k [.o 1] rfl ⟨rfl,⟨⟩⟩ ?_
 refine x1b (kd := .i64) (lo := 1) (hi := ns) W9a.slT rfl (.inr rfl) (.inl ⟨rfl, rfl⟩) (by omega) (by have := hSet.len; omega) (by have := hSet.len; omega) rfl ?_
 refine lC0 rfl ⟨⟩ (wL (fun μk D ε w => D = [] ∧ ∃ k : Nat, (k + μk = (l.length)) ∧ (C0a [] w14 w) ∧ St [] w0 w [(some g9, 56, [.int .i64 a0.to.op, .int .i64 a0.to.w, .int .i64 a0.to.n, .slice Ae0 ne0 ce0]), (some g5, 88, [.int .i64 s.kind, .int .i64 s.frm, .int .i64 s.to, .int .i64 s.guard.op, .int .i64 s.guard.w, .int .i64 s.guard.n, .slice Ag ng cg, .slice (some ⟨b0, p0, none⟩) ns cs', .bool s.release, .int .i64 s.target, .int .i64 s.module_]), (some g3, 138, [.slice Ac nc cc, .slice Am nm cm, .slice Al nl cl, .slice At nt ct])] ∧ Sl ε [(3, .pointer (some ⟨g3, 0, none⟩)), (7, .func (.func f) first caps), (65, .slice (some (if cs' = 1 then ⟨b0, p0, none⟩ else ⟨b0, p0 + 1 * 5, none⟩)) (ns - 1) (cs' - 1)), (66, .int .i64 (ns - 1 : Nat)), (67, .int .i64 k)]) (μ := (l.length)) ⟨rfl, 0, by omega, K14, S61, rfl⟩ ?_)
 rintro μk D ε w ⟨rfl, k, hk, K14, S, eZ⟩
 refine wK eZ (wB0 rfl ⟨⟩ (fun h68 => ?_) fun h68 => ?_)
 ·obtain ⟨a, b69, p69, _, hxa, hA69, _, hl69, hc69, hr69⟩ := RdS.get (hTl) (k) (by omega)
  obtain ⟨_, _, _, rfl, ia69, hE69⟩ := Q0a.open_ hr69
  have ham := hl a (f0a hxa)
  have hasm : a ∈ s.set := by rw [hset]; exact List.mem_cons_of_mem _ (f0a hxa)
  have hac := (hso.set a hasm).1
  unfold G2a at hac
  have hav : Z2a a.to (R8a p t) = true := E7a hp (hso.set a hasm).2.1 (h4 ▸ h2c hso.row.vals (k := k) (a := a) (by rw [hset]; exact hxa))
  refine lO (S.k.a hc69) [.x b69 p69,.v 0] rfl ⟨⟨rfl,hl69⟩,⟨hA69,by omega⟩,⟨⟩⟩ (k0a S R3b rfl rfl ?_)
  intro g11 w11 S11 X11 G11
  have GK1411 := Nat.le_trans K14.size G11
  replace K14 := K14.trans X11
  refine c0a (kk := 0) (vs := [_, _, _, _, _]) S11 V3b rfl rfl rfl rfl rfl rfl rfl ?_
  intro w9_3 S9_3 X9_3
  dsimp only [e0a, List.set] at S9_3
  replace K14 := K14.fresh X9_3 (by exact GK1411)
  refine lO S9_3.k [.o 0] rfl ⟨rfl,⟨⟩⟩ (Q8a S9_3 (hq.keep K14.of_nil) rfl rfl (ia69) (decide_eq_true ⟨hac, ham.1⟩) rfl (fun w74 S74 X74 => ?_))
  replace K14 := K14.trans X74
  refine lO S74.k [.w 3,.o 0] rfl ⟨rfl,⟨rfl,rfl⟩,⟨⟩⟩ (g0a S74 x9a rfl rfl (ham.2 ▸ E5a p M _ _ _ (hP.keep (S74.keep0 M)) hac.1 hac.2) ?_)
  intro w80 S80 X80
  replace K14 := K14.trans X80
  refine lO S80.k [.o 0] rfl ⟨rfl,⟨⟩⟩ (g0a S80 F7a rfl rfl (hav ▸ T5a _ M _ _ _ (R8a p t) (RdE.keep (S80.keep0 M) _ _ hE69) (hq.keep K14.of_nil) (hK.keep (S80.keep0 M)) (hM' _ S80.size)) ?_)
  intro w87 S87 X87
  replace K14 := K14.trans X87
  refine lP0 rfl ⟨by omega,⟨⟩⟩ ⟨μk - 1, by omega, rfl, (k + 1), (by omega), (K14), S87.tail, rfl⟩
 exact lT rfl ⟨⟩ rfl ⟨rfl, S.fin⟩
end Go.Proofs.YtjjmdcnmeommbaaGreatDoor
namespace Go.Proofs.YtjjmdcnmeommbaaGreatDoor
open Go.Fw Go.RowKit
theorem F2b (p : d0a) (t c : Int) (g g' : Nat) (M : List Nat) (w0 : World) (cs : List Value) (vf : Value) (hP : g1a M w0 p cs) (hg : r1a w0 g 0 cs) (hg' : w0.cell? ⟨g', 0, none⟩ = some vf) (hp : o2a Tryz.prog M w0 vf (y2b p t)) (hc : i64 c) (h0 : 0 ≤ c ∧ c < p.cells.length) (h1 : S0b p.cells c = true) (h2 : y2b p t c = true) :
 R0a Tryz.prog 211 #[.int .i64 c, .pointer (some ⟨g, 0, none⟩), .pointer (some ⟨g', 0, none⟩)] w0 fun v w' => v = .bool true ∧ Below w0.heap.size w0 w' := by
 obtain ⟨_, _, _, _, _, _, _, _, _, _, _, _, rfl, _, _, _, _, _, _, _, _, _, _, _, _⟩ := hP.open_
 have S := St.refl w0
 refine a0a Tryz.func211 rfl Tryz.ntmps211 rfl ?_
 refine wO0 rfl ⟨⟩ ?_
 first | refine m2a e2b rfl ((fun j v hj => S.old (hg j v hj))) (by rfl) rfl ?_
 refine lO0 rfl ⟨⟩ (g0a S x9a rfl rfl (h1 ▸ E5a p M _ _ _ (hP.keep (S.keep0 M)) h0.1 h0.2) ?_)
 intro w7 S7 X7
 refine lO0 rfl ⟨⟩ (u0a d2b rfl (by first | exact S7.old hg') rfl ?_)
 refine lO0 rfl ⟨⟩ (Q8a S7 (hp.keep (S7.keep0 M)) rfl rfl (hc) (h2) rfl (fun w11 S11 X11 => ?_))
 exact lT rfl ⟨⟩ rfl ⟨rfl, S11.fin⟩
theorem E4b (l : List N1a) (M : List Nat) (w0 : World) (v : Value) (f : FuncId) (first caps : Array Value) (hS : Y6c M w0 v l) (hH : Has Tryz.prog f)
 (hf : ∀ w', C0a M w0 w' → ∀ a ∈ l, i64 a.cell → R0a Tryz.prog f (first.toList ++ [Value.int .i64 a.cell] ++ caps.toList).toArray w' fun v w'' => v = .bool true ∧ Below w'.heap.size w' w'') :
 R0a Tryz.prog 209 #[v, .func (.func f) first caps] w0 fun v w' => v = .bool true ∧ Below w0.heap.size w0 w' := by
 obtain ⟨As, ns, cs', rfl⟩ := hS.form
 obtain ⟨_, _, _⟩ := hS.len
 have S := St.refl w0
 refine a0a Tryz.func209 rfl Tryz.ntmps209 rfl ?_
 refine wC0 rfl ⟨⟩ (wL (fun μk D ε w => D = [] ∧ ∃ k : Nat, (k + μk = (l.length)) ∧ St [] w0 w [] ∧ Sl ε [(1, .func (.func f) first caps), (7, .slice As ns cs'), (8, .int .i64 ns), (9, .int .i64 k)]) (μ := (l.length)) ⟨rfl, 0, by omega, S, rfl⟩ ?_)
 rintro μk D ε w ⟨rfl, k, _, S, eZ⟩
 refine wK eZ (wB0 rfl ⟨⟩ (fun h10 => ?_) fun h10 => ?_)
 ·obtain ⟨a, b11, p11, _, hxa, hA11, _, hl11, hc11, hr11⟩ := RdS.get (hS) (k) (by omega)
  obtain ⟨_, _, _, rfl, ia11, _⟩ := Q0a.open_ hr11
  refine lO (S.k.a hc11) [.x b11 p11,.v 0] rfl ⟨⟨rfl,hl11⟩,⟨hA11,by omega⟩,⟨⟩⟩ (k0a S R3b rfl rfl ?_)
  intro g6 w6 S6 X6 G6
  first | refine c0a (kk := 0) (vs := [_, _, _, _, _]) S6 V3b rfl rfl rfl rfl rfl rfl rfl ?_
  intro w3_3 S3_3 X3_3
  dsimp only [e0a, List.set] at S3_3
  refine lO S3_3.k [.o 0] rfl ⟨rfl,⟨⟩⟩ (n9a (vs := first.toList ++ [Value.int .i64 a.cell] ++ caps.toList) hH rfl rfl rfl (hf _ (S3_3.keep0 M) a (f0a hxa) ia11) ?_)
  rintro v16 w16 ⟨rfl, B16⟩
  have S16 := S3_3.later B16
  refine lP0 rfl ⟨by omega,⟨⟩⟩ ⟨μk - 1, by omega, rfl, (k + 1), (by omega), S16.tail, rfl⟩
 exact lT rfl ⟨⟩ rfl ⟨rfl, S.fin⟩
theorem p3b (p : d0a) (t : Nat) (x : J0a) (s : m1a) (M : List Nat) (w0 : World) (cs ss : List Value) (h : W6a p t x s M w0 cs ss) (hk : s.kind = 3) :
 R0a Tryz.prog 197 #[.agg cs.toArray, .int .i64 t, .agg ss.toArray] w0 fun v w' => v = .bool true ∧ Below w0.heap.size w0 w' := by
 obtain ⟨hP, hS, hp, hso, hK, hM⟩ := h
 obtain ⟨_, _, _, _, _, _, _, _, _, _, _, _, rfl, _, _, _, _, _, _, _, _, _, _, _, _⟩ := hP.open_
 obtain ⟨_, _, _, _, ns, _, rfl, ⟨_, _, _, _, _⟩, _, hSet, _, _⟩ := hS.open_
 have S := St.refl w0
 have hM' : ∀ w' : World, w0.heap.size ≤ w'.heap.size → ∀ g ∈ M, g < w'.heap.size := fun w' h g hg => by have := hM g hg; omega
 have h4 : decide (s.kind = 4) = false := decide_eq_false (by omega)
 have hvg : Z2a s.guard (R8a p t) = true := E7a hp hso.guard.1 (h4 ▸ hso.row.guard)
 have hvs : ∀ a ∈ s.set, Z2a a.to (R8a p t) = true := fun a ha => by
  obtain ⟨i, hi, rfl⟩ := List.getElem_of_mem ha
  exact E7a hp (hso.set _ ha).2.1 (h4 ▸ hso.row.vals i hi (.inr (by omega)))
 obtain ⟨a0, l, hset, ht0, hg0, hl⟩ := hso.row.k3 hk
 have hlen : s.set.length = l.length + 1 := by rw [hset]; rfl
 have hm0 : a0 ∈ s.set := by rw [hset]; simp
 have hc0 := (hso.set a0 hm0).1
 have hxa0 : s.set[0]? = some a0 := by rw [hset]; rfl
 unfold G2a at hc0
 obtain ⟨_, _, _, _, hxy0, rfl, _, _, hcc0, hr0⟩ := RdS.get hSet 0 (by omega)
 obtain rfl := Option.some.inj (hxa0.symm.trans hxy0)
 obtain ⟨_, _, _, rfl, _, _⟩ := Q0a.open_ hr0
 have hdl : s.set.drop 1 = l := by rw [hset]; rfl
 have hTl := RdS.dropped hSet 1 (by omega)
 rw [hdl] at hTl
 have hcl : ∀ a ∈ l, (0 ≤ a.cell ∧ a.cell < p.cells.length) ∧ S0b p.cells a.cell = true ∧ y2b p t a.cell = true := fun a ha => by
  have hasm : a ∈ s.set := by rw [hset]; exact List.mem_cons_of_mem _ ha
  refine ⟨(hso.set a hasm).1, hl a ha, ?_⟩
  unfold y2b shQ R8a
  rw [Bool.or_eq_true, decide_eq_true_eq, decide_eq_true_eq]
  rcases hso.row.cells a hasm with h | h
  ·exact .inr ⟨(hso.set a hasm).1, h⟩
  ·exact .inl ⟨(hso.set a hasm).1, h⟩
 refine a0a Tryz.func197 rfl Tryz.ntmps197 rfl ?_
 refine wO0 rfl ⟨⟩ (m0a S (by conv => lhs; whnf) rfl ?_)
 intro g3 w3 S3 X3 G3
 refine m0a S3 (by conv => lhs; whnf) rfl ?_
 intro g5 w5 S5 X5 G5
 refine lC0 rfl ⟨⟩ (x0a b0a [0, 1, 2, 3, 4, 5, 6, 7] [8] [9, 10, 11] (by kernel_rfl) rfl (Cl _ _ _ _) (Cl.start S5) ?_)
 refine qB S5.q [.o 0] rfl ⟨rfl,⟨⟩⟩ (fun h12 => by exfalso; omega) fun h12 => ?_
 refine qN S5.q [.w 0,.w 1] rfl ⟨⟨rfl,by rfl⟩,⟨rfl,by rfl⟩,⟨⟩⟩ (j4a ?_)
 refine s6b (fun v w => o2a Tryz.prog M w v (R8a p t)) rfl rfl B1b rfl (fun v w w' h hk => h.keep hk.of_nil) (fun w1 S1 X1 => A1b p t M _ _ (hP.keep (S1.keep0 M)) (hM' _ S1.size)) ?_
 refine O1a ?_
 rintro wR1 ⟨SR1, _⟩
 rintro v17 hq
 dsimp only [I3a]
 obtain ⟨_, first, _, rfl, _, _⟩ := id hq
 refine lO0 rfl ⟨⟩ (g0a SR1 b5b rfl rfl (g8a s M _ _ _ (R8a p t) (A1a.keep (SR1.keep0 M) _ _ hS) hq (hK.keep (SR1.keep0 M)) (hM' _ SR1.size) hvg hvs) ?_)
 intro w18 S18 X18
 refine lO S18.k [.o 0] rfl ⟨rfl,⟨⟩⟩ (A0a W9a.slT rfl (by rfl) rfl (by omega) (by omega) rfl ?_)
 refine lO0 rfl ⟨⟩ (u0a G0a rfl (by exact S18.old (hcc0 _ _ rfl)) rfl ?_)
 refine lO S18.k [.w 1] rfl ⟨⟨rfl,by rfl⟩,⟨⟩⟩ (g0a S18 m9a rfl rfl ((show shQ p a0.cell = true from decide_eq_true ⟨hc0, ht0⟩) ▸ J4a p M _ _ _ (hP.keep (S18.keep0 M))) ?_)
 intro w28 S28 X28
 refine lO S28.k [.w 1] rfl ⟨⟨rfl,by rfl⟩,⟨⟩⟩ (g0a S28 x9a rfl rfl (hg0 ▸ E5a p M _ _ _ (hP.keep (S28.keep0 M)) hc0.1 hc0.2) ?_)
 intro w33 S33 X33
 refine lO S33.k [.w 1] rfl ⟨⟨rfl,by rfl⟩,⟨⟩⟩ (F0a S33 n5b rfl rfl (B6a p t M _ _ (hP.keep (S33.keep0 M)) (hM' _ S33.size)) ?_)
 rintro v37 w37 hq2 S37 X37
 obtain ⟨_, _, _, rfl, _, _⟩ := id hq2
 have K37 := C0a.refl [] w37
 refine k0a S37 V2c rfl rfl ?_
 intro g8 w8 S8 X8 G8
 have GK378 := Nat.le_trans K37.size G8
 replace K37 := K37.trans X8
 refine w0a (kk := 0) S8 t3c rfl (by conv => lhs; whnf) rfl rfl (by exact Nat.le_of_ble_eq_true rfl) ?_
 intro w6_4 S6_4 X6_4
 replace K37 := K37.fresh X6_4 (by first | exact GK378)
 refine lO S6_4.k [.o 1] rfl ⟨rfl,⟨⟩⟩ ?_
 refine x1b (kd := .i64) (lo := 1) (hi := ns) W9a.slT rfl (.inr rfl) (.inl ⟨rfl, rfl⟩) (by omega) (by have := hSet.len; omega) (by have := hSet.len; omega) rfl ?_
 refine f2a rfl rfl ?_
 refine g0a S6_4 o5b rfl rfl (E4b l M _ _ _ _ _ (RdS.keepW hTl (S6_4.keep0 M) (Q0a.keep (S6_4.keep0 M))) V5c (fun w' hk a ha hia => F2b p t a.cell g3 g8 M w' _ _ (hP.keep ((S6_4.keep0 M).trans hk)) ((S6_4.cells 2 rfl).keep hk (U0a hM (S6_4.new 2 rfl))) (hk.cell (a := ⟨g8, 0, none⟩) (U0a hM (S6_4.new 0 rfl)) (S6_4.cell 0 rfl rfl)) (hq2.keep (K37.of_nil.trans hk)) hia (hcl a ha).1 (hcl a ha).2.1 (hcl a ha).2.2)) ?_
 intro w42 S42 X42
 exact lT rfl ⟨⟩ rfl ⟨rfl, S42.fin⟩
def C6b (k : Int) : Nat := if k = 1 then 195 else if k = 2 then 196 else if k = 3 then 197 else if k = 4 then 198 else if k = 5 then 199 else if k = 6 then 200 else 201
def K8b : Array Value := #[.nilFunc, .func (.func 195) #[] #[], .func (.func 196) #[] #[], .func (.func 197) #[] #[], .func (.func 198) #[] #[], .func (.func 199) #[] #[], .func (.func 200) #[] #[], .func (.func 201) #[] #[]]
theorem w5c (p : d0a) (t : Nat) (x : J0a) (s : m1a) (M : List Nat) (w0 : World) (cs ss : List Value) (h : W6a p t x s M w0 cs ss) :
 R0a Tryz.prog (C6b s.kind) #[.agg cs.toArray, .int .i64 t, .agg ss.toArray] w0 fun v w' => v = .bool true ∧ Below w0.heap.size w0 w' := by
 have hk := h.sok.kind
 rcases (show s.kind = 1 ∨ s.kind = 2 ∨ s.kind = 3 ∨ s.kind = 4 ∨ s.kind = 5 ∨ s.kind = 6 ∨ s.kind = 7 by omega) with e | e | e | e | e | e | e <;> rw [e]
 ·exact b3b p t x s M w0 cs ss h e
 ·exact y4b p t x s M w0 cs ss h e
 ·exact p3b p t x s M w0 cs ss h e
 ·exact s2b p t x s M w0 cs ss h e
 ·exact w3b p t x s M w0 cs ss h (by omega)
 ·exact r3b p t x s M w0 cs ss h e
 ·exact n0b p t x s M w0 cs ss h (by omega)
theorem m7b {k : Int} : Has Tryz.prog (C6b k) := by
 unfold C6b
 repeat' split
 ·exact Q3c
 ·exact S5c
 ·exact J4c
 ·exact M5c
 ·exact G5c
 ·exact w6c
 ·exact W8b
theorem t9b {k : Int} (h1 : 1 ≤ k) (h7 : k ≤ 7) : K8b.extract (k.toNat * 1) (k.toNat * 1 + 1) = #[.func (.func (C6b k)) #[] #[]] := by
 rcases (show k = 1 ∨ k = 2 ∨ k = 3 ∨ k = 4 ∨ k = 5 ∨ k = 6 ∨ k = 7 by omega) with e | e | e | e | e | e | e <;> subst e <;> rfl
theorem v1c (wz : World) : R0a Tryz.prog 165 #[] wz fun v w' => v = .agg K8b ∧ Below wz.heap.size wz w' := by
 have S := St.refl wz
 refine a0a Tryz.func165 rfl Tryz.ntmps165 rfl ?_
 refine wO0 rfl ⟨⟩ (k0a S R7c rfl rfl ?_)
 intro g0 w0 S0 X0 G0
 refine lO0 rfl ⟨⟩ (b1a v6a (vs := [(0, .func _ _ _)]) (cs := [_]) rfl rfl rfl rfl ?_)
 refine b1a v6a (vs := [(0, .func _ _ _)]) (cs := [_]) rfl rfl rfl rfl ?_
 refine b1a v6a (vs := [(0, .func _ _ _)]) (cs := [_]) rfl rfl rfl rfl ?_
 refine b1a v6a (vs := [(0, .func _ _ _)]) (cs := [_]) rfl rfl rfl rfl ?_
 refine b1a v6a (vs := [(0, .func _ _ _)]) (cs := [_]) rfl rfl rfl rfl ?_
 refine b1a v6a (vs := [(0, .func _ _ _)]) (cs := [_]) rfl rfl rfl rfl ?_
 refine b1a v6a (vs := [(0, .func _ _ _)]) (cs := [_]) rfl rfl rfl rfl ?_
 refine c1a (v := .agg K8b) (w' := w0) rfl rfl rfl (by simp) (by kernel_rfl) ?_
 first | refine c0a (kk := 0) (vs := [_, _, _, _, _, _, _, _]) S0 q8c rfl rfl rfl rfl rfl rfl rfl ?_
 intro w1_8 S1_8 X1_8
 dsimp only [e0a, List.set] at S1_8
 refine lR0 rfl ⟨⟩ ?_
 exact t1a (n := 8) rfl (d2a (by rw [Tryz.underlying214]; simp) (by kernel_rfl)) rfl (S1_8.cells 0 rfl) rfl ⟨rfl, S1_8.fin⟩
end Go.Proofs.YtjjmdcnmeommbaaGreatDoor
namespace Go.Fw
open Go.RowKit
section
variable {P : Program} {N : Nat} {ops : Array Oper} {C : World → Prop} {rest : List Oper} {K : Env → Prop} {e : Env} {d : Nat} {t : TypeId} {p : String} {af : Array Edge} {x y : Operand} {kd : IntKind} {a : Int}
theorem L0c {ty len el size : Nat} {cs cs' : Array Value} (hu : P.underlying ty = some (.array len el)) (hsz : ∀ w : World, (sizeOf el).run P w = .ok size w) (ha : ∀ w : World, (isAgg el).run P w = .ok true w) (hx : ev e x = .agg cs) (hy : ev e y = .int kd a) (h0 : 0 ≤ a) (h1 : a < len) (hv : cs.extract (a.toNat * size) (a.toNat * size + size) = cs') (hd : Nat.ble (d + 1) N = true)
 (h : QL P N ops C rest K (upd e d (.agg cs'))) : QL P N ops C (⟨some d, .index ty x y, t, p, af, none⟩ :: rest) K e :=
 j3a rfl rfl hd (fun w _ => by simp [execOp, Instr.index, hx, hy, asIntOf, run_underlying hu, h0, h1, hsz, part, ha, hv]) h
end
theorem C7a {M : List Nat} {w : World} {g : Nat} (hM : ∀ g ∈ M, g < w.heap.size) (h : w.heap.size ≤ g) : g ∉ M := fun hh => by have := hM g hh; omega
end Go.Fw
namespace Go.Proofs.YtjjmdcnmeommbaaGreatDoor
open Go.Fw Go.RowKit
set_option maxRecDepth 100000 in
theorem C0c : ∀ w : World, (sizeOf 213).run Tryz.prog w = .ok 1 w := fun _ => by kernel_rfl
set_option maxRecDepth 100000 in
theorem z2c : ∀ w : World, (isAgg 213).run Tryz.prog w = .ok true w := fun _ => by kernel_rfl
set_option maxHeartbeats 1000000 in
theorem S0c (p : d0a) (t : Nat) (x : J0a) (s : m1a) (M : List Nat) (w0 : World) (cs ss ts : List Value) (h : W6a p t x s M w0 cs ss) (hT : v0a M w0 ts x) (hpt : 1 ≤ x.points) (hpt2 : x.points ≤ 48) :
 R0a Tryz.prog 130 #[.agg cs.toArray, .int .i64 t, .agg ts.toArray, .agg ss.toArray] w0 fun v w' => v = .int .i64 0 ∧ Below w0.heap.size w0 w' := by
 obtain ⟨hP, hS, hp, hso, hK, hM⟩ := h
 obtain ⟨Ac, nc, cc, Am, nm, cm, Al, nl, cl, At, nt, ct, rfl, hC, _, _, _, _, _, _, _, _, _, _, _⟩ := hP.open_
 obtain ⟨Ag, ng, cg, As, ns, cs', rfl, ⟨_, _, _, _, _⟩, hG, hSet, _, _⟩ := hS.open_
 obtain ⟨Aa1, na1, ca1, Am1, nm1, cm1, As1, ns1, cs1, Al1, nl1, cl1, rfl, _, _, _, _, _, _, _, _, _, _, _, _, _⟩ := hT.open_
 have S := St.refl w0
 have hM' : ∀ w' : World, w0.heap.size ≤ w'.heap.size → ∀ g ∈ M, g < w'.heap.size := fun w' h g hg => by have := hM g hg; omega
 have k0 := hso.kind
 have k1 := hso.frm
 have k2 := hso.to
 have k3 := hso.mod
 have k4 := hso.rel
 have k5 := hso.tgt
 have k6 := hso.guard
 unfold G2a at k3
 have hdis : s.set.Pairwise fun a b => Value.int .i64 a.cell ≠ .int .i64 b.cell := hso.once.imp fun h e => h (by injection e)
 refine a0a Tryz.func130 rfl Tryz.ntmps130 rfl ?_
 refine wO0 rfl ⟨⟩ (m0a S (by conv => lhs; whnf) rfl ?_)
 intro g4 w4 S4 X4 G4
 refine m0a S4 (by conv => lhs; whnf) rfl ?_
 intro g6 w6 S6 X6 G6
 refine m0a S6 (by conv => lhs; whnf) rfl ?_
 intro g7 w7 S7 X7 G7
 refine lCn 3 S7.k [] rfl ⟨⟩ (wX (fun D ε w => D = [] ∧ ∃ aim : Bool, (s.kind = 6 ∨ s.kind = 7 → aim = true) ∧ St [] w0 w [(some g7, 88, [.int .i64 s.kind, .int .i64 s.frm, .int .i64 s.to, .int .i64 s.guard.op, .int .i64 s.guard.w, .int .i64 s.guard.n, .slice Ag ng cg, .slice As ns cs', .bool s.release, .int .i64 s.target, .int .i64 s.module_]), (some g6, 60, [.string x.name, .int .i64 x.points, .slice Aa1 na1 ca1, .slice Am1 nm1 cm1, .slice As1 ns1 cs1, .slice Al1 nl1 cl1, .bool x.asleep]), (some g4, 138, [.slice Ac nc cc, .slice Am nm cm, .slice Al nl cl, .slice At nt ct])] ∧ Sl ε [(1, .int .i64 t), (4, .pointer (some ⟨g4, 0, none⟩)), (6, .pointer (some ⟨g6, 0, none⟩)), (7, .pointer (some ⟨g7, 0, none⟩)), (9, .bool aim)]) ?_ ?_)
 ·refine wB S7.k [.o 0] rfl ⟨rfl,⟨⟩⟩ (fun h17 => ?_) fun h17 => ?_
  ·refine lP0 rfl ⟨⟩ ⟨rfl, (_), ?_, S7, rfl⟩
   exact fun _ => rfl
  refine lB S7.k [.o 0] rfl ⟨rfl,⟨⟩⟩ (fun h21 => ?_) fun h21 => ?_
  ·refine lP0 rfl ⟨⟩ ⟨rfl, (_), ?_, S7, rfl⟩
   exact fun _ => rfl
  refine lP0 rfl ⟨⟩ ⟨rfl, (_), ?_, S7, rfl⟩
  exact fun h => absurd h (by omega)
 rintro D ε w ⟨rfl, aim, haim, S, eZ⟩
 refine wK eZ (wX (fun D ε w => D = [] ∧ St [] w0 w [(some g7, 88, [.int .i64 s.kind, .int .i64 s.frm, .int .i64 s.to, .int .i64 s.guard.op, .int .i64 s.guard.w, .int .i64 s.guard.n, .slice Ag ng cg, .slice As ns cs', .bool s.release, .int .i64 s.target, .int .i64 s.module_]), (some g6, 60, [.string x.name, .int .i64 x.points, .slice Aa1 na1 ca1, .slice Am1 nm1 cm1, .slice As1 ns1 cs1, .slice Al1 nl1 cl1, .bool x.asleep]), (some g4, 138, [.slice Ac nc cc, .slice Am nm cm, .slice Al nl cl, .slice At nt ct])] ∧ Sl ε [(1, .int .i64 t), (4, .pointer (some ⟨g4, 0, none⟩)), (7, .pointer (some ⟨g7, 0, none⟩))]) ?_ ?_)
 ·refine wB S.k [.o 0] rfl ⟨rfl,⟨⟩⟩ (fun h26 => by exfalso; omega) fun h26 => ?_
  refine lB S.k [.o 0] rfl ⟨rfl,⟨⟩⟩ (fun h29 => by exfalso; omega) fun h29 => ?_
  refine lO S.k [.o 0,.o 1] rfl ⟨by omega,rfl,rfl,⟨⟩⟩ (g0a S U2a rfl rfl ((show decide (0 ≤ s.frm ∧ s.frm < x.points - 1) = true from decide_eq_true (by omega)) ▸ i2a _ _ _) ?_)
  intro w36 S36 X36
  refine lO S36.k [.o 0,.o 1] rfl ⟨rfl,rfl,⟨⟩⟩ (g0a S36 U2a rfl rfl ((show decide (0 ≤ s.to ∧ s.to < x.points) = true from decide_eq_true (by omega)) ▸ i2a _ _ _) ?_)
  intro w42 S42 X42
  refine lO S42.k [.o 0,.o 2] rfl ⟨rfl,rfl,⟨⟩⟩ (g0a S42 U2a rfl rfl ((show decide (0 ≤ s.module_ ∧ s.module_ < (nm : Int)) = true from decide_eq_true (by omega)) ▸ i2a _ _ _) ?_)
  intro w50 S50 X50
  refine lO0 rfl ⟨⟩ ?_
  rcases (Bool.eq_false_or_eq_true (s.release)).symm with hb54 | hb54
  ·refine u0a v2a rfl (by exact (S50.cell 0 rfl rfl).trans (congrArg (fun b => some (Value.bool b)) hb54)) rfl ?_
   refine lB S50.k [.o 0] rfl ⟨rfl,⟨⟩⟩ (fun h62 => ?_) fun h62 => ?_
   ·refine lOn 1 S50.k [] rfl ⟨⟩ (P1b rfl rfl rfl ?_)
    have haimT := haim (k5 h62)
    subst haimT
    refine u1a (v := .bool true) rfl rfl ?_
    refine lB S50.k [.o 0] rfl ⟨rfl,⟨⟩⟩ (fun h71 => by exfalso; omega) fun h71 => ?_
    refine lO S50.k [.o 0,.o 2] rfl ⟨rfl,rfl,⟨⟩⟩ (g0a S50 F6a rfl rfl (k6.1 ▸ x3a s.guard M _ _ _ p.cells false (RdE.keep (S50.keep0 M) _ _ hG) (hC.keep (S50.keep0 M)) (hK.keep (S50.keep0 M))) ?_)
    intro w77 S77 X77
    refine lP0 rfl ⟨⟩ ⟨rfl, S77, rfl⟩
   refine lB S50.k [.o 0] rfl ⟨rfl,⟨⟩⟩ (fun h71 => by exfalso; omega) fun h71 => ?_
   refine lO S50.k [.o 0,.o 2] rfl ⟨rfl,rfl,⟨⟩⟩ (g0a S50 F6a rfl rfl (k6.1 ▸ x3a s.guard M _ _ _ p.cells false (RdE.keep (S50.keep0 M) _ _ hG) (hC.keep (S50.keep0 M)) (hK.keep (S50.keep0 M))) ?_)
   intro w77 S77 X77
   refine lP0 rfl ⟨⟩ ⟨rfl, S77, rfl⟩
  refine u0a v2a rfl (by exact (S50.cell 0 rfl rfl).trans (congrArg (fun b => some (Value.bool b)) hb54)) rfl ?_
  refine lB S50.k [.o 0] rfl ⟨rfl,⟨⟩⟩ (fun h58 => by exact absurd (k4 hb54) h58) (fun h58 => ?_)
  refine lB S50.k [.o 0] rfl ⟨rfl,⟨⟩⟩ (fun h62 => ?_) fun h62 => ?_
  ·refine lOn 1 S50.k [] rfl ⟨⟩ (P1b rfl rfl rfl ?_)
   have haimT := haim (k5 h62)
   subst haimT
   refine u1a (v := .bool true) rfl rfl ?_
   refine lB S50.k [.o 0] rfl ⟨rfl,⟨⟩⟩ (fun h71 => by exfalso; omega) fun h71 => ?_
   refine lO S50.k [.o 0,.o 2] rfl ⟨rfl,rfl,⟨⟩⟩ (g0a S50 F6a rfl rfl (k6.1 ▸ x3a s.guard M _ _ _ p.cells false (RdE.keep (S50.keep0 M) _ _ hG) (hC.keep (S50.keep0 M)) (hK.keep (S50.keep0 M))) ?_)
   intro w77 S77 X77
   refine lP0 rfl ⟨⟩ ⟨rfl, S77, rfl⟩
  refine lB S50.k [.o 0] rfl ⟨rfl,⟨⟩⟩ (fun h71 => by exfalso; omega) fun h71 => ?_
  refine lO S50.k [.o 0,.o 2] rfl ⟨rfl,rfl,⟨⟩⟩ (g0a S50 F6a rfl rfl (k6.1 ▸ x3a s.guard M _ _ _ p.cells false (RdE.keep (S50.keep0 M) _ _ hG) (hC.keep (S50.keep0 M)) (hK.keep (S50.keep0 M))) ?_)
  intro w77 S77 X77
  refine lP0 rfl ⟨⟩ ⟨rfl, S77, rfl⟩
 rintro D ε w ⟨rfl, S, eZ⟩
 refine wK eZ (wO0 rfl ⟨⟩ ?_)
 refine s5a (k := 3) S rfl ?_
 intro g79 w79 S79 X79 G79 Mp79
 have hg79 : w0.heap.size ≤ g79 := by have := S.size; omega
 refine lC S79.k [.o 0] rfl ⟨rfl,⟨⟩⟩ (wL (fun μk D ε w => D = [] ∧ ∃ k : Nat, (k + μk = (s.set.length)) ∧ (F3a Tryz.prog 3 w g79 (z4a ((s.set.take k).map fun c => .int .i64 c.cell))) ∧ St [] w0 w [(some g7, 88, [.int .i64 s.kind, .int .i64 s.frm, .int .i64 s.to, .int .i64 s.guard.op, .int .i64 s.guard.w, .int .i64 s.guard.n, .slice Ag ng cg, .slice As ns cs', .bool s.release, .int .i64 s.target, .int .i64 s.module_]), (some g6, 60, [.string x.name, .int .i64 x.points, .slice Aa1 na1 ca1, .slice Am1 nm1 cm1, .slice As1 ns1 cs1, .slice Al1 nl1 cl1, .bool x.asleep]), (some g4, 138, [.slice Ac nc cc, .slice Am nm cm, .slice Al nl cl, .slice At nt ct])] ∧ Sl ε [(1, .int .i64 t), (4, .pointer (some ⟨g4, 0, none⟩)), (7, .pointer (some ⟨g7, 0, none⟩)), (10, .map (some g79)), (81, .slice As ns cs'), (82, .int .i64 ns), (83, .int .i64 k)]) (μ := (s.set.length)) ⟨rfl, 0, by omega, (by simpa [z4a] using Mp79), S79, rfl⟩ ?_)
 rintro μk D ε w ⟨rfl, k, _, Mp79, S, eZ⟩
 refine wK eZ (wB0 rfl ⟨⟩ (fun h84 => ?_) fun h84 => ?_)
 ·obtain ⟨a, b85, p85, _, hxa, hA85, _, hl85, hc85, hr85⟩ := RdS.get (hSet) (k) (by omega)
  obtain ⟨_, _, _, rfl, ia85, hE85⟩ := Q0a.open_ hr85
  have q1 := hso.set a (f0a hxa)
  have q2 := q1.1
  unfold G2a at q2
  have q3 := q1.2.2
  refine lO (S.k.a hc85) [.x b85 p85,.v 0] rfl ⟨⟨rfl,hl85⟩,⟨hA85,by omega⟩,⟨⟩⟩ (k0a S R3b rfl rfl ?_)
  intro g12 w12 S12 X12 G12
  replace Mp79 := Mp79.keep X12 (List.not_mem_nil)
  refine c0a (kk := 0) (vs := [_, _, _, _, _]) S12 V3b rfl rfl rfl rfl rfl rfl rfl ?_
  intro w18_3 S18_3 X18_3
  dsimp only [e0a, List.set] at S18_3
  replace Mp79 := Mp79.keep X18_3 (fun hh => by rw [List.mem_singleton] at hh; exact Mp79.ne (S12.blk 0 rfl) hh)
  refine lO S18_3.k [.o 0] rfl ⟨rfl,⟨⟩⟩ ?_
  have hk91 := s3c ia85
  have hnew := X3a hdis hxa
  refine Y9a (Go.Maps.int_keyed Tryz.underlying3) Tryz.underlying181 c1b Mp79 rfl rfl hk91 rfl (fun v hv => absurd rfl (M4a hnew _ hv)) (fun _ => ?_)
  refine lO0 rfl ⟨⟩ (k0a S18_3 c1b rfl rfl ?_)
  intro g13 w13 S13 X13 G13
  replace Mp79 := Mp79.keep X13 (List.not_mem_nil)
  refine c0a (kk := 0) (vs := []) S13 r8b rfl rfl rfl rfl rfl rfl rfl ?_
  intro w19_8 S19_8 X19_8
  dsimp only [e0a, List.set] at S19_8
  replace Mp79 := Mp79.keep X19_8 (fun hh => by rw [List.mem_singleton] at hh; exact Mp79.ne (S13.blk 0 rfl) hh)
  refine lO S19_8.k [.o 1,.o 4] rfl ⟨rfl,rfl,⟨⟩⟩ (g0a S19_8 U2a rfl rfl ((show decide (0 ≤ a.cell ∧ a.cell < (nc : Int)) = true from decide_eq_true (by omega)) ▸ i2a _ _ _) ?_)
  intro w102 S102 X102
  replace Mp79 := Mp79.keep X102 (List.not_mem_nil)
  refine lO S102.k [.o 1] rfl ⟨rfl,⟨⟩⟩ (b1a A4b (vs := []) (cs := []) rfl rfl rfl rfl ?_)
  refine B2b (key := .int .i64 a.cell) (v := .agg #[]) S102 (Go.Maps.int_keyed Tryz.underlying3) Tryz.underlying181 Mp79 rfl rfl rfl hk91 (M4a hnew) (.inl hg79) ?_
  intro wm Sm Xm Mm
  clear Mp79
  have Mp79 := Mm
  refine lC0 rfl ⟨⟩ (x0a b0a [0, 1, 2, 3, 4, 5, 6, 7, 8, 9, 10, 11, 12, 13, 14, 15, 16, 17, 18, 19, 20] [] [] (by kernel_rfl) rfl (Cl _ _ _ _) (Cl.start Sm) ?_)
  obtain ⟨c, b117, p117, _, hxc, hA117, _, _, hc117, hr117⟩ := RdS.get (hC) (a.cell.toNat) (by omega)
  obtain ⟨rfl, _, _, _, _⟩ := K2a.open_ hr117
  rw [X9a q2.1 hxc] at q3
  refine qB (Sm.q.a hc117) [.o 1,.o 4,.o 1,.x b117 p117,.f 0 1] rfl ⟨rfl,⟨hA117,by omega⟩,rfl,rfl,rfl,⟨⟩⟩ (fun h120 => by exfalso; omega) fun h120 => ?_
  refine qO Sm.q [.o 1,.o 4] rfl ⟨rfl,rfl,⟨⟩⟩ (K1a F6a rfl rfl (fun w1 S1 X1 => q1.2.1 ▸ x3a a.to M _ _ _ p.cells false (RdE.keep (S1.keep0 M) _ _ hE85) (hC.keep (S1.keep0 M)) (hK.keep (S1.keep0 M))) ?_)
  refine qD rfl ⟨⟩ ?_
  rintro wR23 ⟨SR23, XR23⟩
  replace Mp79 := Mp79.keep XR23 (List.not_mem_nil)
  refine lP0 rfl ⟨by omega,⟨⟩⟩ ?_
  refine ⟨μk - 1, by omega, rfl, (k + 1), (by omega), ((by rw [h1a hxa, List.map_append, List.map_singleton, P7a]; exact Mp79)), SR23.tail.tail, rfl⟩
 refine lC0 rfl ⟨⟩ (x0a b0a [0, 1, 2, 3, 4, 5, 6, 7] [] [8, 9] (by kernel_rfl) rfl (Cl _ _ _ _) (Cl.start S) ?_)
 refine K1a S3c rfl rfl (fun w1 S1 X1 => v1c _) ?_
 refine qO S.q [.o 0] rfl ⟨rfl,⟨⟩⟩ (L0c Tryz.underlying214 C0c z2c rfl rfl (by omega) (by omega) (t9b (by omega) (by omega)) rfl ?_)
 refine qN S.q [.w 2,.w 0] rfl ⟨⟨rfl,rfl⟩,⟨rfl,rfl⟩,⟨⟩⟩ (j4a ?_)
 refine O1a ?_
 rintro wR26 ⟨SR26, _⟩
 refine y1b m7b rfl rfl rfl (w5c p t x s M _ _ _ ⟨hP.keep (SR26.keep0 M), A1a.keep (SR26.keep0 M) _ _ hS, hp, hso, hK.keep (SR26.keep0 M), hM' _ SR26.size⟩) ?_
 rintro v139 w139 ⟨rfl, B139⟩
 have S139 := SR26.later B139
 exact lT rfl ⟨⟩ rfl ⟨rfl, S139.fin⟩
theorem s7b (c : Int) (g : Nat) (w0 : World) (Ac Am Al At : Option Addr) (nc cc nm cm nl cl nt ct : Nat) (hg : r1a w0 g 0 [.slice Ac nc cc, .slice Am nm cm, .slice Al nl cl, .slice At nt ct]) :
 R0a Tryz.prog 128 #[.int .i64 c, .pointer (some ⟨g, 0, none⟩)] w0 fun v w' => v = .bool (decide (0 ≤ c ∧ c < (nm : Int))) ∧ Below w0.heap.size w0 w' := by
 have S := St.refl w0
 refine a0a Tryz.func128 rfl Tryz.ntmps128 rfl ?_
 refine wO0 rfl ⟨⟩ (u0a A6b rfl (by first | exact S.old (hg 1 _ rfl)) rfl ?_)
 refine lO0 rfl ⟨⟩ (r0a S U2a rfl rfl (i2a _ _ _) (fun h9 w9 S9 X9 => ?_) (fun h9 w9 S9 X9 => ?_))
 ·refine lR0 rfl ⟨⟩ (o0a rfl (by conv => lhs; whnf) ?_)
  exact ⟨by rw [h9], S9.fin⟩
 refine lR0 rfl ⟨⟩ (o0a rfl (by conv => lhs; whnf) ?_)
 exact ⟨by rw [h9], S9.fin⟩
theorem U7b (c pts hd : Int) (g g' : Nat) (w0 : World) (hg : w0.cell? ⟨g, 1, none⟩ = some (.int .i64 pts)) (hg' : w0.cell? ⟨g', 0, none⟩ = some (.int .i64 hd)) :
 R0a Tryz.prog 131 #[.int .i64 c, .pointer (some ⟨g, 0, none⟩), .pointer (some ⟨g', 0, none⟩)] w0 fun v w' => v = .bool (decide ((0 ≤ c ∧ c < pts) ∧ c ≠ hd)) ∧ Below w0.heap.size w0 w' := by
 have S := St.refl w0
 refine a0a Tryz.func131 rfl Tryz.ntmps131 rfl ?_
 refine wO0 rfl ⟨⟩ (u0a G0a rfl (by exact S.old hg) rfl ?_)
 refine r0a S U2a rfl rfl (i2a _ _ _) (fun h8 w8 S8 X8 => ?_) (fun h8 w8 S8 X8 => ?_)
 ·refine lO0 rfl ⟨⟩ (u0a G0a rfl (by exact S8.old hg') rfl ?_)
  refine lB0 rfl ⟨⟩ (fun h13 => ?_) fun h13 => ?_
  ·refine lT rfl ⟨⟩ rfl ⟨congrArg Value.bool ?_, S8.fin⟩
   exact (decide_eq_true ⟨of_decide_eq_true h8, by omega⟩).symm
  refine lT rfl ⟨⟩ rfl ⟨congrArg Value.bool ?_, S8.fin⟩
  exact (decide_eq_false fun h => by omega).symm
 refine lT rfl ⟨⟩ rfl ⟨congrArg Value.bool ?_, S8.fin⟩
 exact (decide_eq_false fun h => of_decide_eq_false h8 h.1).symm
end Go.Proofs.YtjjmdcnmeommbaaGreatDoor
namespace Go.Proofs.YtjjmdcnmeommbaaGreatDoor
open Go.Fw Go.RowKit
theorem q1b (M : List Nat) (w0 : World) (v vf : Value) (l : List Int) (q : Int → Bool) (hR : RdI M w0 v l) (hp : o2a Tryz.prog M w0 vf q) (hM : ∀ g ∈ M, g < w0.heap.size) (hq : ∀ c ∈ l, q c = true) :
 R0a Tryz.prog 127 #[v, vf] w0 fun v w' => v = .bool true ∧ Below w0.heap.size w0 w' :=
 (K5a M w0 v vf l q hR hp hM).mono fun v w' h => ⟨by rw [h.1, List.all_eq_true.2 hq], h.2⟩
def X9c (nm : Nat) (c : Int) : Bool := decide (0 ≤ c ∧ c < (nm : Int))
def m8c (pts hd c : Int) : Bool := decide ((0 ≤ c ∧ c < pts) ∧ c ≠ hd)
theorem X3b {g : Nat} {M : List Nat} {w0 : World} {Ac Am Al At : Option Addr} {nc cc nm cm nl cl nt ct : Nat} (hg : r1a w0 g 0 [.slice Ac nc cc, .slice Am nm cm, .slice Al nl cl, .slice At nt ct]) (hM : g ∉ M) :
 o2a Tryz.prog M w0 (.func (.func 128) #[] #[.pointer (some ⟨g, 0, none⟩)]) (X9c nm) :=
 ⟨_, _, _, rfl, a5c, fun w' hk c _ => s7b c g w' Ac Am Al At nc cc nm cm nl cl nt ct (hg.keep hk hM)⟩
theorem i4b {g g' : Nat} {M : List Nat} {w0 : World} {pts hd : Int} (hg : w0.cell? ⟨g, 1, none⟩ = some (.int .i64 pts)) (hg' : w0.cell? ⟨g', 0, none⟩ = some (.int .i64 hd)) (hM : g ∉ M) (hM' : g' ∉ M) :
 o2a Tryz.prog M w0 (.func (.func 131) #[] #[.pointer (some ⟨g, 0, none⟩), .pointer (some ⟨g', 0, none⟩)]) (m8c pts hd) :=
 ⟨_, _, _, rfl, j4c, fun w' hk c _ => U7b c pts hd g g' w' (hk.cell (a := ⟨g, 1, none⟩) hM hg) (hk.cell (a := ⟨g', 0, none⟩) hM' hg')⟩
set_option maxHeartbeats 1000000 in
theorem k7b (p : d0a) (t : Nat) (x : J0a) (b : Nat) (l : List Value) (M : List Nat) (w0 : World) (cs ts : List Value) (hP : g1a M w0 p cs) (hT : v0a M w0 ts x) (hp : T0a p) (hK : c3a M w0) (hM : ∀ g ∈ M, g < w0.heap.size) (hb : b ∈ M)
 (hx : p.threads[t]? = some x) (hm : F3a Tryz.prog 9 w0 b (z4a l)) (hnew : Value.string x.name ∉ l) :
 R0a Tryz.prog 74 #[.agg cs.toArray, .int .i64 t, .agg ts.toArray, .map (some b)] w0 fun v w' => v = .tuple #[.int .i64 0, .int .i64 (-1)] ∧ L0a [b] w0 w' ∧ F3a Tryz.prog 9 w' b (z4a (l ++ [.string x.name])) := by
 obtain ⟨Ac, nc, cc, Am, nm, cm, Al, nl, cl, At, nt, ct, rfl, hC, _, _, _, _, _, _, _, _, _, _, _⟩ := hP.open_
 obtain ⟨Aa1, na1, ca1, Am1, nm1, cm1, As1, ns1, cs1, Al1, nl1, cl1, rfl, _, hEs1, hMs1, hSt1, hLo1, _, _, _, _, _, _, _, _⟩ := hT.open_
 have S := St.reflM [b] w0
 have hsub : ∀ g ∈ [b], g ∈ M := fun g hg => by rw [List.mem_singleton] at hg; subst hg; exact hb
 have hM' : ∀ w' : World, w0.heap.size ≤ w'.heap.size → ∀ g ∈ M, g < w'.heap.size := fun w' h g hg => by have := hM g hg; omega
 have hto := hp.thread hx
 have k1 := hto.points
 have k2 := hto.asserts
 have k3 := hto.nmod
 have hsz : x.name.size ≤ 140737488355328 := by have := hto.name.2.1; omega
 refine a0a Tryz.func74 rfl Tryz.ntmps74 rfl ?_
 refine wO0 rfl ⟨⟩ (m0a S (by conv => lhs; whnf) rfl ?_)
 intro g4 w4 S4 X4 G4
 replace hm := hm.keep X4 (List.not_mem_nil)
 refine m0a S4 (by conv => lhs; whnf) rfl ?_
 intro g6 w6 S6 X6 G6
 replace hm := hm.keep X6 (List.not_mem_nil)
 refine lO S6.k [.o 0] rfl ⟨rfl,⟨⟩⟩ (g0a S6 w2b rfl rfl (p7a _ _ hto.name) ?_)
 intro w22 S22 X22
 replace hm := hm.keep X22 (List.not_mem_nil)
 refine lO S22.k [.o 0] rfl ⟨rfl,⟨⟩⟩ ?_
 have hG6 : w0.heap.size ≤ g6 := by have := S4.size; omega
 refine q3a G1b rfl rfl (U8a b _ x.name _ hm hsz hnew) ?_
 rintro v28 w28 ⟨rfl, B28, M28⟩
 have S28 := S22.turned hm (.inr (by simp)) B28
 clear hm
 have hm := M28
 refine lB S28.k [.o 0] rfl ⟨rfl,⟨⟩⟩ (fun h32 => by exfalso; omega) fun h32 => ?_
 refine lB S28.k [.o 0,.o 0] rfl ⟨rfl,rfl,⟨⟩⟩ (fun h38 => by exfalso; omega) fun h38 => ?_
 refine lB S28.k [.o 0,.o 0] rfl ⟨rfl,rfl,⟨⟩⟩ (fun h44 => by exfalso; omega) fun h44 => ?_
 refine lO S28.k [.o 0] rfl ⟨rfl,⟨⟩⟩ (f2a rfl rfl ?_)
 refine g0a S28 R7a rfl rfl (q1b M _ _ _ x.modules (X9c nm) (hMs1.keep (S28.keepM.mono hsub)) (X3b (S28.cells 1 rfl) (C7a hM G4)) (hM' _ S28.size) (fun c hc => decide_eq_true (by have := hto.modules c hc; unfold G2a at this; omega))) ?_
 intro w49 S49 X49
 replace hm := hm.keep X49 (List.not_mem_nil)
 refine lO S49.k [.w 1] rfl ⟨⟨rfl,rfl⟩,⟨⟩⟩ (F0a S49 n5b rfl rfl (B6a p t M _ _ (hP.keep (S49.keepM.mono hsub)) (hM' _ S49.size)) ?_)
 rintro v53 w53 hq S53 X53
 replace hm := hm.keep X53 (List.not_mem_nil)
 obtain ⟨f, first, caps, rfl, _, _⟩ := id hq
 have K53 := C0a.refl [] w53
 refine lC S53.k [.o 0] rfl ⟨rfl,⟨⟩⟩ (wL (fun μk D ε w => D = [] ∧ ∃ k : Nat, (k + μk = (x.asserts.length)) ∧ (F3a Tryz.prog 9 w b (z4a (l ++ [.string x.name]))) ∧ (C0a [] w53 w) ∧ St [b] w0 w [(some g6, 60, [.string x.name, .int .i64 x.points, .slice Aa1 na1 ca1, .slice Am1 nm1 cm1, .slice As1 ns1 cs1, .slice Al1 nl1 cl1, .bool x.asleep]), (some g4, 138, [.slice Ac nc cc, .slice Am nm cm, .slice Al nl cl, .slice At nt ct])] ∧ Sl ε [(1, .int .i64 t), (4, .pointer (some ⟨g4, 0, none⟩)), (6, .pointer (some ⟨g6, 0, none⟩)), (10, .func (.func f) first caps), (55, .slice Aa1 na1 ca1), (56, .int .i64 na1), (57, .int .i64 k)]) (μ := (x.asserts.length)) ⟨rfl, 0, by omega, hm, K53, S53, rfl⟩ ?_)
 rintro μk D ε w ⟨rfl, k, hk, hm, K53, S, eZ⟩
 refine wK eZ (wB0 rfl ⟨⟩ (fun h58 => ?_) fun h58 => ?_)
 ·obtain ⟨e, b59, p59, _, hxe, hA59, hM59, hl59, hc59, hr59⟩ := RdS.get (hEs1) (k) (by omega)
  obtain ⟨_, _, _, rfl, _, _, _, _, _⟩ := RdE.cells hr59
  have q1 := hto.truth e (f0a hxe)
  refine lO (S.k.b (hc59.keep (S.keepM.mono hsub) hM59)) [.x b59 p59,.v 0] rfl ⟨⟨rfl,hl59⟩,⟨hA59,by omega⟩,⟨⟩⟩ (k0a S J8a rfl rfl ?_)
  intro g12 w12 S12 X12 G12
  have GK5312 := Nat.le_trans K53.size G12
  replace K53 := K53.trans X12
  replace hm := hm.keep X12 (List.not_mem_nil)
  refine c0a (kk := 0) (vs := [_, _, _, _]) S12 i6a rfl rfl rfl rfl rfl rfl rfl ?_
  intro w14_3 S14_3 X14_3
  dsimp only [e0a, List.set] at S14_3
  replace K53 := K53.fresh X14_3 (by first | exact GK5312)
  replace hm := hm.keep X14_3 (fun hh => by rw [List.mem_singleton] at hh; exact hm.ne (S12.blk 0 rfl) hh)
  refine lO S14_3.k [.w 2,.w 0] rfl ⟨⟨rfl,by rfl⟩,⟨rfl,rfl⟩,⟨⟩⟩ (g0a S14_3 q9a rfl rfl (I9a p e M _ _ _ false _ (y2b p t) (hP.keep (S14_3.keepM.mono hsub)) (RdE.keep (S14_3.keepM.mono hsub) _ _ hr59) (hq.keep K53.of_nil) (hK.keep (S14_3.keepM.mono hsub)) (hM' _ S14_3.size) q1.2.1 q1.1 (X1b hp q1.1 q1.2.2)) ?_)
  intro w64 S64 X64
  replace K53 := K53.trans X64
  replace hm := hm.keep X64 (List.not_mem_nil)
  refine lP0 rfl ⟨by omega,⟨⟩⟩ ⟨μk - 1, by omega, rfl, (k + 1), (by omega), (hm), (K53), S64.tail, rfl⟩
 refine lC S.k [.o 0] rfl ⟨rfl,⟨⟩⟩ (wL (fun μk D ε w => D = [] ∧ ∃ k : Nat, (k + μk = (x.steps.length)) ∧ (F3a Tryz.prog 9 w b (z4a (l ++ [.string x.name]))) ∧ (C0a [] w53 w) ∧ St [b] w0 w [(some g6, 60, [.string x.name, .int .i64 x.points, .slice Aa1 na1 ca1, .slice Am1 nm1 cm1, .slice As1 ns1 cs1, .slice Al1 nl1 cl1, .bool x.asleep]), (some g4, 138, [.slice Ac nc cc, .slice Am nm cm, .slice Al nl cl, .slice At nt ct])] ∧ Sl ε [(1, .int .i64 t), (4, .pointer (some ⟨g4, 0, none⟩)), (6, .pointer (some ⟨g6, 0, none⟩)), (10, .func (.func f) first caps), (68, .slice As1 ns1 cs1), (69, .int .i64 ns1), (70, .int .i64 k)]) (μ := (x.steps.length)) ⟨rfl, 0, by omega, hm, K53, S, rfl⟩ ?_)
 rintro μk D ε w ⟨rfl, k, hk, hm, K53, S, eZ⟩
 refine wK eZ (wB0 rfl ⟨⟩ (fun h71 => ?_) fun h71 => ?_)
 ·obtain ⟨s, b73, p73, _, hxs, hA73, hM73, hl73, hc73, hr73⟩ := RdS.get (hSt1) (k) (by omega)
  obtain ⟨_, _, _, _, _, _, rfl, ⟨_, _, _, _, _⟩, _, _, _, _⟩ := A1a.open_ hr73
  refine lO (S.k.b (hc73.keep (S.keepM.mono hsub) hM73)) [.x b73 p73,.v 0] rfl ⟨⟨rfl,hl73⟩,⟨hA73,by omega⟩,⟨⟩⟩ (k0a S k3b rfl rfl ?_)
  intro g14 w14 S14 X14 G14
  have GK5314 := Nat.le_trans K53.size G14
  replace K53 := K53.trans X14
  replace hm := hm.keep X14 (List.not_mem_nil)
  refine lO0 rfl ⟨⟩ (c0a (kk := 0) (vs := [_, _, _, _, _, _, _, _, _, _, _]) S14 L3b rfl rfl rfl rfl rfl rfl rfl ?_)
  intro w20_5 S20_5 X20_5
  dsimp only [e0a, List.set] at S20_5
  replace K53 := K53.fresh X20_5 (by first | exact GK5314)
  replace hm := hm.keep X20_5 (fun hh => by rw [List.mem_singleton] at hh; exact hm.ne (S14.blk 0 rfl) hh)
  refine lO S20_5.k [.w 2,.w 1,.w 0] rfl ⟨⟨rfl,by rfl⟩,⟨rfl,rfl⟩,⟨rfl,rfl⟩,⟨⟩⟩ (g0a S20_5 H4c rfl rfl (S0c p t x s M _ _ _ _ ⟨hP.keep (S20_5.keepM.mono hsub), A1a.keep (S20_5.keepM.mono hsub) _ _ hr73, hp, hto.steps s (f0a hxs), hK.keep (S20_5.keepM.mono hsub), hM' _ S20_5.size⟩ (v0a.keep (S20_5.keepM.mono hsub) _ _ hT) k1.1 k1.2) ?_)
  intro w79 S79 X79
  replace K53 := K53.trans X79
  replace hm := hm.keep X79 (List.not_mem_nil)
  refine lB0 rfl ⟨⟩ (fun h81 => by exfalso; omega) fun h81 => ?_
  refine lP0 rfl ⟨by omega,⟨⟩⟩ ⟨μk - 1, by omega, rfl, (k + 1), (by omega), (hm), (K53), S79.tail, rfl⟩
 refine lC S.k [.o 0] rfl ⟨rfl,⟨⟩⟩ (wL (fun μk D ε w => D = [] ∧ ∃ k : Nat, (k + μk = (x.loops.length)) ∧ (F3a Tryz.prog 9 w b (z4a (l ++ [.string x.name]))) ∧ (C0a [] w53 w) ∧ St [b] w0 w [(some g6, 60, [.string x.name, .int .i64 x.points, .slice Aa1 na1 ca1, .slice Am1 nm1 cm1, .slice As1 ns1 cs1, .slice Al1 nl1 cl1, .bool x.asleep]), (some g4, 138, [.slice Ac nc cc, .slice Am nm cm, .slice Al nl cl, .slice At nt ct])] ∧ Sl ε [(4, .pointer (some ⟨g4, 0, none⟩)), (6, .pointer (some ⟨g6, 0, none⟩)), (10, .func (.func f) first caps), (86, .slice Al1 nl1 cl1), (87, .int .i64 nl1), (88, .int .i64 k)]) (μ := (x.loops.length)) ⟨rfl, 0, by omega, hm, K53, S, rfl⟩ ?_)
 rintro μk D ε w ⟨rfl, k, hk, hm, K53, S, eZ⟩
 refine wK eZ (wB0 rfl ⟨⟩ (fun h89 => ?_) fun h89 => ?_)
 ·obtain ⟨lp, b90, p90, _, hxlp, hA90, hM90, hl90, hc90, hr90⟩ := RdS.get (hLo1) (k) (by omega)
  obtain ⟨_, _, _, _, _, _, rfl, _, hB90, hE90, _, _⟩ := C4a.open_ hr90
  have q1 := hto.loops lp (f0a hxlp)
  have q2 := q1.head
  refine lO (S.k.b (hc90.keep (S.keepM.mono hsub) hM90)) [.x b90 p90,.v 0] rfl ⟨⟨rfl,hl90⟩,⟨hA90,by omega⟩,⟨⟩⟩ (k0a S e3c rfl rfl ?_)
  intro g17 w17 S17 X17 G17
  have GK5317 := Nat.le_trans K53.size G17
  replace K53 := K53.trans X17
  replace hm := hm.keep X17 (List.not_mem_nil)
  refine c0a (kk := 0) (vs := [_, _, _, _, _, _]) S17 o3c rfl rfl rfl rfl rfl rfl rfl ?_
  intro w27_3 S27_3 X27_3
  dsimp only [e0a, List.set] at S27_3
  replace K53 := K53.fresh X27_3 (by first | exact GK5317)
  replace hm := hm.keep X27_3 (fun hh => by rw [List.mem_singleton] at hh; exact hm.ne (S17.blk 0 rfl) hh)
  refine lO0 rfl ⟨⟩ (f2a rfl rfl ?_)
  refine lO S27_3.k [.o 0,.o 1] rfl ⟨rfl,rfl,⟨⟩⟩ (g0a S27_3 U2a rfl rfl ((show decide (0 ≤ lp.head ∧ lp.head < x.points) = true from decide_eq_true (by omega)) ▸ i2a _ _ _) ?_)
  intro w98 S98 X98
  replace K53 := K53.trans X98
  replace hm := hm.keep X98 (List.not_mem_nil)
  refine lO S98.k [.o 0] rfl ⟨rfl,⟨⟩⟩ (g0a S98 Q4b rfl rfl (W4a M _ _ _ (hB90.keep (S98.keepM.mono hsub)) q1.up) ?_)
  intro w102 S102 X102
  replace K53 := K53.trans X102
  replace hm := hm.keep X102 (List.not_mem_nil)
  refine lO S102.k [.o 0] rfl ⟨rfl,⟨⟩⟩ ?_
  have hG17 : w0.heap.size ≤ g17 := by have := S.size; omega
  refine g0a S102 R7a rfl rfl (q1b M _ _ _ lp.body (m8c x.points lp.head) (hB90.keep (S102.keepM.mono hsub)) (i4b (S102.cell 1 rfl rfl) (S102.cell 0 rfl rfl) (C7a hM hG6) (C7a hM hG17)) (hM' _ S102.size) (fun c hc => decide_eq_true (by have := q1.body c hc; omega))) ?_
  intro w107 S107 X107
  replace K53 := K53.trans X107
  replace hm := hm.keep X107 (List.not_mem_nil)
  refine lO S107.k [.o 0,.o 2] rfl ⟨rfl,rfl,⟨⟩⟩ (g0a S107 F6a rfl rfl (q1.variant.1 ▸ x3a lp.variant M _ _ _ p.cells false (RdE.keep (S107.keepM.mono hsub) _ _ hE90) (hC.keep (S107.keepM.mono hsub)) (hK.keep (S107.keepM.mono hsub))) ?_)
  intro w115 S115 X115
  replace K53 := K53.trans X115
  replace hm := hm.keep X115 (List.not_mem_nil)
  refine lO S115.k [.o 0] rfl ⟨rfl,⟨⟩⟩ (g0a S115 F7a rfl rfl ((X1b hp q1.variant.1 q1.variant.2) ▸ T5a lp.variant M _ _ _ (y2b p t) (RdE.keep (S115.keepM.mono hsub) _ _ hE90) (hq.keep K53.of_nil) (hK.keep (S115.keepM.mono hsub)) (hM' _ S115.size)) ?_)
  intro w120 S120 X120
  replace K53 := K53.trans X120
  replace hm := hm.keep X120 (List.not_mem_nil)
  refine lP0 rfl ⟨by omega,⟨⟩⟩ ⟨μk - 1, by omega, rfl, (k + 1), (by omega), (hm), (K53), S120.tail, rfl⟩
 refine lR0 rfl ⟨⟩ (N2a rfl (by conv => lhs; whnf) (by conv => lhs; whnf) ?_)
 exact ⟨rfl, S.below, hm⟩
def C2b (k : Nat) : Nat := if k = 0 then 71 else if k = 1 then 72 else 73
def E5b (cs : Array Value) : Array Value := #[.func (.func 71) #[.agg cs] #[], .func (.func 72) #[.agg cs] #[], .func (.func 73) #[.agg cs] #[]]
theorem C7b {cs : Array Value} {k : Nat} (h : k < 3) : (E5b cs)[(k : Int).toNat]? = some (.func (.func (C2b k)) #[.agg cs] #[]) := by
 rcases (show k = 0 ∨ k = 1 ∨ k = 2 by omega) with e | e | e <;> subst e <;> rfl
theorem z4b {k : Nat} : Has Tryz.prog (C2b k) := by
 unfold C2b
 repeat' split
 ·exact t7c
 ·exact E7c
 ·exact e7c
theorem r1c (k : Nat) (hk : k < 3) (p : d0a) (M : List Nat) (w0 : World) (cs : List Value) (hP : g1a M w0 p cs) (hp : T0a p) (hK : c3a M w0) (hM : ∀ g ∈ M, g < w0.heap.size) :
 R0a Tryz.prog (C2b k) #[.agg cs.toArray] w0 fun v w' => v = .int .i64 0 ∧ Below w0.heap.size w0 w' := by
 rcases (show k = 0 ∨ k = 1 ∨ k = 2 by omega) with e | e | e <;> subst e
 ·exact q8b p M w0 cs hP hp
 ·exact v5b p M w0 cs hP hp hK hM
 ·exact j8b p M w0 cs hP hp hK hM
theorem V6a (p : d0a) (M : List Nat) (w0 : World) (cs : List Value) (hP : g1a M w0 p cs) (hp : T0a p) (hK : c3a M w0) (hM : ∀ g ∈ M, g < w0.heap.size) :
 R0a Tryz.prog 42 #[.agg cs.toArray] w0 fun v w' => v = .tuple #[.int .i64 0, .int .i64 (-1), .int .i64 (-1)] ∧ Below w0.heap.size w0 w' := by
 obtain ⟨Ac, nc, cc, Am, nm, cm, Al, nl, cl, At, nt, ct, rfl, _, _, _, hTh, _, _, _, _, _, _, _, _⟩ := hP.open_
 have S := St.refl w0
 have hM' : ∀ w' : World, w0.heap.size ≤ w'.heap.size → ∀ g ∈ M, g < w'.heap.size := fun w' h g hg => by have := hM g hg; omega
 have hdis : p.threads.Pairwise fun a b => Value.string a.name ≠ .string b.name := hp.threadNames.imp fun h e => h (by injection e)
 refine a0a Tryz.func42 rfl Tryz.ntmps42 rfl ?_
 refine wO0 rfl ⟨⟩ (m0a S (by conv => lhs; whnf) rfl ?_)
 intro g1 w1 S1 X1 G1
 refine lO S1.k [.w 0] rfl ⟨⟨rfl,rfl⟩,⟨⟩⟩ (b1a z6c (vs := [(0, .agg _)]) (cs := [_, _, _, _]) rfl rfl rfl rfl ?_)
 refine k0a S1 n7c rfl rfl ?_
 intro g5 w5 S5 X5 G5
 refine c0a (kk := 0) (vs := [_, _, _, _]) S5 L7c rfl rfl rfl rfl rfl rfl rfl ?_
 intro w1_3 S1_3 X1_3
 dsimp only [e0a, List.set] at S1_3
 refine lO S1_3.k [.w 0] rfl ⟨⟨rfl,rfl⟩,⟨⟩⟩ (g0a S1_3 p7c rfl rfl (M7b p M _ _ (hP.keep (S1_3.keep0 M)) hp) ?_)
 intro w20 S20 X20
 refine lB0 rfl ⟨⟩ (fun h24 => by exfalso; omega) fun h24 => ?_
 refine lO S20.k [.w 0] rfl ⟨⟨rfl,rfl⟩,⟨⟩⟩ (k2a rfl rfl rfl ?_)
 refine lO S20.k [.w 0] rfl ⟨⟨rfl,rfl⟩,⟨⟩⟩ (k2a rfl rfl rfl ?_)
 refine lO S20.k [.w 0] rfl ⟨⟨rfl,rfl⟩,⟨⟩⟩ (k2a rfl rfl rfl ?_)
 refine c1a (v := .agg (E5b #[.slice Ac nc cc, .slice Am nm cm, .slice Al nl cl, .slice At nt ct])) (w' := w20) rfl rfl rfl (by simp) (by kernel_rfl) ?_
 refine lC0 rfl ⟨⟩ (wL (fun μk D ε w => D = [] ∧ ∃ k : Nat, (k + μk = (3)) ∧ St [] w0 w [(some g5, 138, [.slice Ac nc cc, .slice Am nm cm, .slice Al nl cl, .slice At nt ct]), (some g1, 27, [.slice Ac nc cc, .slice Am nm cm, .slice Al nl cl, .slice At nt ct])] ∧ Sl ε [(1, .pointer (some ⟨g1, 0, none⟩)), (5, .pointer (some ⟨g5, 0, none⟩)), (33, .agg (E5b #[.slice Ac nc cc, .slice Am nm cm, .slice Al nl cl, .slice At nt ct])), (34, .int .i64 k)]) (μ := (3)) ⟨rfl, 0, by omega, S20, rfl⟩ ?_)
 rintro μk D ε w ⟨rfl, k, hk, S, eZ⟩
 refine wK eZ (wB0 rfl ⟨⟩ (fun h35 => ?_) fun h35 => ?_)
 ·refine lO0 rfl ⟨⟩ (e5b E3c rfl rfl (by omega) (by omega) (C7b (by omega)) rfl ?_)
  refine lO0 rfl ⟨⟩ (n9a (vs := [.agg #[.slice Ac nc cc, .slice Am nm cm, .slice Al nl cl, .slice At nt ct]]) z4b rfl rfl rfl (r1c k (by omega) p M _ _ (hP.keep (S.keep0 M)) hp (hK.keep (S.keep0 M)) (hM' _ S.size)) ?_)
  rintro v38 w38 ⟨rfl, B38⟩
  have S38 := S.later B38
  refine lB0 rfl ⟨⟩ (fun h40 => by exfalso; omega) fun h40 => ?_
  refine lP0 rfl ⟨by omega,⟨⟩⟩ ⟨μk - 1, by omega, rfl, (k + 1), (by omega), S38, rfl⟩
 refine lO0 rfl ⟨⟩ (s5a (k := 9) S rfl ?_)
 intro g43 w43 S43 X43 G43 Mp43
 have hg43 : w0.heap.size ≤ g43 := by have := S.size; omega
 refine lC S43.k [.o 1] rfl ⟨rfl,⟨⟩⟩ (wL (fun μk D ε w => D = [] ∧ ∃ k : Nat, (k + μk = (p.threads.length)) ∧ (F3a Tryz.prog 9 w g43 (z4a ((p.threads.take k).map fun c => .string c.name))) ∧ St [] w0 w [(some g5, 138, [.slice Ac nc cc, .slice Am nm cm, .slice Al nl cl, .slice At nt ct]), (some g1, 27, [.slice Ac nc cc, .slice Am nm cm, .slice Al nl cl, .slice At nt ct])] ∧ Sl ε [(5, .pointer (some ⟨g5, 0, none⟩)), (11, .map (some g43)), (45, .slice At nt ct), (46, .int .i64 nt), (47, .int .i64 k)]) (μ := (p.threads.length)) ⟨rfl, 0, by omega, (by simpa [z4a] using Mp43), S43, rfl⟩ ?_)
 rintro μk D ε w ⟨rfl, k, hk, Mp43, S, eZ⟩
 refine wK eZ (wB0 rfl ⟨⟩ (fun h48 => ?_) fun h48 => ?_)
 ·obtain ⟨x, b50, p50, _, hxx, hA50, _, hl50, hc50, hr50⟩ := RdS.get (hTh) (k) (by omega)
  obtain ⟨_, _, _, _, _, _, _, _, _, _, _, _, rfl, _, _, _, _, _, _, _, _, _, _, _, _, _⟩ := v0a.open_ hr50
  refine lO (S.k.a hc50) [.x b50 p50,.v 0] rfl ⟨⟨rfl,hl50⟩,⟨hA50,by omega⟩,⟨⟩⟩ (k0a S M2b rfl rfl ?_)
  intro g13 w13 S13 X13 G13
  replace Mp43 := Mp43.keep X13 (List.not_mem_nil)
  refine lO0 rfl ⟨⟩ (c0a (kk := 0) (vs := [_, _, _, _, _, _, _]) S13 t1b rfl rfl rfl rfl rfl rfl rfl ?_)
  intro w15_5 S15_5 X15_5
  dsimp only [e0a, List.set] at S15_5
  replace Mp43 := Mp43.keep X15_5 (fun hh => by rw [List.mem_singleton] at hh; exact Mp43.ne (S13.blk 0 rfl) hh)
  refine lO S15_5.k [.w 1,.w 0] rfl ⟨⟨rfl,by rfl⟩,⟨rfl,rfl⟩,⟨⟩⟩ ?_
  have hnew := X3a hdis hxx
  have hmore : ∀ g ∈ g43 :: M, g ∈ M ∨ w0.heap.size ≤ g := fun g hg => by exact (List.mem_cons.1 hg).elim (fun h => .inr (by omega)) .inl
  have hlt : ∀ g ∈ g43 :: M, g < w15_5.heap.size := fun g hg => by exact (List.mem_cons.1 hg).elim (fun h => h ▸ Mp43.lt) (hM' _ S15_5.size g)
  refine q3a h7c rfl rfl (k7b p k x g43 _ (g43 :: M) _ _ _ ((hP.more hmore).keep (S15_5.keep0 _)) (v0a.keep (S15_5.keep0 _) _ _ (v0a.more hmore _ _ hr50)) hp ((hK.more hmore).keep (S15_5.keep0 _)) hlt (by simp) hxx Mp43 hnew) ?_
  rintro v57 w57 ⟨rfl, B57, M57⟩
  have S57 := S15_5.turned Mp43 (.inl hg43) B57
  refine lB0 rfl ⟨⟩ (fun h61 => by exfalso; omega) fun h61 => ?_
  refine lP0 rfl ⟨by omega,⟨⟩⟩ ?_
  refine ⟨μk - 1, by omega, rfl, (k + 1), (by omega), ((by rw [h1a hxx, List.map_append]; exact M57)), S57.tail, rfl⟩
 refine lR0 rfl ⟨⟩ (g5b rfl (by conv => lhs; whnf) (by conv => lhs; whnf) (by conv => lhs; whnf) ?_)
 exact ⟨rfl, S.fin⟩
end Go.Proofs.YtjjmdcnmeommbaaGreatDoor
namespace Go.Fw
open Go.RowKit
def v1a (p : d0a) : D0a := ⟨p.cells.map J1a.init, p.threads.map (fun t => if t.asleep then -1 else 0), p.threads.map (fun _ => [])⟩
def P3a (mem : List Int) (e : I0a) : List Int := (e.cells.zip e.values).foldl (fun m x => m.set x.1.toNat x.2) mem
def E1a (c : D0a) (t : Nat) : List Int := (c.buf.getD t []).foldl P3a c.mem
def A0b (s : List N1a) (v mem : List Int) : List Int := s.foldl (fun m a => m.set a.cell.toNat (a.to.evl v v)) mem
def s3b (p : d0a) (s : List N1a) (v : List Int) : I0a := ⟨(s.filter fun a => k1a p.cells a.cell = -1).map N1a.cell, (s.filter fun a => k1a p.cells a.cell = -1).map fun a => a.to.evl v v⟩
def N0a (p : d0a) (model : Int) (c : D0a) (t : Nat) (s : m1a) : Bool :=
 decide (c.at_.getD t 0 = s.frm) && (decide (s.guard.evl (E1a c t) (E1a c t) = 1) &&
  (if s.kind = 3 then decide (model = 0 ∨ ((c.buf.getD t []).length < 3 ∧ (s.release = true → c.buf.getD t [] = [])))
   else if s.kind = 6 then decide (c.buf.getD t [] = [] ∧ c.at_.getD s.target.toNat 0 = -1)
   else if s.kind = 7 then decide (c.buf.getD t [] = [] ∧ c.at_.getD s.target.toNat 0 = (p.threads.getD s.target.toNat ⟨ByteArray.empty, 0, [], [], [], [], false⟩).points - 1 ∧ c.buf.getD s.target.toNat [] = [])
   else if s.kind = 1 ∨ s.kind = 2 then true else decide (c.buf.getD t [] = [])))
def b4b (a b : I0a) : Bool := a.cells.any fun x => b.cells.contains x
def Q3a (model : Int) (l : List I0a) (i : Nat) : Bool := decide (i = 0) || (decide (model = 2) && (List.range i).all fun k => match l[k]?, l[i]? with | some a, some b => !b4b a b | _, _ => true)
def e2a (p : d0a) (t : Nat) : List m1a := (p.threads.getD t ⟨ByteArray.empty, 0, [], [], [], [], false⟩).steps
def p3a (p : d0a) (model : Int) (c : D0a) (t : Nat) : List n0a :=
 ((List.range (e2a p t).length).filter fun i => match (e2a p t)[i]? with | some s => N0a p model c t s | none => false).map (fun (i : Nat) => (⟨t, i, 0⟩ : n0a)) ++
 ((List.range (c.buf.getD t []).length).filter (Q3a model (c.buf.getD t []))).map (fun (i : Nat) => (⟨t, -1, ((c.buf.getD t []).getD i ⟨[], []⟩).cells.getD 0 0⟩ : n0a))
def M0a (p : d0a) (model : Int) (c : D0a) : List n0a := (List.range p.threads.length).flatMap (p3a p model c)
def atC (c : D0a) (t : Nat) (s : m1a) : List Int := if s.kind = 6 then (c.at_.set t s.to).set s.target.toNat 0 else c.at_.set t s.to
def A6a (p : d0a) (model : Int) (c : D0a) (t : Nat) (s : m1a) : D0a :=
 if s.kind = 3 ∧ model ≠ 0 then ⟨A0b (s.set.filter fun a => k1a p.cells a.cell ≠ -1) (E1a c t) c.mem, atC c t s, c.buf.set t (c.buf.getD t [] ++ [s3b p s.set (E1a c t)])⟩
 else ⟨A0b s.set (E1a c t) c.mem, atC c t s, c.buf⟩
def G5a (c : D0a) (t i : Nat) : D0a := ⟨P3a c.mem ((c.buf.getD t []).getD i ⟨[], []⟩), c.at_, c.buf.set t ((c.buf.getD t []).eraseIdx i)⟩
def doC (p : d0a) (model : Int) (c : D0a) (x : n0a) : D0a :=
 if x.step = -1 then G5a c x.thread.toNat (((c.buf.getD x.thread.toNat []).findIdx? fun e => e.cells.getD 0 0 = x.cell).getD 0)
 else match (e2a p x.thread.toNat)[x.step.toNat]? with | some s => A6a p model c x.thread.toNat s | none => c
section
variable {α : Type} [DecidableEq α]
variable (succ : α → List α) (a : α)
end
end Go.Fw
namespace Go.Fw
open Go.RowKit
section
variable {α : Type} [DecidableEq α] (succ : α → List α) (a : α)
inductive p2b (succ : α → List α) (a : α) : α → Prop
 | start : p2b succ a a
 | next {c d : α} (h : p2b succ a c) (hd : d ∈ succ c) : p2b succ a d
end
end Go.Fw
namespace Go.Fw
open Go.RowKit
theorem G1a {p : d0a} {m : Int} {c : D0a} {x : n0a} : x ∈ M0a p m c ↔ ∃ t, t < p.threads.length ∧
 ((∃ (i : Nat) (s : m1a), (e2a p t)[i]? = some s ∧ N0a p m c t s = true ∧ x = ⟨t, i, 0⟩) ∨
  (∃ i : Nat, i < (c.buf.getD t []).length ∧ Q3a m (c.buf.getD t []) i = true ∧ x = ⟨t, -1, ((c.buf.getD t []).getD i ⟨[], []⟩).cells.getD 0 0⟩)) := by
 unfold M0a
 rw [List.mem_flatMap]
 constructor
 ·rintro ⟨t, ht, h⟩
  refine ⟨t, List.mem_range.1 ht, ?_⟩
  unfold p3a at h
  rcases List.mem_append.1 h with h | h
  ·obtain ⟨i, hi, rfl⟩ := List.mem_map.1 h
   obtain ⟨hi, he⟩ := List.mem_filter.1 hi
   split at he
   ·rename_i s hs
    exact .inl ⟨i, s, hs, he, rfl⟩
   ·cases he
  ·obtain ⟨i, hi, rfl⟩ := List.mem_map.1 h
   obtain ⟨hi, he⟩ := List.mem_filter.1 hi
   exact .inr ⟨i, List.mem_range.1 hi, he, rfl⟩
 ·rintro ⟨t, ht, h⟩
  refine ⟨t, List.mem_range.2 ht, ?_⟩
  unfold p3a
  rw [List.mem_append]
  rcases h with ⟨i, s, hs, he, rfl⟩ | ⟨i, hi, he, rfl⟩
  ·refine .inl (List.mem_map.2 ⟨i, List.mem_filter.2 ⟨List.mem_range.2 (List.getElem?_eq_some_iff.1 hs).1, ?_⟩, rfl⟩)
   simp only [hs]; exact he
  ·exact .inr (List.mem_map.2 ⟨i, List.mem_filter.2 ⟨List.mem_range.2 hi, he⟩, rfl⟩)
theorem p2b.to {α : Type} {succ succ' : α → List α} {a x : α} (hx : p2b succ a x) (h : ∀ c d, p2b succ a c → p2b succ' a c → d ∈ succ c → p2b succ' a d) : p2b succ' a x := by
 induction hx with
 | start => exact .start
 | next hc hd ih => exact h _ _ hc ih hd
end Go.Fw
namespace Go.Fw
open Go.RowKit
theorem C5b {p : d0a} {m : Int} {c : D0a} {t i : Nat} {s : m1a} (hs : (e2a p t)[i]? = some s) : doC p m c ⟨t, i, 0⟩ = A6a p m c t s := by
 unfold doC
 rw [if_neg (by simp)]
 simp only [Int.toNat_natCast, hs]
theorem J2c {p : d0a} (hp : T0a p) {t i : Nat} {s : m1a} (ht : t < p.threads.length) (hs : (e2a p t)[i]? = some s) : F4a p t (p.threads[t]).points s := by
 have := (hp.threads t ht).steps s
 unfold e2a at hs
 rw [List.getD_eq_getElem?_getD, List.getElem?_eq_getElem ht] at hs
 exact this (List.mem_of_getElem? hs)
end Go.Fw
namespace Go.Fw
open Go.RowKit
def C9b (e : I0a) : List Int := (e.cells.length : Int) :: (e.cells.zip e.values).flatMap fun x => [x.1, x.2]
def O8b (b : List I0a) : List Int := (b.length : Int) :: b.flatMap C9b
def I0a.even (e : I0a) : Prop := e.values.length = e.cells.length
structure D0a.Shape (c : D0a) (n t : Nat) : Prop where
 mem : c.mem.length = n
 at_ : c.at_.length = t
 buf : c.buf.length = t
 even : ∀ b ∈ c.buf, ∀ e ∈ b, e.even
end Go.Fw
namespace Go.Fw
open Go.RowKit
theorem n8b {e : E} {lim : Int} (h : e.good lim = true) (old now : List Int) : 0 ≤ e.val old now ∧ e.val old now < B4a e.w.toNat := by
 obtain ⟨hsh, _⟩ := G7a h
 have hw : e.w ≤ 8 := hsh.2.1
 have hb : ∀ a, 0 ≤ y7b a (B4a e.w.toNat - 1) ∧ y7b a (B4a e.w.toNat - 1) < B4a e.w.toNat := fun a => by
  rw [m0c _ _ (by omega)]
  have := n2b e.w.toNat
  exact ⟨Int.emod_nonneg _ (by omega), Int.emod_lt_of_pos _ this⟩
 rw [E.val_def]
 by_cases o1 : e.op = 1
 ·rw [if_pos o1]; have := (D4b o1).1 hsh; omega
 ·rw [if_neg o1]
  split
  ·exact hb _
  ·split
   ·exact hb _
   ·exact hb _
theorem e0b {cells : List J1a} {pair : Bool} {e : E} (h : e.valid cells pair = true) (old now : List Int) : 0 ≤ e.evl old now ∧ e.evl old now < B4a e.w.toNat := by
 obtain ⟨h1, h2, _⟩ := Y4a h
 unfold E.evl
 rw [if_pos h1]
 exact n8b h2 old now
structure X4a (p : d0a) (m : List Int) : Prop where
 len : m.length = p.cells.length
 vals : ∀ (i : Nat) (v : Int), m[i]? = some v → 0 ≤ v ∧ v < B4a (wAt p.cells i).toNat
theorem X4a.set {p : d0a} {m : List Int} (h : X4a p m) {k : Nat} {v : Int} (hv : 0 ≤ v ∧ v < B4a (wAt p.cells k).toNat) : X4a p (m.set k v) := by
 refine ⟨by rw [List.length_set]; exact h.len, fun i x hi => ?_⟩
 rw [List.getElem?_set] at hi
 split at hi
 ·rename_i hk
  subst hk
  split at hi
  ·cases hi; exact hv
  ·cases hi
 ·exact h.vals i x hi
structure w0b (p : d0a) (e : I0a) : Prop where
 some_ : e.cells ≠ []
 even : e.even
 cells : ∀ (i : Nat) (n : Int), e.cells[i]? = some n → G2a n p.cells.length ∧ k1a p.cells n = -1 ∧ S0b p.cells n = decide (0 < i)
 vals : ∀ x ∈ e.cells.zip e.values, 0 ≤ x.2 ∧ x.2 < B4a (wAt p.cells x.1).toNat
 once : e.cells.Nodup
theorem X4a.write {p : d0a} {m : List Int} (h : X4a p m) {e : I0a} (he : w0b p e) : X4a p (P3a m e) := by
 unfold P3a
 have key : ∀ (l : List (Int × Int)) (m : List Int), X4a p m → (∀ x ∈ l, 0 ≤ x.1 ∧ 0 ≤ x.2 ∧ x.2 < B4a (wAt p.cells x.1).toNat) → X4a p (l.foldl (fun m x => m.set x.1.toNat x.2) m) := by
  intro l
  induction l with
  | nil => intro m h _; exact h
  | cons x l ih =>
    intro m h hl
    rw [List.foldl_cons]
    obtain ⟨h0, h1⟩ := hl x (by simp)
    exact ih _ (h.set (by rw [Int.toNat_of_nonneg h0]; exact h1)) fun y hy => hl y (by simp [hy])
 refine key _ m h fun x hx => ?_
 have hx1 := List.of_mem_zip (a := x.1) (b := x.2) hx
 obtain ⟨i, hi, hie⟩ := List.getElem_of_mem hx1.1
 have := he.cells i x.1 (by rw [List.getElem?_eq_getElem hi, hie])
 exact ⟨this.1.1, he.vals x hx⟩
end Go.Fw
namespace Go.Fw
open Go.RowKit
theorem C7c {p : d0a} {t : Nat} {n : Int} {s : m1a} (hs : F4a p t n s) (hk : s.kind = 3) (v : List Int) : w0b p (s3b p s.set v) := by
 obtain ⟨a, l, hset, ha1, ha2, hl⟩ := hs.row.k3 hk
 have hf : (s.set.filter fun a => k1a p.cells a.cell = -1) = a :: l.filter fun a => k1a p.cells a.cell = -1 := by
  rw [hset, List.filter_cons_of_pos (by simp [ha1])]
 have hmem : ∀ b ∈ s.set.filter fun a => k1a p.cells a.cell = -1, b ∈ s.set ∧ k1a p.cells b.cell = -1 := fun b hb => by
  obtain ⟨h1, h2⟩ := List.mem_filter.1 hb
  exact ⟨h1, by simpa using h2⟩
 refine ⟨?_, ?_, fun i x hi => ?_, fun x hx => ?_, ?_⟩
 ·unfold s3b; rw [hf]; simp
 ·unfold s3b I0a.even; simp
 ·unfold s3b at hi
  simp only [List.getElem?_map, Option.map_eq_some_iff] at hi
  obtain ⟨b, hb, rfl⟩ := hi
  obtain ⟨h1, h2⟩ := hmem b (List.mem_of_getElem? hb)
  refine ⟨(hs.set b h1).1, h2, ?_⟩
  rw [hf] at hb
  cases i with
  | zero => simp at hb; subst hb; simpa using ha2
  | succ i =>
    rw [List.getElem?_cons_succ] at hb
    have := hl b (List.mem_filter.1 (List.mem_of_getElem? hb)).1
    rw [this]; simp
 ·unfold s3b at hx
  simp only [List.zip_map'] at hx
  obtain ⟨b, hb, rfl⟩ := List.mem_map.1 hx
  obtain ⟨h1, h2⟩ := hmem b hb
  obtain ⟨_, h3, h4⟩ := hs.set b h1
  have := e0b h3 v v
  rw [h4] at this
  exact this
 ·unfold s3b List.Nodup
  simp only
  rw [List.pairwise_map]
  exact hs.once.filter _
theorem X4a.sets {p : d0a} {v : List Int} : ∀ (l : List N1a) (m : List Int), X4a p m → (∀ a ∈ l, G2a a.cell p.cells.length ∧ a.to.valid p.cells false = true ∧ a.to.w = wAt p.cells a.cell) → X4a p (A0b l v m)
 | [], _, h, _ => h
 | a :: l, m, h, hl => by
   obtain ⟨h1, h2, h3⟩ := hl a (by simp)
   have hr := e0b h2 v v
   rw [h3] at hr
   exact X4a.sets l _ (h.set (by rw [Int.toNat_of_nonneg h1.1]; exact hr)) fun b hb => hl b (by simp [hb])
structure b6a (p : d0a) (c : D0a) : Prop where
 mem : X4a p c.mem
 nat : c.at_.length = p.threads.length
 atr : ∀ (t : Nat) (x : Int), c.at_[t]? = some x → ∀ th, p.threads[t]? = some th → -1 ≤ x ∧ x < th.points ∧ (x = -1 → th.asleep = true)
 nbuf : c.buf.length = p.threads.length
 bufs : ∀ (t : Nat) (b : List I0a), c.buf[t]? = some b → b.length ≤ 3 ∧ (∀ e ∈ b, w0b p e) ∧ (c.at_[t]? = some (-1) → b = [])
theorem g0b {p : d0a} (hp : T0a p) : b6a p (v1a p) := by
 refine ⟨⟨by simp [v1a], fun i v hi => ?_⟩, by simp [v1a], fun t x hx th hth => ?_, by simp [v1a], fun t b hb => ?_⟩
 ·simp only [v1a, List.getElem?_map, Option.map_eq_some_iff] at hi
  obtain ⟨c, hc, rfl⟩ := hi
  have h := (hp.cells c (List.mem_of_getElem? hc)).init
  have hw : wAt p.cells i = c.w := by unfold wAt; simp [hc]
  rw [hw]; exact h
 ·simp only [v1a, List.getElem?_map, hth, Option.map_some, Option.some.injEq] at hx
  have hlt := (List.getElem?_eq_some_iff.1 hth).1
  have he := (List.getElem?_eq_some_iff.1 hth).2
  have h := (hp.threads t hlt).points
  rw [he] at h
  subst hx
  cases ha : th.asleep with
  | true => simp; omega
  | false => simp; omega
 ·simp only [v1a, List.getElem?_map, Option.map_eq_some_iff] at hb
  obtain ⟨_, _, rfl⟩ := hb
  simp
end Go.Fw
namespace Go.Fw
open Go.RowKit
theorem I4b {c : D0a} {t : Nat} {s : m1a} {u : Nat} {x : Int} (h : (atC c t s)[u]? = some x) : (u ≠ t ∧ c.at_[u]? = some x) ∨ (u = t ∧ x = s.to) ∨ (s.kind = 6 ∧ u = s.target.toNat ∧ x = 0) := by
 have key : ∀ x, (c.at_.set t s.to)[u]? = some x → (u ≠ t ∧ c.at_[u]? = some x) ∨ (u = t ∧ x = s.to) := fun x h => by
  rw [List.getElem?_set] at h
  split at h
  ·rename_i hh
   split at h
   ·cases h; exact .inr ⟨hh.symm, rfl⟩
   ·cases h
  ·rename_i hh
   exact .inl ⟨fun e => hh e.symm, h⟩
 unfold atC at h
 split at h
 ·rename_i hk
  rw [List.getElem?_set] at h
  split at h
  ·rename_i hh
   split at h
   ·cases h; exact .inr (.inr ⟨hk, hh.symm, rfl⟩)
   ·cases h
  ·rcases key x h with h | h
   ·exact .inl h
   ·exact .inr (.inl h)
 ·rcases key x h with h | h
  ·exact .inl h
  ·exact .inr (.inl h)
theorem v5a (c : D0a) (t : Nat) (s : m1a) : (atC c t s).length = c.at_.length := by
 unfold atC; split <;> simp
theorem O1b {p : d0a} (hp : T0a p) {t : Nat} {th : J0a} (h : p.threads[t]? = some th) : 1 ≤ th.points := by
 obtain ⟨hlt, rfl⟩ := List.getElem?_eq_some_iff.1 h
 exact (hp.threads t hlt).points.1
theorem k3c {p : d0a} (hp : T0a p) {c : D0a} (hf : b6a p c) {t : Nat} {s : m1a} (ht : t < p.threads.length) (hs : F4a p t (p.threads[t]).points s) :
 ∀ (u : Nat) (x : Int), (atC c t s)[u]? = some x → ∀ th, p.threads[u]? = some th → -1 ≤ x ∧ x < th.points ∧ (x = -1 → th.asleep = true) := by
 intro u x hx th hth
 rcases I4b hx with ⟨_, h⟩ | ⟨rfl, rfl⟩ | ⟨_, _, rfl⟩
 ·exact hf.atr u x h th hth
 ·obtain ⟨_, rfl⟩ := List.getElem?_eq_some_iff.1 hth
  have := hs.to
  omega
 ·have := O1b hp hth
  omega
theorem X1c {p : d0a} (hp : T0a p) {m : Int} {c : D0a} (hf : b6a p c) {t i : Nat} {s : m1a} (ht : t < p.threads.length) (hs : (e2a p t)[i]? = some s) (he : N0a p m c t s = true) : b6a p (A6a p m c t s) := by
 have hok := J2c hp ht hs
 have hsleep : ∀ u b, c.buf[u]? = some b → (atC c t s)[u]? = some (-1) → b = [] := fun u b hb hu => by
  rcases I4b hu with ⟨_, h⟩ | ⟨rfl, h⟩ | ⟨_, _, h⟩
  ·exact (hf.bufs u b hb).2.2 h
  ·have := hok.to; omega
  ·omega
 unfold A6a
 split
 ·rename_i hk
  have hlen : (c.buf.getD t []).length < 3 := by
   unfold N0a at he
   simp only [Bool.and_eq_true, if_pos hk.1, decide_eq_true_eq] at he
   rcases he.2.2 with h | h
   ·exact absurd h hk.2
   ·exact h.1
  have hlt : t < c.buf.length := by rw [hf.nbuf]; exact ht
  have hb := hf.bufs t (c.buf.getD t []) (by rw [List.getD_eq_getElem?_getD, List.getElem?_eq_getElem hlt]; rfl)
  refine ⟨X4a.sets _ _ hf.mem (fun a ha => hok.set a (List.mem_filter.1 ha).1), by simp only [v5a]; exact hf.nat, k3c hp hf ht hok, by simp only [List.length_set]; exact hf.nbuf, fun u b hu => ?_⟩
  simp only [List.getElem?_set] at hu
  split at hu
  ·rename_i htu
   subst htu
   cases hu
   refine ⟨by rw [List.length_append, List.length_singleton]; omega, fun e he' => ?_, fun hu => ?_⟩
   ·rcases List.mem_append.1 he' with h | h
    ·exact hb.2.1 e h
    ·rw [List.mem_singleton.1 h]; exact C7c hok hk.1 _
   ·exfalso
    rcases I4b hu with ⟨h, _⟩ | ⟨_, h⟩ | ⟨_, _, h⟩
    ·exact h rfl
    ·have := hok.to; omega
    ·omega
  ·exact ⟨(hf.bufs u b hu).1, (hf.bufs u b hu).2.1, hsleep u b hu⟩
 ·exact ⟨X4a.sets _ _ hf.mem (fun a ha => hok.set a ha), by simp only [v5a]; exact hf.nat, k3c hp hf ht hok, hf.nbuf, fun u b hu => ⟨(hf.bufs u b hu).1, (hf.bufs u b hu).2.1, hsleep u b hu⟩⟩
theorem b1b {p : d0a} {c : D0a} (hf : b6a p c) (t i : Nat) : b6a p (G5a c t i) := by
 unfold G5a
 refine ⟨?_, hf.nat, hf.atr, by simp only [List.length_set]; exact hf.nbuf, fun u b hu => ?_⟩
 ·by_cases hlt : t < c.buf.length
  ·have hb := hf.bufs t (c.buf.getD t []) (by rw [List.getD_eq_getElem?_getD, List.getElem?_eq_getElem hlt]; rfl)
   by_cases hi : i < (c.buf.getD t []).length
   ·rw [List.getD_eq_getElem?_getD (i := i), List.getElem?_eq_getElem hi]
    exact hf.mem.write (hb.2.1 _ (List.getElem_mem hi))
   ·rw [List.getD_eq_getElem?_getD (i := i), List.getElem?_eq_none (by omega)]
    exact hf.mem
  ·have h0 : c.buf.getD t [] = [] := by rw [List.getD_eq_getElem?_getD, List.getElem?_eq_none (by omega)]; rfl
   rw [h0]
   exact hf.mem
 ·simp only [List.getElem?_set] at hu
  split at hu
  ·rename_i htu
   subst htu
   split at hu
   ·rename_i hlt
    cases hu
    have hb := hf.bufs t (c.buf.getD t []) (by rw [List.getD_eq_getElem?_getD, List.getElem?_eq_getElem hlt]; rfl)
    refine ⟨Nat.le_trans (List.length_eraseIdx_le _ _) hb.1, fun e he => hb.2.1 e (List.mem_of_mem_eraseIdx he), fun h => ?_⟩
    rw [hb.2.2 h]; rfl
   ·cases hu
  ·exact hf.bufs u b hu
theorem Q6b {p : d0a} (hp : T0a p) {m : Int} {c : D0a} (hf : b6a p c) {x : n0a} (hx : x ∈ M0a p m c) : b6a p (doC p m c x) := by
 obtain ⟨_, ht, h | h⟩ := G1a.1 hx
 ·obtain ⟨i, _, hs, he, rfl⟩ := h
  rw [C5b hs]; exact X1c hp hf ht hs he
 ·obtain ⟨i, _, he, rfl⟩ := h
  unfold doC
  rw [if_pos rfl]
  exact b1b hf _ _
end Go.Fw
namespace Go.Fw
open Go.RowKit
theorem M6a : ∀ (n : Nat) (l : List Int), l.Nodup → (∀ x ∈ l, 0 ≤ x ∧ x < n) → l.length ≤ n
 | 0, l, _, h => by
   cases l with
   | nil => simp
   | cons x l => have := h x (by simp); omega
 | n + 1, l, hd, h => by
   by_cases hn : (n : Int) ∈ l
   ·have h1 := M6a n (l.erase (n : Int)) (hd.erase _) (fun x hx => by
     obtain ⟨_, h3⟩ := (hd.mem_erase_iff).1 hx
     have := h x h3
     omega)
    rw [List.length_erase_of_mem hn] at h1
    omega
   ·have h1 := M6a n l hd (fun x hx => by
     have := h x hx
     have : x ≠ (n : Int) := fun e => hn (e ▸ hx)
     omega)
    omega
theorem w0b.len {p : d0a} {e : I0a} (h : w0b p e) : e.cells.length ≤ p.cells.length :=
 M6a _ _ h.once fun x hx => by
  obtain ⟨i, hi, rfl⟩ := List.getElem_of_mem hx
  exact (h.cells i _ (List.getElem?_eq_getElem hi)).1
theorem V7c {p : d0a} (hp : T0a p) (x : Int) : wAt p.cells x ≤ 8 := by
 unfold wAt
 split
 ·cases h : p.cells[x.toNat]? with
  | none => simp
  | some c => simpa using (hp.cells c (List.mem_of_getElem? h)).w.2
 ·omega
theorem Z5b {p : d0a} (hp : T0a p) (x : Int) : B4a (wAt p.cells x).toNat ≤ 256 := by
 have h := V7c hp x
 have h2 : (2 : Nat) ^ (wAt p.cells x).toNat ≤ 2 ^ 8 := Nat.pow_le_pow_right (by omega) (by omega)
 rw [E6a]
 omega
theorem Y6b {p : d0a} (hp : T0a p) {c : D0a} (hf : b6a p c) : (∀ x ∈ c.mem, 0 ≤ x ∧ x ≤ 255) ∧ (∀ x ∈ c.at_, -1 ≤ x ∧ x ≤ 47) ∧ ∀ x ∈ c.buf.flatMap O8b, 0 ≤ x ∧ x ≤ 255 := by
 refine ⟨fun x hx => ?_, fun x hx => ?_, fun x hx => ?_⟩
 ·obtain ⟨i, hi, rfl⟩ := List.getElem_of_mem hx
  have := hf.mem.vals i _ (List.getElem?_eq_getElem hi)
  have := Z5b hp i
  omega
 ·obtain ⟨t, ht, rfl⟩ := List.getElem_of_mem hx
  have hlt : t < p.threads.length := by rw [← hf.nat]; exact ht
  have h1 := hf.atr t _ (List.getElem?_eq_getElem ht) _ (List.getElem?_eq_getElem hlt)
  have h2 := (hp.threads t hlt).points
  omega
 ·obtain ⟨b, hb, hx⟩ := List.mem_flatMap.1 hx
  obtain ⟨t, ht, rfl⟩ := List.getElem_of_mem hb
  obtain ⟨h1, h2, _⟩ := hf.bufs t _ (List.getElem?_eq_getElem ht)
  unfold O8b at hx
  rcases List.mem_cons.1 hx with rfl | hx
  ·omega
  ·obtain ⟨e, he, hx⟩ := List.mem_flatMap.1 hx
   have hE := h2 e he
   unfold C9b at hx
   rcases List.mem_cons.1 hx with rfl | hx
   ·have := hE.len
    have := hp.ncells
    omega
   ·obtain ⟨y, hy, hx⟩ := List.mem_flatMap.1 hx
    have h3 := hE.vals y hy
    have h4 := Z5b hp y.1
    obtain ⟨i, hi, hie⟩ := List.getElem_of_mem (List.of_mem_zip (a := y.1) (b := y.2) hy).1
    have h5 := (hE.cells i y.1 (by rw [List.getElem?_eq_getElem hi, hie])).1
    have h6 := hp.ncells
    obtain ⟨_, _⟩ := h5
    simp only [List.mem_cons, List.not_mem_nil, or_false] at hx
    rcases hx with rfl | rfl <;> omega
end Go.Fw
namespace Go.Fw
open Go.RowKit
section
variable {M : List Nat} {w : World}
theorem O0a.open_ {c : D0a} {cs : List Value} (h : O0a M w c cs) : ∃ Am nm cm Aa na ca Ab nb cb, cs = [.slice Am nm cm, .slice Aa na ca, .slice Ab nb cb] ∧
 RdI M w (.slice Am nm cm) c.mem ∧ RdI M w (.slice Aa na ca) c.at_ ∧ W6c M w (.slice Ab nb cb) c.buf ∧
 nm = c.mem.length ∧ na = c.at_.length ∧ nb = c.buf.length ∧ nm ≤ 140737488355328 ∧ na ≤ 140737488355328 ∧ nb ≤ 140737488355328 := by
 obtain ⟨_, _, _, rfl, h1, h2, h3⟩ := h
 obtain ⟨Am, nm, cm, rfl⟩ := h1.form
 obtain ⟨Aa, na, ca, rfl⟩ := h2.form
 obtain ⟨Ab, nb, cb, rfl⟩ := h3.form
 exact ⟨_, _, _, _, _, _, _, _, _, rfl, h1, h2, h3, h1.len.1, h2.len.1, h3.len.1, h1.len.2.2, h2.len.2.2, h3.len.2.2⟩
theorem b7a.open_ {b : List I0a} {cs : List Value} (h : b7a M w cs b) : ∃ A n c, cs = [.slice A n c] ∧ U6c M w (.slice A n c) b ∧ n = b.length ∧ n ≤ 140737488355328 := by
 obtain ⟨_, rfl, h1⟩ := h
 obtain ⟨A, n, c, rfl⟩ := h1.form
 exact ⟨_, _, _, rfl, h1, h1.len.1, h1.len.2.2⟩
theorem e1a.open_ {e : I0a} {cs : List Value} (h : e1a M w cs e) : ∃ Ac nc cc Av nv cv, cs = [.slice Ac nc cc, .slice Av nv cv] ∧ RdI M w (.slice Ac nc cc) e.cells ∧ RdI M w (.slice Av nv cv) e.values ∧ nc = e.cells.length ∧ nv = e.values.length ∧ nc ≤ 140737488355328 ∧ nv ≤ 140737488355328 := by
 obtain ⟨_, _, rfl, h1, h2⟩ := h
 obtain ⟨Ac, nc, cc, rfl⟩ := h1.form
 obtain ⟨Av, nv, cv, rfl⟩ := h2.form
 exact ⟨_, _, _, _, _, _, rfl, h1, h2, h1.len.1, h2.len.1, h1.len.2.2, h2.len.2.2⟩
end
theorem d0d {cells : List J1a} {k : Nat} {c : J1a} (h : cells[k]? = some c) : wAt cells (k : Int) = c.w := X9a (by omega) (by simpa using h)
end Go.Fw
namespace Go.Proofs.YtjjmdcnmeommbaaGreatDoor
open Go.Fw Go.RowKit
structure InP (p : d0a) (M : List Nat) (w : World) (cs : List Value) : Prop where
 rd : g1a M w p cs
 ok : T0a p
 msk : c3a M w
 lt : ∀ g ∈ M, g < w.heap.size
theorem InP.keep {p : d0a} {M : List Nat} {w w' : World} {cs : List Value} (h : InP p M w cs) (hk : C0a M w w') : InP p M w' cs :=
 ⟨h.rd.keep hk, h.ok, h.msk.keep hk, fun g hg => Nat.lt_of_lt_of_le (h.lt g hg) hk.size⟩
theorem E2b {w0 w : World} {L : List Ent} {g t k : Nat} {cs : List Value} {M : List Nat} (S : St [] w0 w L) (hk : L[k]? = some (some g, t, cs)) : ∀ x ∈ g :: M, x ∈ M ∨ w0.heap.size ≤ x := fun x hx => by
 rcases List.mem_cons.1 hx with rfl | h
 ·rcases S.new k hk with h | h
  ·exact .inr h
  ·cases h
 ·exact .inl h
theorem InP.add {p : d0a} {M : List Nat} {w0 w : World} {cs : List Value} (h : InP p M w0 cs) {L : List Ent} {g t k : Nat} {cs' : List Value} (S : St [] w0 w L) (hk : L[k]? = some (some g, t, cs')) : InP p (g :: M) w cs :=
 ⟨(h.rd.more (E2b S hk)).keep (S.keep0 _), h.ok, (h.msk.more (E2b S hk)).keep (S.keep0 _), fun x hx => by
   rcases List.mem_cons.1 hx with rfl | hx
   ·exact S.lt k hk
   ·exact Nat.lt_of_lt_of_le (h.lt x hx) S.size⟩
theorem O0a.add {c : D0a} {M : List Nat} {w0 w : World} {cs : List Value} (h : O0a M w0 c cs) {L : List Ent} {g t k : Nat} {cs' : List Value} (S : St [] w0 w L) (hk : L[k]? = some (some g, t, cs')) : O0a (g :: M) w c cs :=
 (h.more (E2b S hk)).keep (S.keep0 _)
end Go.Proofs.YtjjmdcnmeommbaaGreatDoor
set_option maxRecDepth 100000
namespace Go.Proofs.YtjjmdcnmeommbaaGreatDoor
open Go.Fw Go.RowKit Go.ChangeShapes Go.WideShapes
section
variable {H : Type} {enc : TypeId × Value → H} {P : Program} {W : World} {base : Nat} {sp : Nat → Bool} {held : Bool}
def i3a (P : Program) (t : TypeId) (d : DataW H) : Prop := ∀ m ∈ d.weights P t, m ≤ reachBytes
theorem M2a {n : Int} (h : (Lit.int .i64 n).wf = true) : i64 n := by
 simp [Lit.wf, IntKind.min, IntKind.max, IntKind.signed, IntKind.bits] at h; exact h
theorem E8b {a : Addr} {v : Value} (h : W.cell? a = some v) : a = ⟨a.block, a.off, none⟩ := by
 obtain ⟨_, _, s⟩ := a
 cases s with
 | none => rfl
 | some x => unfold World.cell? at h; split at h <;> simp at h
theorem h3b {e : TypeId} {l : List (DataW H)} {i : Nat} {d : DataW H} (hi : l[i]? = some d) : ∀ m ∈ d.weights P e, m ∈ DataW.weightsAll P e l := by
 induction l generalizing i with
 | nil => simp at hi
 | cons x xs ih =>
   intro m hm
   rw [DataW.weightsAll]
   cases i with
   | zero => simp at hi; subst hi; exact List.mem_append_left _ hm
   | succ i => exact List.mem_append_right _ (ih (by simpa using hi) m hm)
theorem E2a {α : Type} {size t e : Nat} {fuel : Nat} {R : List Value → α → Prop} {v : Value} {x : DataW H × List MemPlace} (ht : P.underlying t = some (.slice e)) (hc : P.cellsOf e = size) (hs : 0 < size) (hby : 1 ≤ P.bytesOf e)
 (hel : ∀ (n : Nat) (cs : List Value) (y : DataW H × List MemPlace), n < fuel → cs.length = size → DataW.trod enc P W base sp held n e cs = some y → i3a P e y.1 → ∃ a, R cs a)
 (h : DataW.trod enc P W base sp held fuel t [v] = some x) (hw : i3a P t x.1) : ∃ l, RdS [] W size R v l := by
 rcases DataW.trod_slice ht h with ⟨h1, h2⟩ | ⟨a, len, cap, elems, rest, n, hf, h1, h2, hb, hl, hm, hlen, hget, -, -⟩
 ·cases h1
  exact ⟨[], none, 0, 0, rfl, rfl, Nat.le_refl _, by unfold maxLen; omega, by omega, fun h => absurd h (by omega)⟩
 ·cases h1
  have hwx : i3a P t (.slice (elems.map (·.1)) (rest.map (·.1))) := by rw [h2] at hw; exact hw
  have hlen2 : len ≤ 140737488355328 := by
   have := hwx ((elems.length + rest.length) * P.bytesOf e) (by rw [DataW.weights, ht]; simp)
   have h3 : len * 1 ≤ (elems.length + rest.length) * P.bytesOf e := Nat.mul_le_mul (by omega) hby
   unfold reachBytes at this; omega
  have each : ∀ i, i < len → ∃ cs q, cs.length = size ∧ R cs q ∧ ∀ j, j < size → W.cell? ((a.add (i * size)).add j) = cs[j]? := by
   intro i hi
   have hg := hget i hi
   have hie : i < elems.length := by omega
   rw [List.getElem?_eq_getElem hie, Option.bind_eq_some_iff] at hg
   obtain ⟨cs, hcs, htr⟩ := hg
   rw [hc] at hcs
   obtain ⟨-, hcl, hcell⟩ := World.cells?_some hcs
   obtain ⟨q, hq⟩ := hel n cs _ (by omega) hcl htr (fun m hm' => by
    refine hwx m ?_
    rw [DataW.weights, ht]
    refine List.mem_cons_of_mem _ (List.mem_append_left _ (h3b (i := i) ?_ m hm'))
    rw [List.getElem?_map, List.getElem?_eq_getElem hie]; rfl)
   exact ⟨cs, q, hcl, hq, hcell⟩
  by_cases h0 : len = 0
  ·subst h0
   exact ⟨[], some a, 0, cap, rfl, rfl, hl, hm, by omega, fun h => absurd h (by omega)⟩
  ·have ha : a = ⟨a.block, a.off, none⟩ := by
    obtain ⟨cs, q, hcl, _, hcell⟩ := each 0 (by omega)
    have := hcell 0 (by omega)
    rw [List.getElem?_eq_getElem (by omega)] at this
    simp only [Nat.zero_mul, Addr.add_zero'] at this
    exact E8b this
   let f : Fin len → α := fun i => Classical.choose (Classical.choose_spec (each i.1 i.2))
   have hf' : ∀ i : Fin len, ∃ cs : List Value, cs.length = size ∧ R cs (f i) ∧ ∀ j, j < size → W.cell? ((a.add (i.1 * size)).add j) = cs[j]? := fun i =>
    ⟨Classical.choose (each i.1 i.2), Classical.choose_spec (Classical.choose_spec (each i.1 i.2))⟩
   refine ⟨List.ofFn f, some a, len, cap, rfl, by simp, hl, hm, hlen2, fun _ => ⟨a.block, a.off, by rw [← ha], by simp, fun i x hx => ?_⟩⟩
   have hi : i < len := by have := (List.getElem?_eq_some_iff.1 hx).1; simpa using this
   have hx' : x = f ⟨i, hi⟩ := by
    rw [List.getElem?_eq_getElem (by simpa using hi)] at hx
    simp at hx; exact hx.symm
   obtain ⟨cs, hcl, hR, hcell⟩ := hf' ⟨i, hi⟩
   refine ⟨cs, hcl, fun j u hj => ?_, by rw [hx']; exact hR⟩
   have hjs : j < size := by have := (List.getElem?_eq_some_iff.1 hj).1; omega
   have := hcell j hjs
   rw [hj] at this
   rw [ha] at this
   rw [Addr.add_lit, Addr.add_lit] at this
   exact this
theorem k2b {t : TypeId} {fs : Array Field} {xs : List (DataW H × List MemPlace)} {i : Nat} {f : Field} {y : DataW H × List MemPlace} (ht : P.underlying t = some (.struct fs)) (hw : i3a P t (.agg (xs.map (·.1)))) (hf : fs[i]? = some f) (hy : xs[i]? = some y) : i3a P f.type y.1 := fun m hm => by
 refine hw m ?_
 rw [DataW.weights, ht]
 refine DataW.weights_mem_each (j := i) (t := f.type) (d := y.1) ?_ ?_ m hm
 ·rw [List.getElem?_map]; simp [hf]
 ·rw [List.getElem?_map, hy]; rfl
theorem o0d {l : List Value} (h : l.length = 3) : ∃ a0 a1 a2, l = [a0, a1, a2] := by
 match l, h with
 | [a0, a1, a2], _ => exact ⟨a0, a1, a2, rfl⟩
theorem f0d {l : List Value} (h : l.length = 4) : ∃ a0 a1 a2 a3, l = [a0, a1, a2, a3] := by
 match l, h with
 | [a0, a1, a2, a3], _ => exact ⟨a0, a1, a2, a3, rfl⟩
theorem i0d {l : List Value} (h : l.length = 5) : ∃ a0 a1 a2 a3 a4, l = [a0, a1, a2, a3, a4] := by
 match l, h with
 | [a0, a1, a2, a3, a4], _ => exact ⟨a0, a1, a2, a3, a4, rfl⟩
theorem E9c {l : List Value} (h : l.length = 6) : ∃ a0 a1 a2 a3 a4 a5, l = [a0, a1, a2, a3, a4, a5] := by
 match l, h with
 | [a0, a1, a2, a3, a4, a5], _ => exact ⟨a0, a1, a2, a3, a4, a5, rfl⟩
theorem k0d {l : List Value} (h : l.length = 7) : ∃ a0 a1 a2 a3 a4 a5 a6, l = [a0, a1, a2, a3, a4, a5, a6] := by
 match l, h with
 | [a0, a1, a2, a3, a4, a5, a6], _ => exact ⟨a0, a1, a2, a3, a4, a5, a6, rfl⟩
theorem k7c {l : List Value} (h : l.length = 11) : ∃ a0 a1 a2 a3 a4 a5 a6 a7 a8 a9 a10, l = [a0, a1, a2, a3, a4, a5, a6, a7, a8, a9, a10] := by
 match l, h with
 | [a0, a1, a2, a3, a4, a5, a6, a7, a8, a9, a10], _ => exact ⟨a0, a1, a2, a3, a4, a5, a6, a7, a8, a9, a10, rfl⟩
theorem H0a {t : TypeId} {fs : Array Field} {cs : List Value} {xs : List (DataW H × List MemPlace)} {n : Nat} (i ty off : Nat) (hlen : xs.length = fs.size) (hget : ∀ (i : Nat) (f : Field), fs[i]? = some f → DataW.trod enc P W base sp held n f.type ((cs.drop f.offset).take (P.cellsOf f.type)) = xs[i]?) (ht : P.underlying t = some (.struct fs)) (hw : i3a P t (.agg (xs.map (·.1)))) (hf : (fs[i]?).map (fun f => (f.type, f.offset)) = some (ty, off)) :
 ∃ y, DataW.trod enc P W base sp held n ty ((cs.drop off).take (P.cellsOf ty)) = some y ∧ i3a P ty y.1 := by
 cases hfi : fs[i]? with
 | none => rw [hfi] at hf; cases hf
 | some f =>
   rw [hfi] at hf
   simp only [Option.map_some, Option.some.injEq, Prod.mk.injEq] at hf
   obtain ⟨rfl, rfl⟩ := hf
   have hi : i < xs.length := by rw [hlen]; exact (Array.getElem?_eq_some_iff.1 hfi).1
   exact ⟨xs[i], by rw [hget i f hfi, List.getElem?_eq_getElem hi], k2b ht hw hfi (List.getElem?_eq_getElem hi)⟩
end
section
variable {H : Type} {enc : TypeId × Value → H} {W : World} {base : Nat} {sp : Nat → Bool} {held : Bool}
theorem u8c {n : Int} (h : (Lit.int .u8 n).wf = true) : 0 ≤ n ∧ n ≤ 255 := by simpa [Lit.wf, IntKind.min, IntKind.max, IntKind.signed, IntKind.bits] using h
theorem R6b {t : TypeId} {s : ByteArray} {y : DataW H × List MemPlace} (hx : y = (.lit (.string s.data.toList), [])) (hw : i3a Tryz.prog t y.1) : s.size ≤ 140737488355328 := by
 have h := hw s.data.toList.length (by rw [hx]; exact List.mem_singleton.2 rfl)
 have e : s.data.toList.length = s.size := Array.length_toList
 unfold reachBytes at h; omega
theorem R4b {α : Type} {M : List Nat} {w : World} {size : Nat} {R : List Value → α → Prop} {Q : α → Prop} {v : Value} {l : List α} (h : RdS M w size R v l) (hq : ∀ cs x, R cs x → Q x) : ∀ x ∈ l, Q x := fun x hx => by
 obtain ⟨_, _, _, rfl⟩ := h.form
 obtain ⟨i, hi⟩ := List.mem_iff_getElem?.1 hx
 obtain ⟨_, _, _, cs, h1, -, -, -, -, h2⟩ := RdS.get h i (List.getElem?_eq_some_iff.1 hi).1
 rw [hi] at h1; cases h1
 exact hq _ _ h2
theorem m0b : Tryz.prog.cellsOf 3 = 1 := by kernel_rfl
theorem V4b : Tryz.prog.cellsOf 4 = 1 := by kernel_rfl
theorem F9a : Tryz.prog.cellsOf 9 = 1 := by kernel_rfl
theorem c3 : Tryz.prog.cellsOf 3 = 1 := by kernel_rfl
theorem g8c : Tryz.prog.cellsOf 54 = 1 := by kernel_rfl
theorem T5c : Tryz.prog.cellsOf 56 = 4 := by kernel_rfl
theorem B7c : 1 ≤ Tryz.prog.bytesOf 56 := of_decide_eq_true (by kernel_rfl)
theorem n0d : 1 ≤ Tryz.prog.bytesOf 3 := of_decide_eq_true (by kernel_rfl)
theorem h4a : ∀ (fuel : Nat) (cs : List Value) (x : DataW H × List MemPlace), DataW.trod enc Tryz.prog W base sp held fuel 56 cs = some x → i3a Tryz.prog 56 x.1 → ∃ e, RdE [] W e cs := by
 intro fuel
 induction fuel using Nat.strongRecOn with
 | _ fuel ih =>
 intro cs x h hw
 obtain ⟨_, _, _, hx, hl, hlen, hget⟩ := DataW.trod_struct Tryz.underlying56 h
 rw [hx] at hw
 rw [T5c] at hl
 obtain ⟨_, t0, -⟩ := H0a 0 3 0 hlen hget Tryz.underlying56 hw rfl
 obtain ⟨_, t1, -⟩ := H0a 1 3 1 hlen hget Tryz.underlying56 hw rfl
 obtain ⟨_, t2, -⟩ := H0a 2 3 2 hlen hget Tryz.underlying56 hw rfl
 obtain ⟨_, t3, w3⟩ := H0a 3 54 3 hlen hget Tryz.underlying56 hw rfl
 simp only [c3, g8c] at t0 t1 t2 t3
 obtain ⟨_, _, _, _, rfl⟩ := f0d hl
 simp only [List.drop_succ_cons, List.drop_zero, List.take_succ_cons, List.take_zero] at t0 t1 t2 t3
 obtain ⟨m0, e0, -, f0⟩ := DataW.trod_int Tryz.underlying3 t0
 obtain ⟨m1, e1, -, f1⟩ := DataW.trod_int Tryz.underlying3 t1
 obtain ⟨m2, e2, -, f2⟩ := DataW.trod_int Tryz.underlying3 t2
 cases e0; cases e1; cases e2
 obtain ⟨ks, hks⟩ := E2a (R := fun cs e => RdE [] W e cs) Tryz.underlying54 T5c (by omega) B7c (fun k cs y hk _ hy hl => ih k (by omega) cs y hy hl) t3 w3
 obtain ⟨A, k, c, rfl, hk, hkc, hcm, hbig, hel⟩ := hks
 refine ⟨⟨m0, m1, m2, ks⟩, ?_⟩
 rw [RdE]
 refine ⟨A, k, c, rfl, M2a f0, M2a f1, M2a f2, hk, hkc, hcm, hbig, fun h0 => ?_⟩
 obtain ⟨b, o, hA, hb, hel⟩ := hel h0
 refine ⟨b, o, hA, hb, fun i hi => ?_⟩
 obtain ⟨cs', -, hc, hr⟩ := hel i ks[i] (List.getElem?_eq_getElem hi)
 exact ⟨cs', hc, hr⟩
theorem c8a {fuel : Nat} {v : Value} {x : DataW H × List MemPlace} (h : DataW.trod enc Tryz.prog W base sp held fuel 49 [v] = some x) (hw : i3a Tryz.prog 49 x.1) : ∃ l, RdI [] W v l :=
 E2a Tryz.underlying49 c3 (by omega) n0d (fun n cs y _ _ hy _ => by
  obtain ⟨m, e, -, f⟩ := DataW.trod_int Tryz.underlying3 hy
  exact ⟨m, e, M2a f⟩) h hw
theorem a7b {fuel : Nat} {v : Value} {x : DataW H × List MemPlace} (h : DataW.trod enc Tryz.prog W base sp held fuel 54 [v] = some x) (hw : i3a Tryz.prog 54 x.1) : ∃ l, a4c [] W v l :=
 E2a Tryz.underlying54 T5c (by omega) B7c (fun n cs y _ _ hy hl => h4a n cs y hy hl) h hw
theorem Z3a : Tryz.prog.cellsOf 96 = 6 := by kernel_rfl
theorem J8b {fuel : Nat} {cs : List Value} {x : DataW H × List MemPlace} (h : DataW.trod enc Tryz.prog W base sp held fuel 96 cs = some x) (hw : i3a Tryz.prog 96 x.1) : ∃ c, K2a cs c ∧ c.name.size ≤ 140737488355328 := by
 obtain ⟨_, _, _, hx, hl, hlen, hget⟩ := DataW.trod_struct Tryz.underlying96 h
 rw [hx] at hw
 rw [Z3a] at hl
 obtain ⟨_, t0, w0⟩ := H0a 0 9 0 hlen hget Tryz.underlying96 hw rfl
 obtain ⟨_, t1, -⟩ := H0a 1 3 1 hlen hget Tryz.underlying96 hw rfl
 obtain ⟨_, t2, -⟩ := H0a 2 3 2 hlen hget Tryz.underlying96 hw rfl
 obtain ⟨_, t3, -⟩ := H0a 3 3 3 hlen hget Tryz.underlying96 hw rfl
 obtain ⟨_, t4, -⟩ := H0a 4 4 4 hlen hget Tryz.underlying96 hw rfl
 obtain ⟨_, t5, -⟩ := H0a 5 3 5 hlen hget Tryz.underlying96 hw rfl
 simp only [F9a, m0b, V4b] at t0 t1 t2 t3 t4 t5
 obtain ⟨_, _, _, _, _, _, rfl⟩ := E9c hl
 simp only [List.drop_succ_cons, List.drop_zero, List.take_succ_cons, List.take_zero] at t0 t1 t2 t3 t4 t5
 obtain ⟨m0, e0, s0, -⟩ := DataW.trod_string Tryz.underlying9 t0
 obtain ⟨m1, e1, -, f1⟩ := DataW.trod_int Tryz.underlying3 t1
 obtain ⟨m2, e2, -, f2⟩ := DataW.trod_int Tryz.underlying3 t2
 obtain ⟨m3, e3, -, f3⟩ := DataW.trod_int Tryz.underlying3 t3
 obtain ⟨m4, e4, -⟩ := DataW.trod_bool Tryz.underlying4 t4
 obtain ⟨m5, e5, -, f5⟩ := DataW.trod_int Tryz.underlying3 t5
 cases e0; cases e1; cases e2; cases e3; cases e4; cases e5
 exact ⟨⟨m0, m1, m2, m3, m4, m5⟩, ⟨rfl, M2a f1, M2a f2, M2a f3, M2a f5⟩, R6b s0 w0⟩
theorem u9c : 1 ≤ Tryz.prog.bytesOf 96 := of_decide_eq_true (by kernel_rfl)
theorem O7b {fuel : Nat} {v : Value} {x : DataW H × List MemPlace} (h : DataW.trod enc Tryz.prog W base sp held fuel 22 [v] = some x) (hw : i3a Tryz.prog 22 x.1) : ∃ l, q6c [] W v l ∧ ∀ c ∈ l, c.name.size ≤ 140737488355328 := by
 obtain ⟨l, hl⟩ := E2a Tryz.underlying22 Z3a (by omega) u9c (fun n cs y _ _ hy hl => J8b hy hl) h hw
 exact ⟨l, hl.mono (fun _ _ h => h.1), R4b hl (fun _ _ h => h.2)⟩
theorem L1a : Tryz.prog.cellsOf 56 = 4 := by kernel_rfl
theorem C3a : Tryz.prog.cellsOf 98 = 5 := by kernel_rfl
theorem G4b {fuel : Nat} {cs : List Value} {x : DataW H × List MemPlace} (h : DataW.trod enc Tryz.prog W base sp held fuel 98 cs = some x) (hw : i3a Tryz.prog 98 x.1) : ∃ c, Q0a [] W cs c := by
 obtain ⟨_, _, _, hx, hl, hlen, hget⟩ := DataW.trod_struct Tryz.underlying98 h
 rw [hx] at hw
 rw [C3a] at hl
 obtain ⟨_, t0, -⟩ := H0a 0 3 0 hlen hget Tryz.underlying98 hw rfl
 obtain ⟨_, t1, w1⟩ := H0a 1 56 1 hlen hget Tryz.underlying98 hw rfl
 simp only [m0b, L1a] at t0 t1
 obtain ⟨_, _, _, _, _, rfl⟩ := i0d hl
 simp only [List.drop_succ_cons, List.drop_zero, List.take_succ_cons, List.take_zero] at t0 t1
 obtain ⟨m0, e0, -, f0⟩ := DataW.trod_int Tryz.underlying3 t0
 obtain ⟨x1, h1⟩ := h4a _ _ _ t1 w1
 cases e0
 exact ⟨⟨m0, x1⟩, _, rfl, M2a f0, h1⟩
theorem J5c : 1 ≤ Tryz.prog.bytesOf 98 := of_decide_eq_true (by kernel_rfl)
theorem U2b {fuel : Nat} {v : Value} {x : DataW H × List MemPlace} (h : DataW.trod enc Tryz.prog W base sp held fuel 86 [v] = some x) (hw : i3a Tryz.prog 86 x.1) : ∃ l, Y6c [] W v l :=
 E2a Tryz.underlying86 C3a (by omega) J5c (fun n cs y _ _ hy hl => G4b hy hl) h hw
theorem F1b : Tryz.prog.cellsOf 86 = 1 := by kernel_rfl
theorem f4a : Tryz.prog.cellsOf 88 = 11 := by kernel_rfl
theorem A9b {fuel : Nat} {cs : List Value} {x : DataW H × List MemPlace} (h : DataW.trod enc Tryz.prog W base sp held fuel 88 cs = some x) (hw : i3a Tryz.prog 88 x.1) : ∃ c, A1a [] W cs c := by
 obtain ⟨_, _, _, hx, hl, hlen, hget⟩ := DataW.trod_struct Tryz.underlying88 h
 rw [hx] at hw
 rw [f4a] at hl
 obtain ⟨_, t0, -⟩ := H0a 0 3 0 hlen hget Tryz.underlying88 hw rfl
 obtain ⟨_, t1, -⟩ := H0a 1 3 1 hlen hget Tryz.underlying88 hw rfl
 obtain ⟨_, t2, -⟩ := H0a 2 3 2 hlen hget Tryz.underlying88 hw rfl
 obtain ⟨_, t3, w3⟩ := H0a 3 56 3 hlen hget Tryz.underlying88 hw rfl
 obtain ⟨_, t4, w4⟩ := H0a 4 86 7 hlen hget Tryz.underlying88 hw rfl
 obtain ⟨_, t5, -⟩ := H0a 5 4 8 hlen hget Tryz.underlying88 hw rfl
 obtain ⟨_, t6, -⟩ := H0a 6 3 9 hlen hget Tryz.underlying88 hw rfl
 obtain ⟨_, t7, -⟩ := H0a 7 3 10 hlen hget Tryz.underlying88 hw rfl
 simp only [m0b, L1a, F1b, V4b] at t0 t1 t2 t3 t4 t5 t6 t7
 obtain ⟨_, _, _, _, _, _, _, _, _, _, _, rfl⟩ := k7c hl
 simp only [List.drop_succ_cons, List.drop_zero, List.take_succ_cons, List.take_zero] at t0 t1 t2 t3 t4 t5 t6 t7
 obtain ⟨m0, e0, -, f0⟩ := DataW.trod_int Tryz.underlying3 t0
 obtain ⟨m1, e1, -, f1⟩ := DataW.trod_int Tryz.underlying3 t1
 obtain ⟨m2, e2, -, f2⟩ := DataW.trod_int Tryz.underlying3 t2
 obtain ⟨x3, h3⟩ := h4a _ _ _ t3 w3
 obtain ⟨x4, h4⟩ := U2b t4 w4
 obtain ⟨m5, e5, -⟩ := DataW.trod_bool Tryz.underlying4 t5
 obtain ⟨m6, e6, -, f6⟩ := DataW.trod_int Tryz.underlying3 t6
 obtain ⟨m7, e7, -, f7⟩ := DataW.trod_int Tryz.underlying3 t7
 cases e0; cases e1; cases e2; cases e5; cases e6; cases e7
 exact ⟨⟨m0, m1, m2, x3, x4, m5, m6, m7⟩, _, _, _, _, _, rfl, M2a f0, M2a f1, M2a f2, M2a f6, M2a f7, h3, h4⟩
theorem D9c : 1 ≤ Tryz.prog.bytesOf 88 := of_decide_eq_true (by kernel_rfl)
theorem A7b {fuel : Nat} {v : Value} {x : DataW H × List MemPlace} (h : DataW.trod enc Tryz.prog W base sp held fuel 57 [v] = some x) (hw : i3a Tryz.prog 57 x.1) : ∃ l, V8c [] W v l :=
 E2a Tryz.underlying57 f4a (by omega) D9c (fun n cs y _ _ hy hl => A9b hy hl) h hw
theorem p5b : Tryz.prog.cellsOf 49 = 1 := by kernel_rfl
theorem e4a : Tryz.prog.cellsOf 100 = 6 := by kernel_rfl
theorem M9b {fuel : Nat} {cs : List Value} {x : DataW H × List MemPlace} (h : DataW.trod enc Tryz.prog W base sp held fuel 100 cs = some x) (hw : i3a Tryz.prog 100 x.1) : ∃ c, C4a [] W cs c := by
 obtain ⟨_, _, _, hx, hl, hlen, hget⟩ := DataW.trod_struct Tryz.underlying100 h
 rw [hx] at hw
 rw [e4a] at hl
 obtain ⟨_, t0, -⟩ := H0a 0 3 0 hlen hget Tryz.underlying100 hw rfl
 obtain ⟨_, t1, w1⟩ := H0a 1 49 1 hlen hget Tryz.underlying100 hw rfl
 obtain ⟨_, t2, w2⟩ := H0a 2 56 2 hlen hget Tryz.underlying100 hw rfl
 simp only [m0b, p5b, L1a] at t0 t1 t2
 obtain ⟨_, _, _, _, _, _, rfl⟩ := E9c hl
 simp only [List.drop_succ_cons, List.drop_zero, List.take_succ_cons, List.take_zero] at t0 t1 t2
 obtain ⟨m0, e0, -, f0⟩ := DataW.trod_int Tryz.underlying3 t0
 obtain ⟨x1, h1⟩ := c8a t1 w1
 obtain ⟨x2, h2⟩ := h4a _ _ _ t2 w2
 cases e0
 exact ⟨⟨m0, x1, x2⟩, _, _, _, _, _, rfl, M2a f0, h1, h2⟩
theorem t9c : 1 ≤ Tryz.prog.bytesOf 100 := of_decide_eq_true (by kernel_rfl)
theorem L7b {fuel : Nat} {v : Value} {x : DataW H × List MemPlace} (h : DataW.trod enc Tryz.prog W base sp held fuel 58 [v] = some x) (hw : i3a Tryz.prog 58 x.1) : ∃ l, N9c [] W v l :=
 E2a Tryz.underlying58 e4a (by omega) t9c (fun n cs y _ _ hy hl => M9b hy hl) h hw
theorem y5b : Tryz.prog.cellsOf 54 = 1 := by kernel_rfl
theorem j5b : Tryz.prog.cellsOf 57 = 1 := by kernel_rfl
theorem R5b : Tryz.prog.cellsOf 58 = 1 := by kernel_rfl
theorem B3a : Tryz.prog.cellsOf 60 = 7 := by kernel_rfl
theorem P5b {fuel : Nat} {cs : List Value} {x : DataW H × List MemPlace} (h : DataW.trod enc Tryz.prog W base sp held fuel 60 cs = some x) (hw : i3a Tryz.prog 60 x.1) : ∃ c, v0a [] W cs c ∧ c.name.size ≤ 140737488355328 := by
 obtain ⟨_, _, _, hx, hl, hlen, hget⟩ := DataW.trod_struct Tryz.underlying60 h
 rw [hx] at hw
 rw [B3a] at hl
 obtain ⟨_, t0, w0⟩ := H0a 0 9 0 hlen hget Tryz.underlying60 hw rfl
 obtain ⟨_, t1, -⟩ := H0a 1 3 1 hlen hget Tryz.underlying60 hw rfl
 obtain ⟨_, t2, w2⟩ := H0a 2 54 2 hlen hget Tryz.underlying60 hw rfl
 obtain ⟨_, t3, w3⟩ := H0a 3 49 3 hlen hget Tryz.underlying60 hw rfl
 obtain ⟨_, t4, w4⟩ := H0a 4 57 4 hlen hget Tryz.underlying60 hw rfl
 obtain ⟨_, t5, w5⟩ := H0a 5 58 5 hlen hget Tryz.underlying60 hw rfl
 obtain ⟨_, t6, -⟩ := H0a 6 4 6 hlen hget Tryz.underlying60 hw rfl
 simp only [F9a, m0b, y5b, p5b, j5b, R5b, V4b] at t0 t1 t2 t3 t4 t5 t6
 obtain ⟨_, _, _, _, _, _, _, rfl⟩ := k0d hl
 simp only [List.drop_succ_cons, List.drop_zero, List.take_succ_cons, List.take_zero] at t0 t1 t2 t3 t4 t5 t6
 obtain ⟨m0, e0, s0, -⟩ := DataW.trod_string Tryz.underlying9 t0
 obtain ⟨m1, e1, -, f1⟩ := DataW.trod_int Tryz.underlying3 t1
 obtain ⟨x2, h2⟩ := a7b t2 w2
 obtain ⟨x3, h3⟩ := c8a t3 w3
 obtain ⟨x4, h4⟩ := A7b t4 w4
 obtain ⟨x5, h5⟩ := L7b t5 w5
 obtain ⟨m6, e6, -⟩ := DataW.trod_bool Tryz.underlying4 t6
 cases e0; cases e1; cases e6
 exact ⟨⟨m0, m1, x2, x3, x4, x5, m6⟩, ⟨_, _, _, _, rfl, M2a f1, h2, h3, h4, h5⟩, R6b s0 w0⟩
theorem j5c : 1 ≤ Tryz.prog.bytesOf 60 := of_decide_eq_true (by kernel_rfl)
theorem Y3b {fuel : Nat} {v : Value} {x : DataW H × List MemPlace} (h : DataW.trod enc Tryz.prog W base sp held fuel 25 [v] = some x) (hw : i3a Tryz.prog 25 x.1) : ∃ l, i9c [] W v l ∧ ∀ c ∈ l, c.name.size ≤ 140737488355328 := by
 obtain ⟨l, hl⟩ := E2a Tryz.underlying25 B3a (by omega) j5c (fun n cs y _ _ hy hl => P5b hy hl) h hw
 exact ⟨l, hl.mono (fun _ _ h => h.1), R4b hl (fun _ _ h => h.2)⟩
theorem e3a : Tryz.prog.cellsOf 75 = 11 := by kernel_rfl
theorem x2b {fuel : Nat} {cs : List Value} {x : DataW H × List MemPlace} (h : DataW.trod enc Tryz.prog W base sp held fuel 75 cs = some x) (hw : i3a Tryz.prog 75 x.1) : ∃ c, q0a [] W cs c ∧ c.name.size ≤ 140737488355328 ∧ c.owner.size ≤ 140737488355328 := by
 obtain ⟨_, _, _, hx, hl, hlen, hget⟩ := DataW.trod_struct Tryz.underlying75 h
 rw [hx] at hw
 rw [e3a] at hl
 obtain ⟨_, t0, w0⟩ := H0a 0 9 0 hlen hget Tryz.underlying75 hw rfl
 obtain ⟨_, t1, w1⟩ := H0a 1 9 1 hlen hget Tryz.underlying75 hw rfl
 obtain ⟨_, t2, w2⟩ := H0a 2 56 2 hlen hget Tryz.underlying75 hw rfl
 obtain ⟨_, t3, w3⟩ := H0a 3 56 6 hlen hget Tryz.underlying75 hw rfl
 obtain ⟨_, t4, w4⟩ := H0a 4 49 10 hlen hget Tryz.underlying75 hw rfl
 simp only [F9a, L1a, p5b] at t0 t1 t2 t3 t4
 obtain ⟨_, _, _, _, _, _, _, _, _, _, _, rfl⟩ := k7c hl
 simp only [List.drop_succ_cons, List.drop_zero, List.take_succ_cons, List.take_zero] at t0 t1 t2 t3 t4
 obtain ⟨m0, e0, s0, -⟩ := DataW.trod_string Tryz.underlying9 t0
 obtain ⟨m1, e1, s1, -⟩ := DataW.trod_string Tryz.underlying9 t1
 obtain ⟨x2, h2⟩ := h4a _ _ _ t2 w2
 obtain ⟨x3, h3⟩ := h4a _ _ _ t3 w3
 obtain ⟨x4, h4⟩ := c8a t4 w4
 cases e0; cases e1
 exact ⟨⟨m0, m1, x2, x3, x4⟩, ⟨_, _, _, _, _, _, _, _, _, rfl, h2, h3, h4⟩, R6b s0 w0, R6b s1 w1⟩
theorem y9b : 1 ≤ Tryz.prog.bytesOf 75 := of_decide_eq_true (by kernel_rfl)
theorem B0b {fuel : Nat} {v : Value} {x : DataW H × List MemPlace} (h : DataW.trod enc Tryz.prog W base sp held fuel 23 [v] = some x) (hw : i3a Tryz.prog 23 x.1) : ∃ l, e9c [] W v l ∧ ∀ c ∈ l, c.name.size ≤ 140737488355328 ∧ c.owner.size ≤ 140737488355328 := by
 obtain ⟨l, hl⟩ := E2a Tryz.underlying23 e3a (by omega) y9b (fun n cs y _ _ hy hl => x2b hy hl) h hw
 exact ⟨l, hl.mono (fun _ _ h => h.1), R4b hl (fun _ _ h => h.2)⟩
theorem g4a : Tryz.prog.cellsOf 78 = 6 := by kernel_rfl
theorem A0c {fuel : Nat} {cs : List Value} {x : DataW H × List MemPlace} (h : DataW.trod enc Tryz.prog W base sp held fuel 78 cs = some x) (hw : i3a Tryz.prog 78 x.1) : ∃ c, n3a [] W cs c := by
 obtain ⟨_, _, _, hx, hl, hlen, hget⟩ := DataW.trod_struct Tryz.underlying78 h
 rw [hx] at hw
 rw [g4a] at hl
 obtain ⟨_, t0, -⟩ := H0a 0 3 0 hlen hget Tryz.underlying78 hw rfl
 obtain ⟨_, t1, w1⟩ := H0a 1 56 1 hlen hget Tryz.underlying78 hw rfl
 obtain ⟨_, t2, -⟩ := H0a 2 3 5 hlen hget Tryz.underlying78 hw rfl
 simp only [m0b, L1a] at t0 t1 t2
 obtain ⟨_, _, _, _, _, _, rfl⟩ := E9c hl
 simp only [List.drop_succ_cons, List.drop_zero, List.take_succ_cons, List.take_zero] at t0 t1 t2
 obtain ⟨m0, e0, -, f0⟩ := DataW.trod_int Tryz.underlying3 t0
 obtain ⟨x1, h1⟩ := h4a _ _ _ t1 w1
 obtain ⟨m2, e2, -, f2⟩ := DataW.trod_int Tryz.underlying3 t2
 cases e0; cases e2
 exact ⟨⟨m0, x1, m2⟩, _, _, _, _, rfl, M2a f0, M2a f2, h1⟩
theorem y9c : 1 ≤ Tryz.prog.bytesOf 78 := of_decide_eq_true (by kernel_rfl)
theorem B7b {fuel : Nat} {v : Value} {x : DataW H × List MemPlace} (h : DataW.trod enc Tryz.prog W base sp held fuel 24 [v] = some x) (hw : i3a Tryz.prog 24 x.1) : ∃ l, S9c [] W v l :=
 E2a Tryz.underlying24 g4a (by omega) y9c (fun n cs y _ _ hy hl => A0c hy hl) h hw
theorem L5b : Tryz.prog.cellsOf 22 = 1 := by kernel_rfl
theorem j0b : Tryz.prog.cellsOf 23 = 1 := by kernel_rfl
theorem D5b : Tryz.prog.cellsOf 24 = 1 := by kernel_rfl
theorem u1b : Tryz.prog.cellsOf 25 = 1 := by kernel_rfl
theorem m5a : Tryz.prog.cellsOf 27 = 4 := by kernel_rfl
theorem j3b {fuel : Nat} {cs : List Value} {x : DataW H × List MemPlace} (h : DataW.trod enc Tryz.prog W base sp held fuel 27 cs = some x) (hw : i3a Tryz.prog 27 x.1) : ∃ c, g1a [] W c cs ∧ q4b c := by
 obtain ⟨_, _, _, hx, hl, hlen, hget⟩ := DataW.trod_struct Tryz.underlying27 h
 rw [hx] at hw
 rw [m5a] at hl
 obtain ⟨_, t0, w0⟩ := H0a 0 22 0 hlen hget Tryz.underlying27 hw rfl
 obtain ⟨_, t1, w1⟩ := H0a 1 23 1 hlen hget Tryz.underlying27 hw rfl
 obtain ⟨_, t2, w2⟩ := H0a 2 24 2 hlen hget Tryz.underlying27 hw rfl
 obtain ⟨_, t3, w3⟩ := H0a 3 25 3 hlen hget Tryz.underlying27 hw rfl
 simp only [L5b, j0b, D5b, u1b] at t0 t1 t2 t3
 obtain ⟨_, _, _, _, rfl⟩ := f0d hl
 simp only [List.drop_succ_cons, List.drop_zero, List.take_succ_cons, List.take_zero] at t0 t1 t2 t3
 obtain ⟨x0, h0⟩ := O7b t0 w0
 obtain ⟨x1, h1⟩ := B0b t1 w1
 obtain ⟨x2, h2⟩ := B7b t2 w2
 obtain ⟨x3, h3⟩ := Y3b t3 w3
 exact ⟨⟨x0, x1, x2, x3⟩, ⟨_, _, _, _, rfl, h0.1, h1.1, h2, h3.1⟩, ⟨h0.2, h1.2, h3.2⟩⟩
theorem D3a : Tryz.prog.cellsOf 68 = 3 := by kernel_rfl
theorem F4b {fuel : Nat} {cs : List Value} {x : DataW H × List MemPlace} (h : DataW.trod enc Tryz.prog W base sp held fuel 68 cs = some x) (hw : i3a Tryz.prog 68 x.1) : ∃ c, I5a cs c := by
 obtain ⟨_, _, _, hx, hl, hlen, hget⟩ := DataW.trod_struct Tryz.underlying68 h
 rw [hx] at hw
 rw [D3a] at hl
 obtain ⟨_, t0, -⟩ := H0a 0 3 0 hlen hget Tryz.underlying68 hw rfl
 obtain ⟨_, t1, -⟩ := H0a 1 3 1 hlen hget Tryz.underlying68 hw rfl
 obtain ⟨_, t2, -⟩ := H0a 2 3 2 hlen hget Tryz.underlying68 hw rfl
 simp only [m0b] at t0 t1 t2
 obtain ⟨_, _, _, rfl⟩ := o0d hl
 simp only [List.drop_succ_cons, List.drop_zero, List.take_succ_cons, List.take_zero] at t0 t1 t2
 obtain ⟨m0, e0, -, f0⟩ := DataW.trod_int Tryz.underlying3 t0
 obtain ⟨m1, e1, -, f1⟩ := DataW.trod_int Tryz.underlying3 t1
 obtain ⟨m2, e2, -, f2⟩ := DataW.trod_int Tryz.underlying3 t2
 cases e0; cases e1; cases e2
 exact ⟨⟨m0, m1, m2⟩, rfl, M2a f0, M2a f1, M2a f2⟩
theorem y3c : 1 ≤ Tryz.prog.bytesOf 68 := of_decide_eq_true (by kernel_rfl)
theorem n3b {fuel : Nat} {v : Value} {x : DataW H × List MemPlace} (h : DataW.trod enc Tryz.prog W base sp held fuel 28 [v] = some x) (hw : i3a Tryz.prog 28 x.1) : ∃ l, v7b [] W v l :=
 E2a Tryz.underlying28 D3a (by omega) y3c (fun n cs y _ _ hy hl => F4b hy hl) h hw
theorem y8b {W : World} : ∀ {l : List (String × DataW Unit)} {ps : List MemPlace}, DataW.LaidVars Tryz.prog W l ps → ∀ {i : Nat} {x : String × DataW Unit}, l[i]? = some x →
 ∃ g t cs fuel p, Tryz.prog.globalNamed x.1 = some g ∧ (Tryz.prog.globals[g]?).map (·.type) = some t ∧ W.var? Tryz.prog x.1 = some cs ∧ DataW.trod (fun _ => ()) Tryz.prog W 0 (fun _ => true) false fuel t cs.toList = some (x.2, p)
 | [], _, _, _, _, hi => by simp at hi
 | y :: l, ps, h, 0, x, hi => by
   obtain ⟨g0, t0, cs0, f0, p0, q0, hg0, ht0, hv0, hd0, -⟩ := h
   cases hi
   exact ⟨g0, t0, cs0, f0, p0, hg0, ht0, hv0, hd0⟩
 | y :: l, ps, h, i + 1, x, hi => by
   obtain ⟨g0, t0, cs0, f0, p0, q0, hg0, ht0, hv0, hd0, hr, -⟩ := h
   exact y8b hr (by simpa using hi)
theorem S8c : Tryz.prog.globalNamed ((Rows.monitorPrefixesRow.laid[0]?.map (·.1)).getD "") = some 0 := by kernel_rfl
theorem N7c : (Tryz.prog.globals[0]?).map (·.type) = some 148 := by kernel_rfl
theorem R8c : Tryz.prog.cellsOf 148 = 9 := by kernel_rfl
theorem D2b {W : World} (h : laidMetH Tryz.prog Rows.monitorPrefixesRow.laid W) : c3a [] W := by
 rw [MakeChecks.laidMetH_plain _ _ _ (by kernel_rfl)] at h
 obtain ⟨_, hall, -⟩ := h
 obtain ⟨_, _, cs0, _, _, hg0, ht0, hv0, hd0⟩ := y8b hall (i := 0) rfl
 obtain rfl := Option.some.inj (S8c.symm.trans hg0)
 obtain rfl := Option.some.inj (N7c.symm.trans ht0)
 obtain ⟨xs, _, rfl, hx1, hlen, _, hel⟩ := DataW.trod_array Tryz.underlying148 hd0
 rw [R8c] at hlen
 simp only [c3, Nat.mul_one] at hel
 refine ⟨by simp, fun i hi => ?_⟩
 have hcell := World.var?_cell hg0 hv0 i
 have hi9 : i < xs.length := by omega
 have he := hel i (by omega)
 rw [List.getElem?_eq_getElem hi9] at he
 obtain ⟨k, e1, e2, -⟩ := DataW.trod_int Tryz.underlying3 he
 have hil : i < cs0.toList.length := by omega
 have e1' : cs0.toList[i]? = some (.int .i64 k) := by
  have h1 : ((cs0.toList.drop i).take 1)[0]? = some (Value.int .i64 k) := by rw [e1]; rfl
  rw [List.getElem?_take, if_pos (by omega), List.getElem?_drop] at h1
  simpa using h1
 rw [hcell]
 have e3 : cs0[i]? = some (.int .i64 k) := by simpa using e1'
 rw [e3]
 have hx1 : (DataW.agg _ = DataW.agg _ ∧ _) := Prod.mk.inj hx1
 have hx1 := DataW.agg.inj hx1.1
 have e4 : (xs.map (·.1))[i]? = some (.lit (.int .i64 k)) := by rw [List.getElem?_map, List.getElem?_eq_getElem hi9, e2]; rfl
 rw [← hx1] at e4
 rcases (show i = 0 ∨ i = 1 ∨ i = 2 ∨ i = 3 ∨ i = 4 ∨ i = 5 ∨ i = 6 ∨ i = 7 ∨ i = 8 by omega) with rfl | rfl | rfl | rfl | rfl | rfl | rfl | rfl | rfl <;> (cases e4; rfl)
end
end Go.Proofs.YtjjmdcnmeommbaaGreatDoor
namespace Go.Proofs.YtjjmdcnmeommbaaGreatDoor
open Go.Fw Go.RowKit Go.ChangeShapes Go.WideShapes
theorem own : ownKnob Tryz.prog.godebug = none := by kernel_rfl
theorem q5c : laidOutB Tryz.prog = true := by kernel_rfl
abbrev c7a : List (String × DataW Unit) := Rows.monitorPrefixesRow.laid
theorem t1c (os : Os) (args : Array Value) : laidMetH Tryz.prog c7a ((World.doorLaid Tryz.prog 400 os).forCall (fun _ _ => 0) ⟨#[], args, []⟩).memory :=
 laidMetH_of_parts3 (fuel := 8) (laidMet_of_run' 8 (by kernel_rfl) (by kernel_rfl)) (by kernel_rfl) (by kernel_rfl)
theorem A8b {H : Type} {enc : TypeId × Value → H} {W W' : World} (hb : Below W.heap.size W W') : ∀ (ts : List TypeId), (∀ t ∈ ts, Tryz.prog.readableRec t = true ∧ t < Tryz.prog.types.size) → ∀ (vs : List Value) (ds : List (DataW H)) (p : List MemPlace),
 (∀ x ∈ p, x.block < W.heap.size) → DataW.TrodAll enc Tryz.prog W 0 (fun _ => true) true ts vs ds p → DataW.TrodAll enc Tryz.prog W' 0 (fun b => decide (b < W.heap.size)) true ts vs ds p := by
 intro ts
 induction ts with
 | nil =>
   intro _ vs ds p _ h
   cases vs <;> cases ds <;> exact h
 | cons t ts ih =>
   intro ht vs ds p hp h
   cases vs with
   | nil => exact h.elim
   | cons v vs =>
     cases ds with
     | nil => exact h.elim
     | cons d ds =>
       obtain ⟨q, r, h1, h2, rfl⟩ := h
       obtain ⟨r1, r2⟩ := ht t (by simp)
       exact ⟨q, r, Below.trod q5c r1 r2 h1 hb (fun x hx => hp x (List.mem_append_left _ hx)), ih (fun t ht' => ht t (by simp [ht'])) vs ds r (fun x hx => hp x (List.mem_append_right _ hx)) h2, rfl⟩
theorem d8b {H : Type} {enc : TypeId × Value → H} {fn : Func} {s : ChangeSpec} {W W' : World} {args : Array Value} {ds : List (DataW H)} {before : List MemPlace} (hs : s.vars = []) (hr : fn.resultTypes = #[4])
 (hts : ∀ t ∈ fn.params.toList, Tryz.prog.readableRec t = true ∧ t < Tryz.prog.types.size) (hW : DataW.Whole enc Tryz.prog fn.params.toList s.vars false W args.toList ds [] before)
 (e1 : (s.fn H (ds ++ [])).results = [.lit (.bool true)]) (e2 : (s.fn H (ds ++ [])).args = ds) (e3 : (s.fn H (ds ++ [])).vars = []) (hb : Below W.heap.size W W') :
 s.post enc Tryz.prog fn false true false false W args (.bool true) W' := by
 have hlt := hW.lt
 obtain ⟨_, _, hA, hV, hpq, _, _⟩ := id hW
 rw [hs] at hV
 obtain ⟨-, rfl⟩ := trodVars_none hV
 rw [List.append_nil] at hpq
 subst hpq
 refine ⟨ds, [], before, [], before, [], hW, ?_, ?_, ?_, hb.frame _, fun h => by cases h⟩
 ·rw [e1, hr]; exact trodAll_mk1 (shut_bool Tryz.underlying4 true)
 ·rw [e2]; exact A8b hb _ hts _ _ _ hlt hA
 ·rw [e3, hs]; rfl
theorem p6b {H : Type} {ts : List TypeId} {ds : List (DataW H)} (h : (DataW.weightsEach Tryz.prog ts ds).all (· ≤ reachBytes) = true) {j : Nat} {t : TypeId} {d : DataW H} (ht : ts[j]? = some t) (hd : ds[j]? = some d) : i3a Tryz.prog t d := fun m hm => by
 have := List.all_eq_true.1 h m (DataW.weights_mem_each ht hd m hm)
 simpa using this
theorem r2b {f : FuncId} {args : Array Value} {W : World} {R : Value → World → Prop} {Q : Ending → World → Prop} (h : R0a Tryz.prog f args W R) (hQ : ∀ v W', R v W' → Q (.returned v) W') : Calls Tryz.prog f args W Q :=
 Calls.mono h fun _ _ ⟨v, he, hv⟩ => he ▸ hQ v _ hv
end Go.Proofs.YtjjmdcnmeommbaaGreatDoor
namespace Go.Fw
open Go.RowKit
theorem w1c {size : Nat} : ∀ (css : List (List Value)) (i : Nat) (c : List Value), (∀ x ∈ css, x.length = size) → css[i]? = some c → ∀ (j : Nat) (u : Value), c[j]? = some u → css.flatten[i * size + j]? = some u := by
 intro css
 induction css with
 | nil => intro i c _ h; simp at h
 | cons x xs ih =>
   intro i c h4 hi j u hj
   have hx := h4 x (by simp)
   cases i with
   | zero =>
     simp at hi; subst hi
     have hjl : j < x.length := (List.getElem?_eq_some_iff.1 hj).1
     rw [List.flatten_cons, Nat.zero_mul, Nat.zero_add, List.getElem?_append_left hjl]; exact hj
   | succ i =>
     have := ih i c (fun y hy => h4 y (by simp [hy])) (by simpa using hi) j u hj
     have e : (i + 1) * size + j = x.length + (i * size + j) := by rw [hx, Nat.add_mul]; omega
     rw [List.flatten_cons, e, List.getElem?_append_right (by omega)]
     rw [show x.length + (i * size + j) - x.length = i * size + j by omega]; exact this
theorem d4a {size : Nat} (css : List (List Value)) (h4 : ∀ x ∈ css, x.length = size) : css.flatten.length = css.length * size := by
 induction css with
 | nil => simp
 | cons x xs ih => rw [List.flatten_cons, List.length_append, ih (fun y hy => h4 y (by simp [hy])), h4 x (by simp), List.length_cons, Nat.add_mul]; omega
structure B7a {α : Type} (R : List Nat → World → List Value → α → Prop) (size : Nat) : Prop where
 len : ∀ {M w cs x}, R M w cs x → cs.length = size
 one : ∀ {M w cs x}, R M w cs x → ∀ u ∈ cs, u.oneCell' = true
 keep : ∀ {M w w' cs x}, C0a M w w' → R M w cs x → R M w' cs x
 more : ∀ {M M' w cs x}, (∀ g ∈ M', g ∈ M ∨ w.heap.size ≤ g) → R M w cs x → R M' w cs x
section
variable {α : Type} {R : List Nat → World → List Value → α → Prop} {size : Nat}
def s2a (R : List Nat → World → List Value → α → Prop) (size : Nat) (M : List Nat) (w : World) (G : Option Nat) (cs : List Value) (v : Value) (l : List α) : Prop :=
 ∃ css : List (List Value), css.length = l.length ∧ (∀ x ∈ css, x.length = size) ∧ G3a G size l.length cs v css.flatten ∧ ∀ (i : Nat) (x : α), l[i]? = some x → ∃ c, css[i]? = some c ∧ R (G.toList ++ M) w c x
theorem s2a.keep (hL : B7a R size) {M : List Nat} {w w' : World} {G : Option Nat} {cs : List Value} {v : Value} {l : List α} (h : s2a R size M w G cs v l) (hk : C0a (G.toList ++ M) w w') : s2a R size M w' G cs v l := by
 obtain ⟨css, h1, h2, h3, h4⟩ := h
 refine ⟨css, h1, h2, h3, fun i x hi => ?_⟩
 obtain ⟨c, h5, h6⟩ := h4 i x hi
 exact ⟨c, h5, hL.keep hk h6⟩
theorem s2a.nil {M : List Nat} {w : World} : s2a R size M w none [] (.slice none 0 0) [] := ⟨[], rfl, by simp, G3a.nil size, fun i x hi => by simp at hi⟩
theorem s2a.new {M : List Nat} {w : World} {g : Nat} : s2a R size M w (some g) [] (.slice (some ⟨g, 0, none⟩) 0 0) [] :=
 ⟨[], rfl, by simp, ⟨by simp, .inr ⟨g, 0, rfl, rfl, Nat.le_refl _, by unfold maxLen; omega, by simp, by simp⟩⟩, fun i x hi => by simp at hi⟩
theorem s2a.form {M : List Nat} {w : World} {G : Option Nat} {cs : List Value} {v : Value} {l : List α} (h : s2a R size M w G cs v l) : ∃ A c, v = .slice A l.length c := by
 obtain ⟨_, _, _, ⟨_, hr⟩, _⟩ := h
 rcases hr with ⟨_, rfl, h0⟩ | ⟨g, cap, _, rfl, _⟩
 ·exact ⟨_, _, by rw [h0]⟩
 ·exact ⟨_, _, rfl⟩
theorem s2a.rd (hL : B7a R size) {M M' : List Nat} {w0 w : World} {L : List Ent} {k el : Nat} {G : Option Nat} {cs : List Value} {v : Value} {l : List α} (h : s2a R size M w G cs v l) (S : St M' w0 w L) (hk : L[k]? = some (G, el, cs)) (hM : ∀ g, G = some g → g ∉ M) (hl : l.length ≤ 1000000) : RdS M w size (R M w) v l := by
 obtain ⟨css, h1, h2, ⟨_, hr⟩, h4⟩ := h
 rcases hr with ⟨rfl, rfl, h0⟩ | ⟨g, cap, rfl, rfl, q1, q2, q3, q4⟩
 ·exact ⟨none, 0, 0, rfl, by omega, by omega, by unfold maxLen; omega, by omega, fun h => absurd h (by omega)⟩
 ·refine ⟨_, _, _, rfl, rfl, q1, q2, by omega, fun _ => ⟨g, 0, rfl, hM g rfl, fun i x hi => ?_⟩⟩
  obtain ⟨c, h5, h6⟩ := h4 i x hi
  refine ⟨c, h2 c (List.mem_of_getElem? h5), fun j u hj => ?_, hL.more (fun x hx => .inl (by simp [hx])) h6⟩
  have hf := w1c css i c h2 h5 j u hj
  have hlt : i * size + j < l.length * size := by
   have := (List.getElem?_eq_some_iff.1 hf).1
   rw [d4a css h2, h1] at this; exact this
  rw [← q4, List.getElem?_take, if_pos hlt] at hf
  have := S.cell k hk hf
  simpa using this
theorem s2a.get {M M' : List Nat} {w0 w : World} {L : List Ent} {k el : Nat} {G : Option Nat} {cs : List Value} {v : Value} {l : List α} (h : s2a R size M w G cs v l) (S : St M' w0 w L) (hk : L[k]? = some (G, el, cs)) {i : Nat} {x : α} (hi : l[i]? = some x) :
 ∃ g cap c, G = some g ∧ v = .slice (some ⟨g, 0, none⟩) l.length cap ∧ c.length = size ∧ r1a w g (0 + i * size) c ∧ R (G.toList ++ M) w c x := by
 obtain ⟨css, h1, h2, ⟨_, hr⟩, h4⟩ := h
 have hil := (List.getElem?_eq_some_iff.1 hi).1
 rcases hr with ⟨rfl, rfl, h0⟩ | ⟨g, cap, rfl, rfl, q1, q2, q3, q4⟩
 ·omega
 ·obtain ⟨c, h5, h6⟩ := h4 i x hi
  refine ⟨g, cap, c, rfl, rfl, h2 c (List.mem_of_getElem? h5), fun j u hj => ?_, h6⟩
  have hf := w1c css i c h2 h5 j u hj
  have hlt : i * size + j < l.length * size := by
   have := (List.getElem?_eq_some_iff.1 hf).1
   rw [d4a css h2, h1] at this; exact this
  rw [← q4, List.getElem?_take, if_pos hlt] at hf
  have := S.cell k hk hf
  simpa using this
variable {P : Program} {r : Option Nat} {N : Nat} {D : List Deferred} {e : Env} {w w0 : World} {ops : Array Oper} {rest : List Oper} {K : List Deferred → Env → World → Prop} {L : List Ent} {M : List Nat}
variable {d : Nat} {t : TypeId} {p : String} {af : Array Edge} {x y : Operand}
theorem H3b (hL : B7a R size) {M2 : List Nat} {ty el bytes k c b o m : Nat} {z v : Value} {G : Option Nat} {cs : List Value} {cs2 : List (List Value)} {l l2 : List α} (S : St M w0 w L) (hS : SlZ P ty el size z bytes) (hby : bytes ≤ 1000) (hk : L[k]? = some (G, el, cs)) (hR : s2a R size M2 w G cs v l)
 (hx : ev e x = v) (hy : ev e y = .slice (some ⟨b, o, none⟩) m c) (hm : m = l2.length) (hl2 : cs2.length = l2.length) (hnews : r1a w b o cs2.flatten) (he : ∀ (i : Nat) (x : α), l2[i]? = some x → ∃ c, cs2[i]? = some c ∧ R (G.toList ++ M2) w c x) (hll : l.length + l2.length ≤ 1000000) (hd : Nat.ble (d + 1) N = true)
 (h : ∀ v' G' cs' w1, St M w0 w1 (L.set k (G', el, cs')) → s2a R size M2 w1 G' cs' v' (l ++ l2) → C0a G.toList w w1 → (∀ g ∈ G'.toList, g ∈ G.toList ∨ w.heap.size ≤ g) → WL P r N ops rest K D (upd e d v') w1) :
 WL P r N ops (⟨some d, .call { callee := .builtin .append, args := #[x, y], argTypes := #[ty, ty] }, t, p, af, none⟩ :: rest) K D e w := by
 subst hm
 obtain ⟨css, c1, c2, c3, c4⟩ := hR
 have hat : ∀ x ∈ cs2, ∃ a, R (G.toList ++ M2) w x a := fun x hx => by
  obtain ⟨i, hi, rfl⟩ := List.getElem_of_mem hx
  obtain ⟨c, h5, h6⟩ := he i l2[i] (List.getElem?_eq_getElem (by omega))
  rw [List.getElem?_eq_getElem hi] at h5; cases h5
  exact ⟨_, h6⟩
 have hlen : ∀ x ∈ cs2, x.length = size := fun x hx => let ⟨_, ha⟩ := hat x hx; hL.len ha
 have hone : ∀ u ∈ cs2.flatten, u.oneCell' = true := fun u hu => by
  obtain ⟨x, hx, hu⟩ := List.mem_flatten.1 hu
  obtain ⟨_, ha⟩ := hat x hx
  exact hL.one ha u hu
 obtain ⟨i, hi, hz, hsz, hbb⟩ := hS.parts
 obtain ⟨hown, hG⟩ := c3.own S hk
 have hb2 : (l.length + l2.length) * bytes ≤ 140737488355328 := by
  have : (l.length + l2.length) * bytes ≤ 1000000 * 1000 := Nat.mul_le_mul (by omega) hby
  omega
 obtain ⟨v', w1, hrun, hown', hgrow, _, hblk⟩ := run_append_own_at (P := P) w 0 ty t el i z size bytes hS.und hi hz hsz hbb hS.zs hS.pos v l.length css.flatten hown ⟨b, o, none⟩ l2.length c cs2.flatten (by rw [d4a cs2 hlen, hl2])
  (fun j u hj => by rw [Addr.add_lit]; exact hnews j u hj) hone (by unfold maxLen; omega) hb2 (Nat.zero_le _)
 obtain ⟨G', cs', hR', hG', hnew⟩ := w7a hown'
 have hsame : ∀ q, q < w.heap.size → G ≠ some q → w1.heap[q]? = w.heap[q]? := fun q hq hne => hgrow.block q hq (fun hh => hne (by rw [← hG, ← hh]))
 have hbelow : L0a M w0 w1 := ⟨hgrow.os.trans S.below.os, hgrow.tape.trans S.below.tape, hgrow.output.trans S.below.output, Nat.le_trans S.size hgrow.size, fun q hq hm =>
  (hsame q (Nat.lt_of_lt_of_le hq S.size) (fun hh => by
    subst hh
    rcases S.new k hk with h' | h'
    ·omega
    ·exact hm h')).trans (S.below.block q hq hm)⟩
 have hkeep : C0a G.toList w w1 := ⟨hgrow.size, fun q hq hm => hsame q hq (fun hh => hm (by rw [hh]; simp))⟩
 have hfresh : ∀ g ∈ G'.toList, g ∈ G.toList ∨ w.heap.size ≤ g := by
  intro g hg
  have hg' : G' = some g := by cases G' with
   | none => simp at hg
   | some q => simp at hg; rw [hg]
  rcases hblk with hb | hb
  ·left; have hGg : G = some g := by rw [← hG, ← hb, hG']; exact hg'
   rw [hGg]; simp
  ·rw [hG', hg'] at hb; cases hb; exact .inr (Nat.le_refl _)
 refine c1a (v := v') (w' := w1) rfl rfl hd (by simp) ?_ (h v' G' cs' w1 (S.replace k hk hbelow hsame (fun g hg => ?_)) ?_ hkeep hfresh)
 ·simp [execOp, resolve, invoke, builtin, hx, hy, hrun]
 ·obtain ⟨_, h3⟩ := hnew g hg
  rcases hblk with hb | hb
  ·have hGg : G = some g := by rw [← hG, ← hb, hG']; exact hg
   subst hGg
   exact ⟨S.new k hk, h3, .inl rfl⟩
  ·have hg2 : G' = some g := hg
   rw [hG', hg2] at hb; cases hb
   exact ⟨.inl S.size, h3, .inr (Nat.le_refl _)⟩
 ·have hmv : ∀ (e2 : α) (c : List Value), R (G.toList ++ M2) w c e2 → R (G'.toList ++ M2) w1 c e2 := by
   intro e2 c hr
   have h5 : R (G.toList ++ (G'.toList ++ M2)) w c e2 := hL.more (fun g hg => by
    rcases List.mem_append.1 hg with hg | hg
    ·exact .inl (List.mem_append_left _ hg)
    ·rcases List.mem_append.1 hg with hg | hg
     ·rcases hfresh g hg with h | h
      ·exact .inl (List.mem_append_left _ h)
      ·exact .inr h
     ·exact .inl (List.mem_append_right _ hg)) hr
   exact hL.more (fun g hg => .inl (List.mem_append_right _ hg)) (hL.keep (hkeep.mono (fun g hg => List.mem_append_left _ hg)) h5)
  refine ⟨css ++ cs2, by simp [c1, hl2], fun x hx => ?_, ?_, fun i x hi => ?_⟩
  ·rcases List.mem_append.1 hx with hx | hx
   ·exact c2 x hx
   ·exact hlen x hx
  ·have e1 : (l ++ l2).length = l.length + l2.length := by simp
   rw [e1, List.flatten_append]; exact hR'
  ·by_cases hil : i < l.length
   ·rw [List.getElem?_append_left hil] at hi
    obtain ⟨c, h5, h6⟩ := c4 i x hi
    exact ⟨c, by rw [List.getElem?_append_left (by omega)]; exact h5, hmv _ _ h6⟩
   ·rw [List.getElem?_append_right (by omega)] at hi
    obtain ⟨c, h5, h6⟩ := he _ x hi
    exact ⟨c, by rw [List.getElem?_append_right (by omega), c1]; exact h5, hmv _ _ h6⟩
theorem p1a (hL : B7a R size) {M2 : List Nat} {ty el bytes k c b o : Nat} {z v : Value} {G : Option Nat} {cs news : List Value} {l : List α} {e1 : α} (S : St M w0 w L) (hS : SlZ P ty el size z bytes) (hby : bytes ≤ 1000) (hk : L[k]? = some (G, el, cs)) (hR : s2a R size M2 w G cs v l)
 (hx : ev e x = v) (hy : ev e y = .slice (some ⟨b, o, none⟩) 1 c) (hnews : r1a w b o news) (he : R (G.toList ++ M2) w news e1) (hll : l.length + 1 ≤ 1000000) (hd : Nat.ble (d + 1) N = true)
 (h : ∀ v' G' cs' w1, St M w0 w1 (L.set k (G', el, cs')) → s2a R size M2 w1 G' cs' v' (l ++ [e1]) → C0a G.toList w w1 → (∀ g ∈ G'.toList, g ∈ G.toList ∨ w.heap.size ≤ g) → WL P r N ops rest K D (upd e d v') w1) :
 WL P r N ops (⟨some d, .call { callee := .builtin .append, args := #[x, y], argTypes := #[ty, ty] }, t, p, af, none⟩ :: rest) K D e w :=
 H3b hL (cs2 := [news]) (l2 := [e1]) S hS hby hk hR hx hy rfl rfl (by simpa using hnews) (fun i x hi => by
  cases i with
  | zero => simp at hi; subst hi; exact ⟨news, rfl, he⟩
  | succ i => simp at hi) (by simpa using hll) hd h
end
theorem RdS.all {α : Type} {M : List Nat} {w : World} {size : Nat} {R : List Value → α → Prop} {A : Option Addr} {n c b o : Nat} {l : List α} (h : RdS M w size R (.slice A n c) l) (hA : A = some ⟨b, o, none⟩) (h0 : 0 < l.length) :
 ∃ css : List (List Value), css.length = l.length ∧ r1a w b o css.flatten ∧ ∀ (i : Nat) (x : α), l[i]? = some x → ∃ c, css[i]? = some c ∧ R c x := by
 obtain ⟨h1, _, _, _, h5⟩ := h.at
 obtain ⟨_, _, hA', _, hel⟩ := h5 (by omega)
 rw [hA] at hA'; cases hA'
 have key : ∀ (l2 : List α) (q : Nat), (∀ i x, l2[i]? = some x → ∃ cs, cs.length = size ∧ r1a w b (q + i * size) cs ∧ R cs x) → ∃ css : List (List Value), css.length = l2.length ∧ r1a w b q css.flatten ∧ ∀ (i : Nat) (x : α), l2[i]? = some x → ∃ c, css[i]? = some c ∧ R c x := by
  intro l2
  induction l2 with
  | nil => intro q _; exact ⟨[], rfl, fun j v hj => by simp at hj, fun i x hi => by simp at hi⟩
  | cons a l2 ih =>
    intro q hq
    obtain ⟨cs, _, k2, k3⟩ := hq 0 a rfl
    obtain ⟨css, m1, m2, m3⟩ := ih (q + size) (fun i x hi => by
     obtain ⟨cs, n1, n2, n3⟩ := hq (i + 1) x (by simpa using hi)
     exact ⟨cs, n1, by rw [show q + size + i * size = q + (i + 1) * size by rw [Nat.add_mul]; omega]; exact n2, n3⟩)
    refine ⟨cs :: css, by simp [m1], fun j v hj => ?_, fun i x hi => ?_⟩
    ·rw [List.flatten_cons] at hj
     by_cases hjl : j < cs.length
     ·rw [List.getElem?_append_left hjl] at hj
      have := k2 j v hj
      simpa using this
     ·rw [List.getElem?_append_right (by omega)] at hj
      have := m2 (j - cs.length) v hj
      rw [show q + size + (j - cs.length) = q + j by omega] at this
      exact this
    ·cases i with
     | zero => simp at hi; subst hi; exact ⟨cs, rfl, k3⟩
     | succ i =>
       obtain ⟨c, h1, h2⟩ := m3 i x (by simpa using hi)
       exact ⟨c, by simpa using h1, h2⟩
 exact key l o hel
end Go.Fw
namespace Go.Fw
open Go.RowKit
section
variable {P : Program} {r : Option Nat} {N : Nat} {D : List Deferred} {e : Env} {w w0 : World} {ops : Array Oper} {rest : List Oper} {K : List Deferred → Env → World → Prop} {L : List Ent} {M : List Nat}
variable {d : Nat} {t : TypeId} {p : String} {af : Array Edge} {f : FuncId} {args : Array Operand} {at_ : Array TypeId} {vs : List Value} {x : Operand}
theorem A9a {xt : TypeId} {v : Value} (hx : ev e x = v) (hI : ∀ w : World, (Instr.makeInterface xt v).run P w = .ok (.iface xt v) w) (hd : Nat.ble (d + 1) N = true) (h : WL P r N ops rest K D (upd e d (.iface xt v)) w) :
 WL P r N ops (⟨some d, .makeInterface xt x, t, p, af, none⟩ :: rest) K D e w :=
 c1a rfl rfl hd (by simp) (by simp only [execOp, hx, Sem.run_bind, hI, Result.andThen_ok, Sem.run_pure]) h
theorem M1c {ty : TypeId} {parts : Array (Nat × Operand)} {ps : List (Nat × Value)} {cs : List Value} (hvs : parts.toList.map (fun q => (q.1, ev e q.2)) = ps) (hB : ∀ w : World, (Instr.build ty ps.toArray).run P w = .ok (.agg cs.toArray) w) (hd : Nat.ble (d + 1) N = true)
 (h : WL P r N ops rest K D (upd e d (.agg cs.toArray)) w) : WL P r N ops (⟨some d, .build ty parts, t, p, af, none⟩ :: rest) K D e w := by
 have hp : (parts.map fun (i, x) => (i, ev e x)) = ps.toArray := by subst hvs; apply Array.ext'; simp
 exact c1a rfl rfl hd (by simp) (by simp [execOp, hp, hB w]) h
theorem n1c {tt : TypeId} {v : Value} {name : String} {recv : Operand} {R : Value → World → Prop} (S : St M w0 w L) (hx : ev e recv = .iface tt v) (hM : ∀ (az : Array Value) (w : World), (callMethod (.iface tt v) name az).run P w = .ok (.enter f (#[v] ++ az)) w)
 (hvs : args.toList.map (ev e) = vs) (hd : Nat.ble (d + 1) N = true) (hc : R0a P f (v :: vs).toArray w fun u w' => R u w' ∧ Below w.heap.size w w')
 (h : ∀ u w1, R u w1 → St M w0 w1 L → C0a [] w w1 → WL P r N ops rest K D (upd e d u) w1) :
 WL P r N ops (⟨some d, .call { callee := .invoke recv name, args := args, argTypes := at_ }, t, p, af, none⟩ :: rest) K D e w := by
 refine J1b rfl rfl hd (by simp) ?_ hc fun u w1 hr => h u w1 hr.1 (S.later hr.2) (C0a.of_below hr.2)
 subst hvs
 have h1 : (args.map (ev e)) = (args.toList.map (ev e)).toArray := by apply Array.ext'; simp
 have h2 : (#[Value.iface tt v] ++ args.map (ev e)).extract 1 (#[Value.iface tt v] ++ args.map (ev e)).size = args.map (ev e) := by
  apply Array.ext'
  simp
  exact List.take_of_length_le (by simp)
 simp only [execOp, resolve, hx, Sem.run_bind, Sem.run_pure, Result.andThen_ok, invoke]
 have h3 : (#[Value.iface tt v] ++ args.map (ev e))[0]? = some (.iface tt v) := by rw [Array.getElem?_append_left (by simp)]; rfl
 rw [h3]
 simp only [h2, hM]
 rw [h1]
 simp
theorem Z0c {ty len size lo b o : Nat} {el : TypeId} {xl : Operand} {kd : IntKind} (hu : P.underlying ty = some (.array len el)) (hz : ∀ w : World, (sizeOf el).run P w = .ok size w) (hx : ev e x = .pointer (some ⟨b, o, none⟩))
 (hl : ev e xl = .int kd (lo : Int)) (hlo : lo < len) (hd : Nat.ble (d + 1) N = true) (h : WL P r N ops rest K D (upd e d (.slice (some ⟨b, o + lo * size, none⟩) (len - lo) (len - lo))) w) :
 WL P r N ops (⟨some d, .slice ty x (some xl) none none, t, p, af, none⟩ :: rest) K D e w := by
 have e1 : (0 : Int) ≤ (lo : Int) ∧ (lo : Int) ≤ (len : Int) := by omega
 have e2 : ¬ (len = lo) := by omega
 refine c1a rfl rfl hd (by simp) ?_ h
 simp [execOp, Instr.sliceAt, Instr.sureAddr, Instr.sliceBounds, Instr.sliceBound, asIntOf, run_underlying hu, hz, hx, hl, e1, e2, Addr.add_lit]
 intro hh; omega
theorem v2c {α : Type} {l : List α} {k : Nat} {x : α} (h : l[k]? = some x) : l.set k x = l := by
 obtain ⟨hlt, he⟩ := List.getElem?_eq_some_iff.1 h
 rw [← he]; exact List.set_getElem_self hlt
theorem i7a {α : Type} {R0 : List Value → α → Prop} {size : Nat} (hL : B7a (fun (_ : List Nat) (_ : World) => R0) size) {M2 M3 : List Nat} {ty el bytes k c m : Nat} {A2 : Option Addr} {y : Operand} {z v : Value} {G : Option Nat} {cs : List Value} {l l2 : List α} (S : St M w0 w L) (hS : SlZ P ty el size z bytes) (hby : bytes ≤ 1000) (hk : L[k]? = some (G, el, cs)) (hR : s2a (fun _ _ => R0) size M2 w G cs v l)
 (hx : ev e x = v) (hy : ev e y = .slice A2 m c) (h2 : RdS M3 w size R0 (.slice A2 m c) l2) (hll : l.length + l2.length ≤ 1000000) (hd : Nat.ble (d + 1) N = true)
 (h : ∀ v' G' cs' w1, St M w0 w1 (L.set k (G', el, cs')) → s2a (fun _ _ => R0) size M2 w1 G' cs' v' (l ++ l2) → C0a G.toList w w1 → (∀ g ∈ G'.toList, g ∈ G.toList ∨ w.heap.size ≤ g) → WL P r N ops rest K D (upd e d v') w1) :
 WL P r N ops (⟨some d, .call { callee := .builtin .append, args := #[x, y], argTypes := #[ty, ty] }, t, p, af, none⟩ :: rest) K D e w := by
 obtain ⟨hm, -, -⟩ := h2.len
 by_cases h0 : l2 = []
 ·subst h0
  obtain ⟨A, c', rfl⟩ := hR.form
  have hm0 : m = 0 := by simpa using hm
  subst hm0
  have hnc : l.length ≤ c' := by
   obtain ⟨css, _, _, q3, _⟩ := hR
   rcases q3.2 with ⟨-, q5, q6⟩ | ⟨g, cap, -, q5, q6, -⟩
   ·simp only [Value.slice.injEq] at q5; omega
   ·simp only [Value.slice.injEq] at q5; omega
  refine C3b hS hx hnc hy hd ?_
  have := h (.slice A l.length c') G cs w (by rw [v2c hk]; exact S) (by rw [List.append_nil]; exact hR) (C0a.refl _ _) (fun g hg => .inl hg)
  exact this
 ·have hpos : 0 < l2.length := List.length_pos_iff.2 h0
  obtain ⟨b, o, hA⟩ : ∃ b o, A2 = some ⟨b, o, none⟩ := by
   obtain ⟨_, _, _, _, h5⟩ := h2.at
   obtain ⟨b', o', hA', -⟩ := h5 (by omega)
   exact ⟨b', o', hA'⟩
  obtain ⟨css, c1, c2, c3⟩ := RdS.all h2 hA hpos
  subst hA
  exact H3b hL S hS hby hk hR hx hy hm c1 c2 c3 hll hd h
end
end Go.Fw
namespace Go.Fw
open Go.RowKit
abbrev e1c := Nat → Option (FuncId × Array Value × (Value → Prop) × (Value → World → Prop))
section
variable {P : Program} {r : Option Nat} {N : Nat} {l : List Oper} {D : List Deferred} {C : World → Prop} {V : e1c} {K : Env → World → Prop}
def FL (P : Program) (N : Nat) (l : List Oper) (C : World → Prop) (V : e1c) (K : Env → World → Prop) (lo : Nat) : List Nat → Env → List Nat → (World → Prop) → Prop
 | [], e, _, Φ => ∀ w, C w → Φ w → K e w
 | i :: rest, e, gs, Φ => ∃ o d, l[i]? = some o ∧ o.dst = some d ∧ d < N ∧
  ((∃ v, PV P l C o e v ∧ FL P N l C V K lo rest (upd e d v) gs Φ) ∨
   (∃ (mk : Nat → Value) (t : TypeId) (cs : List Value), a1a l.toArray e o = true ∧
     (∀ w, C w → ∃ w', (execOp (ev e) o).run P w = .ok (.value (mk w.heap.size)) w' ∧ C w' ∧ C0a [] w w' ∧ w'.heap.size = w.heap.size + 1 ∧ t0a w' (w.heap.size, t, cs)) ∧
     ∀ g, lo ≤ g → g ∉ gs → FL P N l C V K lo rest (upd e d (mk g)) (g :: gs) (fun w => Φ w ∧ t0a w (g, t, cs))) ∨
   (∃ f args Qp Qw, V i = some (f, args, Qp, Qw) ∧ a1a l.toArray e o = true ∧ (∀ w, C w → (execOp (ev e) o).run P w = .ok (.enter f args) w) ∧ ∀ u, Qp u → FL P N l C V K lo rest (upd e d u) gs (fun w => Φ w ∧ Qw u w)))
theorem FL.mono {lo lo' : Nat} : ∀ (R : List Nat) (e : Env) (gs gs' : List Nat) (Φ Φ' : World → Prop), (∀ g, lo' ≤ g → g ∉ gs' → lo ≤ g ∧ g ∉ gs) → (∀ w, Φ' w → Φ w) → FL P N l C V K lo R e gs Φ → FL P N l C V K lo' R e gs' Φ'
 | [], e, gs, gs', Φ, Φ', _, hΦ, h => fun w hC hw => h w hC (hΦ w hw)
 | i :: R, e, gs, gs', Φ, Φ', hg, hΦ, h => by
   obtain ⟨o, d, h1, h2, h3, h4⟩ := h
   refine ⟨o, d, h1, h2, h3, ?_⟩
   rcases h4 with ⟨v, h5, h6⟩ | ⟨mk, t, cs, h5, h6, h7⟩ | ⟨f, args, Qp, Qw, h5, h6, h7, h8⟩
   ·exact .inl ⟨v, h5, FL.mono R _ gs gs' Φ Φ' hg hΦ h6⟩
   rotate_left
   ·exact .inr (.inr ⟨f, args, Qp, Qw, h5, h6, h7, fun u hu => FL.mono R _ gs gs' _ _ hg (fun w hw => ⟨hΦ w hw.1, hw.2⟩) (h8 u hu)⟩)
   ·refine .inr (.inl ⟨mk, t, cs, h5, h6, fun g h8 h9 => ?_⟩)
    refine FL.mono R _ (g :: gs) (g :: gs') _ _ (fun x hx hn => ?_) (fun w hw => ⟨hΦ w hw.1, hw.2⟩) (h7 g (hg g h8 h9).1 (hg g h8 h9).2)
    simp only [List.mem_cons, not_or] at hn ⊢
    exact ⟨(hg x hx hn.2).1, hn.1, (hg x hx hn.2).2⟩
def p0d : Result Next → Nat
 | .ok _ w => w.heap.size
 | _ => 0
def szE (P : Program) (l : List Oper) (o : Oper) (e : Env) (w : World) : Nat := bif a1a l.toArray e o then p0d ((execOp (ev e) o).run P w) else 0
theorem K9a {o : Oper} {e e' : Env} {w : World} (hs : Op.isSelect o.op = false) (h : ∀ s ∈ Oper.looksAt l.toArray o, e s = e' s) : szE P l o e w = szE P l o e' w := by
 unfold szE; rw [P0a h, i1a hs h]
theorem j4b (a b : Nat) (gs : List Nat) : ∃ g, a ≤ g ∧ b ≤ g ∧ g ∉ gs := by
 have : ∀ gs : List Nat, ∃ m, ∀ g ∈ gs, g < m := by
  intro gs
  induction gs with
  | nil => exact ⟨0, by simp⟩
  | cons x gs ih =>
    obtain ⟨m, hm⟩ := ih
    refine ⟨max m (x + 1), fun g hg => ?_⟩
    rcases List.mem_cons.1 hg with rfl | h
    ·omega
    ·have := hm g h; omega
 obtain ⟨m, hm⟩ := this gs
 exact ⟨max m (max a b), by omega, by omega, fun h => by have := hm _ h; omega⟩
def h3a (P : Program) (N : Nat) (l : List Oper) (C : World → Prop) (V : e1c) (K : Env → World → Prop) (lo : Nat) (R : List Nat) (i : Nat) (o : Oper) (d : Nat) (e : Env) (gs : List Nat) (Φ : World → Prop) (w : World) : Prop :=
 (a1a l.toArray e o = true ∧ ∃ v w', (execOp (ev e) o).run P w = .ok (.value v) w' ∧ C w' ∧ C0a [] w w' ∧ FL P N l C V K w'.heap.size R (upd e d v) gs (fun w1 => Φ w1 ∧ C0a [] w' w1)) ∨
 (a1a l.toArray e o = false ∧ FL P N l C V K lo R (upd e d undef) gs Φ) ∨
 (a1a l.toArray e o = true ∧ ∃ f args Qp Qw, V i = some (f, args, Qp, Qw) ∧ (execOp (ev e) o).run P w = .ok (.enter f args) w ∧ ∀ u w', Qp u → Qw u w' → C w' → C0a [] w w' → FL P N l C V K w'.heap.size R (upd e d u) gs (fun w1 => (Φ w1 ∧ Qw u w1) ∧ C0a [] w' w1))
theorem FL.first (hpl : f5a l = true) (hVn : ∀ i f args Qp Qw, V i = some (f, args, Qp, Qw) → ∃ u, Qp u) {i : Nat} {post : List Nat} {lo : Nat} {w : World} (hC : C w) (hlo : lo ≤ w.heap.size) : ∀ (pre : List Nat) (e : Env) (gs : List Nat) (Φ : World → Prop), (∀ j ∈ pre, M9a l (fun _ => true) j i = true) →
 (∀ o, l[i]? = some o → ∀ g ∈ gs, szE P l o e w ≤ g) → FL P N l C V K lo (pre ++ i :: post) e gs Φ →
 ∃ o d, l[i]? = some o ∧ o.dst = some d ∧ d < N ∧ h3a P N l C V K lo (pre ++ post) i o d e gs Φ w := by
 intro pre
 induction pre with
 | nil =>
   intro e gs Φ _ hsz h
   obtain ⟨o, d, ho, hd, hN, h⟩ := h
   refine ⟨o, d, ho, hd, hN, ?_⟩
   rcases h with ⟨v, ⟨h1, h2⟩ | ⟨h1, rfl⟩, h3⟩ | ⟨mk, t, cs, h1, h2, h3⟩ | ⟨f, args, Qp, Qw, h1, h2, h3, h4⟩
   rotate_right
   ·exact .inr (.inr ⟨h2, f, args, Qp, Qw, h1, h3 w hC, fun u w' hu _ _ hk => FL.mono _ _ gs gs _ _ (fun g hg hn => ⟨by have := hk.size; omega, hn⟩) (fun _ hw => hw.1) (h4 u hu)⟩)
   ·exact .inl ⟨h1, v, w, h2 w hC, hC, C0a.refl _ _, FL.mono _ _ gs gs Φ _ (fun g hg hn => ⟨by omega, hn⟩) (fun _ hw => hw.1) h3⟩
   ·exact .inr (.inl ⟨h1, h3⟩)
   ·obtain ⟨w', h4, h5, h6, h7, h8⟩ := h2 w hC
    refine .inl ⟨h1, _, w', h4, h5, h6, ?_⟩
    have hs := hsz o ho
    unfold szE at hs
    rw [h1, h4] at hs
    refine FL.mono _ _ (w.heap.size :: gs) gs _ _ (fun g hg hn => ?_) (fun w1 hw => ⟨hw.1, V2a hw.2 h8⟩) (h3 w.heap.size hlo (fun hm => by have : w'.heap.size ≤ w.heap.size := hs _ hm; omega))
    simp only [List.mem_cons, not_or]
    exact ⟨by omega, by omega, hn⟩
 | cons q pre ih =>
   intro e gs Φ hind hsz h
   obtain ⟨p, c, hp, hc, hcN, h⟩ := h
   have hq := hind q (by simp)
   have hind' : ∀ j ∈ pre, M9a l (fun _ => true) j i = true := fun j hj => hind j (by simp [hj])
   have hnone : ∀ {o : Oper} {d : Nat} (u : Value), l[i]? = some o → o.dst = some d → (∀ s ∈ Oper.looksAt l.toArray o, upd e c u s = e s) ∧ c ≠ d ∧ d ∉ Oper.looksAt l.toArray p := fun {o d} u ho hd => by
    obtain ⟨_, hcd, hdp, hco⟩ := K7a hq hp ho hc hd
    exact ⟨fun s hs => z1a hco hs, hcd, hdp⟩
   rcases h with ⟨u, hu, h⟩ | ⟨mk, t, cs, h1, h2, h3⟩ | ⟨f, args, Qp, Qw, hV, hwt, hu, h⟩
   rotate_right
   ·obtain ⟨u0, hu0⟩ := hVn _ _ _ _ _ hV
    have key : ∀ u, Qp u → ∃ o d, l[i]? = some o ∧ o.dst = some d ∧ d < N ∧ h3a P N l C V K lo (pre ++ post) i o d (upd e c u) gs (fun w => Φ w ∧ Qw u w) w := fun u hu => ih (upd e c u) gs _ hind' (fun o ho g hg => by
     cases hd : o.dst with
     | none =>
       exfalso
       unfold M9a at hq
       simp [hp, ho, hc, hd] at hq
     | some d => rw [K9a (B0a hpl ho).1 (hnone u ho hd).1]; exact hsz o ho g hg) (h u hu)
    obtain ⟨o, d, ho, hd, hN, hF0⟩ := key u0 hu0
    have key2 : ∀ u, Qp u → h3a P N l C V K lo (pre ++ post) i o d (upd e c u) gs (fun w => Φ w ∧ Qw u w) w := fun u hu => by
     obtain ⟨o', d', ho', hd', _, hF⟩ := key u hu
     obtain rfl : o' = o := Option.some.inj (ho'.symm.trans ho)
     obtain rfl : d' = d := Option.some.inj (hd'.symm.trans hd)
     exact hF
    have hcd := (hnone .nilFunc ho hd).2.1
    have hdp := (hnone .nilFunc ho hd).2.2
    have ha : ∀ u, ∀ s ∈ Oper.looksAt l.toArray o, upd e c u s = e s := fun u => (hnone u ho hd).1
    refine ⟨o, d, ho, hd, hN, ?_⟩
    have hpa : ∀ v, ∀ s ∈ Oper.looksAt l.toArray p, upd e d v s = e s := fun v s hs => z1a hdp hs
    unfold h3a at hF0 ⊢
    rw [P0a (ha _), i1a (B0a hpl ho).1 (ha _)] at hF0
    have hcall : ∀ v, ∀ lo' Φ', (∀ u, Qp u → FL P N l C V K lo' (pre ++ post) (upd (upd e d v) c u) gs (fun w => Φ' w ∧ Qw u w)) → FL P N l C V K lo' (q :: (pre ++ post)) (upd e d v) gs Φ' := fun v lo' Φ' h9 =>
     ⟨p, c, hp, hc, hcN, .inr (.inr ⟨f, args, Qp, Qw, hV, by rw [P0a (hpa v)]; exact hwt, by rw [i1a (B0a hpl hp).1 (hpa v)]; exact hu, h9⟩)⟩
    rcases hF0 with ⟨hw, v, w', h4, h5, h6, -⟩ | ⟨hw, -⟩ | ⟨hw, f', args', Qp', Qw', hV', h4, -⟩
    ·refine .inl ⟨hw, v, w', h4, h5, h6, hcall v _ _ fun u hu => ?_⟩
     have hF := key2 u hu
     unfold h3a at hF
     rw [P0a (ha _), i1a (B0a hpl ho).1 (ha _)] at hF
     rcases hF with ⟨_, v', w'', h4', _, _, h7⟩ | ⟨hw', _⟩ | ⟨_, _, _, _, _, _, h4', _⟩
     ·rw [h4] at h4'; cases h4'
      rw [← t2a _ _ _ hcd]
      exact FL.mono _ _ gs gs _ _ (fun x hx hn => ⟨hx, hn⟩) (fun w1 hw1 => ⟨⟨hw1.1.1, hw1.2⟩, hw1.1.2⟩) h7
     ·rw [hw] at hw'; cases hw'
     ·rw [h4] at h4'; cases h4'
    ·refine .inr (.inl ⟨hw, hcall _ _ _ fun u hu => ?_⟩)
     have hF := key2 u hu
     unfold h3a at hF
     rw [P0a (ha _), i1a (B0a hpl ho).1 (ha _)] at hF
     rcases hF with ⟨hw', _⟩ | ⟨_, h7⟩ | ⟨hw', _⟩
     ·rw [hw] at hw'; cases hw'
     ·rw [← t2a _ _ _ hcd]; exact h7
     ·rw [hw] at hw'; cases hw'
    ·refine .inr (.inr ⟨hw, f', args', Qp', Qw', hV', h4, fun u' w' hu' hq' hC' hk' => hcall u' _ _ fun u hu => ?_⟩)
     have hF := key2 u hu
     unfold h3a at hF
     rw [P0a (ha _), i1a (B0a hpl ho).1 (ha _)] at hF
     rcases hF with ⟨_, v', w'', h4', _⟩ | ⟨hw', _⟩ | ⟨_, f'', args'', Qp'', Qw'', hV'', _, h7⟩
     ·rw [h4] at h4'; cases h4'
     ·rw [hw] at hw'; cases hw'
     ·rw [hV'] at hV''; cases hV''
      rw [← t2a _ _ _ hcd]
      exact FL.mono _ _ gs gs _ _ (fun x hx hn => ⟨hx, hn⟩) (fun w1 hw1 => ⟨⟨⟨hw1.1.1.1, hw1.2⟩, hw1.1.1.2⟩, hw1.1.2⟩) (h7 u' w' hu' hq' hC' hk')
   ·obtain ⟨o, d, ho, hd, hN, hF⟩ := ih (upd e c u) gs Φ hind' (fun o ho g hg => by
     cases hd : o.dst with
     | none =>
       exfalso
       unfold M9a at hq
       simp [hp, ho, hc, hd] at hq
     | some d => rw [K9a (B0a hpl ho).1 (hnone u ho hd).1]; exact hsz o ho g hg) h
    obtain ⟨ha, hcd, hdp⟩ := hnone u ho hd
    refine ⟨o, d, ho, hd, hN, ?_⟩
    unfold h3a at hF ⊢
    rw [P0a ha, i1a (B0a hpl ho).1 ha] at hF
    rcases hF with ⟨hw, v, w', h4, h5, h6, h7⟩ | ⟨hw, h7⟩ | ⟨hw, f, args, Qp, Qw, hV, h4, h7⟩
    rotate_right
    ·refine .inr (.inr ⟨hw, f, args, Qp, Qw, hV, h4, fun x w' hx hqx hC' hk' => ⟨p, c, hp, hc, hcN, .inl ⟨u, hu.congr (B0a hpl hp).1 (fun s hs => (z1a hdp hs).symm), ?_⟩⟩⟩)
     rw [← t2a _ _ _ hcd]; exact h7 x w' hx hqx hC' hk'
    ·refine .inl ⟨hw, v, w', h4, h5, h6, p, c, hp, hc, hcN, .inl ⟨u, hu.congr (B0a hpl hp).1 (fun s hs => (z1a hdp hs).symm), ?_⟩⟩
     rw [← t2a _ _ _ hcd]; exact h7
    ·refine .inr (.inl ⟨hw, p, c, hp, hc, hcN, .inl ⟨u, hu.congr (B0a hpl hp).1 (fun s hs => (z1a hdp hs).symm), ?_⟩⟩)
     rw [← t2a _ _ _ hcd]; exact h7
   ·have key : ∀ g, lo ≤ g → g ∉ gs → (∀ o, l[i]? = some o → szE P l o e w ≤ g) → ∃ o d, l[i]? = some o ∧ o.dst = some d ∧ d < N ∧ h3a P N l C V K lo (pre ++ post) i o d (upd e c (mk g)) (g :: gs) (fun w => Φ w ∧ t0a w (g, t, cs)) w := fun g hg hn hs => by
     refine ih (upd e c (mk g)) (g :: gs) _ hind' (fun o ho x hx => ?_) (h3 g hg hn)
     cases hd : o.dst with
     | none =>
       exfalso
       unfold M9a at hq
       simp [hp, ho, hc, hd] at hq
     | some d =>
       rw [K9a (B0a hpl ho).1 (hnone (mk g) ho hd).1]
       rcases List.mem_cons.1 hx with rfl | hx
       ·exact hs o ho
       ·exact hsz o ho x hx
    have h4 : ∃ o d, l[i]? = some o ∧ o.dst = some d ∧ d < N := by
     cases ho : l[i]? with
     | none => unfold M9a at hq; simp [ho] at hq
     | some o =>
       obtain ⟨g0, hg0, hb0, hn0⟩ := j4b lo (szE P l o e w) gs
       obtain ⟨o', d, ho', hd, hN, _⟩ := key g0 hg0 hn0 (fun o' ho' => by rw [ho] at ho'; cases ho'; exact hb0)
       rw [ho] at ho'; cases ho'
       exact ⟨o, d, rfl, hd, hN⟩
    obtain ⟨o, d, ho, hd, hN⟩ := h4
    have key2 : ∀ g, lo ≤ g → g ∉ gs → szE P l o e w ≤ g → h3a P N l C V K lo (pre ++ post) i o d (upd e c (mk g)) (g :: gs) (fun w => Φ w ∧ t0a w (g, t, cs)) w := fun g hg hn hs => by
     obtain ⟨o', d', ho', hd', _, hF⟩ := key g hg hn (fun o' ho' => by rw [ho] at ho'; cases ho'; exact hs)
     obtain rfl : o' = o := Option.some.inj (ho'.symm.trans ho)
     obtain rfl : d' = d := Option.some.inj (hd'.symm.trans hd)
     exact hF
    refine ⟨o, d, ho, hd, hN, ?_⟩
    obtain ⟨g0, hg0, hb0, hn0⟩ := j4b lo (szE P l o e w) gs
    have hcd := (hnone .nilFunc ho hd).2.1
    have hdp := (hnone .nilFunc ho hd).2.2
    have ha : ∀ u, ∀ s ∈ Oper.looksAt l.toArray o, upd e c u s = e s := fun u => (hnone u ho hd).1
    have hpa : ∀ v, ∀ s ∈ Oper.looksAt l.toArray p, upd e d v s = e s := fun v s hs => z1a hdp hs
    have hF0 := key2 g0 hg0 hn0 hb0
    unfold h3a at hF0 ⊢
    rw [P0a (ha _), i1a (B0a hpl ho).1 (ha _)] at hF0
    rcases hF0 with ⟨hw, v, w', h4, h5, h6, -⟩ | ⟨hw, -⟩ | ⟨hw, f, args, Qp, Qw, hV, h4, -⟩
    rotate_right
    ·have hsz' : szE P l o e w = w.heap.size := by unfold szE; rw [hw, h4]; rfl
     refine .inr (.inr ⟨hw, f, args, Qp, Qw, hV, h4, fun x w' hx hqx hC' hk' => ⟨p, c, hp, hc, hcN, .inr (.inl ⟨mk, t, cs, by rw [P0a (hpa x)]; exact h1, by rw [i1a (B0a hpl hp).1 (hpa x)]; exact h2, fun g hg hn => ?_⟩)⟩⟩)
     have hks := hk'.size
     have hF := key2 g (by omega) hn (by omega)
     unfold h3a at hF
     rw [P0a (ha _), i1a (B0a hpl ho).1 (ha _)] at hF
     rcases hF with ⟨_, v', w'', h4', _⟩ | ⟨hw', _⟩ | ⟨_, f', args', Qp', Qw', hV', _, h7⟩
     ·rw [h4] at h4'; cases h4'
     ·rw [hw] at hw'; cases hw'
     ·rw [hV] at hV'; cases hV'
      rw [← t2a _ _ _ hcd]
      exact FL.mono _ _ (g :: gs) (g :: gs) _ _ (fun x hx hn => ⟨hx, hn⟩) (fun w1 hw1 => ⟨⟨⟨hw1.1.1.1, hw1.2⟩, hw1.1.1.2⟩, hw1.1.2⟩) (h7 x w' hx hqx hC' hk')
    ·have hsz' : szE P l o e w = w'.heap.size := by unfold szE; rw [hw, h4]; rfl
     refine .inl ⟨hw, v, w', h4, h5, h6, p, c, hp, hc, hcN, .inr (.inl ⟨mk, t, cs, by rw [P0a (hpa v)]; exact h1, by rw [i1a (B0a hpl hp).1 (hpa v)]; exact h2, fun g hg hn => ?_⟩)⟩
     have hF := key2 g (by have := h6.size; omega) hn (by omega)
     unfold h3a at hF
     rw [P0a (ha _), i1a (B0a hpl ho).1 (ha _)] at hF
     rcases hF with ⟨_, v', w'', h4', _, _, h7⟩ | ⟨hw', _⟩ | ⟨_, _, _, _, _, _, h4', _⟩
     rotate_right
     ·rw [h4] at h4'; cases h4'
     ·rw [h4] at h4'; cases h4'
      rw [← t2a _ _ _ hcd]
      exact FL.mono _ _ (g :: gs) (g :: gs) _ _ (fun x hx hn => ⟨hx, hn⟩) (fun w1 hw1 => ⟨⟨hw1.1.1, hw1.2⟩, hw1.1.2⟩) h7
     ·rw [hw] at hw'; cases hw'
    ·refine .inr (.inl ⟨hw, p, c, hp, hc, hcN, .inr (.inl ⟨mk, t, cs, by rw [P0a (hpa _)]; exact h1, by rw [i1a (B0a hpl hp).1 (hpa _)]; exact h2, fun g hg hn => ?_⟩)⟩)
     have hsz' : szE P l o e w = 0 := by unfold szE; rw [hw]; rfl
     have hF := key2 g hg hn (by omega)
     unfold h3a at hF
     rw [P0a (ha _), i1a (B0a hpl ho).1 (ha _)] at hF
     rcases hF with ⟨hw', _⟩ | ⟨_, h7⟩ | ⟨hw', _⟩
     rotate_right
     ·rw [hw] at hw'; cases hw'
     ·rw [hw] at hw'; cases hw'
     ·rw [← t2a _ _ _ hcd]
      exact h7
theorem u9a {id : Nat} {n t : List Deferred → Env → World → Prop} {b : Nat → List Deferred → Env → World → Prop} {e : Env} {w : World} (hm : P.follows .mixedOrders = true) (ix : List Nat)
 (m : Nat) (hok : k4b l (fun _ => true) m = true) (hix : (List.range m == ix) = true) (C : World → Prop) (hC : C w.drew) (V : e1c) (hV : ∀ i f args Qp Qw, V i = some (f, args, Qp, Qw) → (∃ u, Qp u) ∧ (∀ u w w', C0a [] w w' → Qw u w → Qw u w') ∧ ∀ w, C w → R0a P f args w fun u w' => (Qp u ∧ Qw u w') ∧ C w' ∧ C0a [] w w') (ol : Oper) (hol : l[m]? = some ol)
 (h : FL P N l C V (fun e w => WL P r N l.toArray [ol] (fun D' e' w' => D' = D ∧ n D e' w') D e w) w.heap.size ix e [] (fun _ => True)) : W P r N (.region id l.toArray true) ⟨n, b, t⟩ D e w := by
 obtain rfl : List.range m = ix := eq_of_beq hix
 generalize hKd : (fun (e : Env) (w : World) => WL P r N l.toArray [ol] (fun D' e' w' => D' = D ∧ n D e' w') D e w) = K' at h
 unfold k4b at hok
 simp only [Bool.and_eq_true, decide_eq_true_eq] at hok
 obtain ⟨⟨⟨⟨hpl, hac⟩, hin⟩, hlast⟩, _⟩ := hok
 have hlw : ∀ j, j < m → j ∈ m4a l m := fun j hj => by
  have := List.all_eq_true.1 hlast j (List.mem_range.2 hj)
  simpa using this
 refine I7b hm hac (fun f e w => (∀ i, f i = true → ∀ j ∈ j1a l i, f j = true) ∧ ((f m = false ∧ C w ∧ ∃ lo Φ, lo ≤ w.heap.size ∧ (∀ w w', Φ w → C0a [] w w' → Φ w') ∧ Φ w ∧ FL P N l C V K' lo (n7a m f) e [] Φ) ∨ (f m = true ∧ n D e w))) ⟨by simp, .inl ⟨rfl, hC, w.heap.size, fun _ => True, Nat.le_refl _, fun _ _ _ _ => trivial, trivial, ?_⟩⟩ ?_ ?_
 ·have : n7a m (fun _ => false) = List.range m := by unfold n7a; simp
  rw [this]; exact h
 ·rintro f e w i o ⟨hcl, hM⟩ ho hfi hpr
  have hil0 : i < l.length := (List.getElem?_eq_some_iff.1 ho).1
  have hcl' : ∀ k, (f k || k == i) = true → ∀ j ∈ j1a l k, (f j || j == i) = true := by
   intro k hk j hj
   simp only [Bool.or_eq_true, beq_iff_eq] at hk ⊢
   rcases hk with hk | rfl
   ·exact .inl (hcl k hk j hj)
   ·exact .inl (hpr j hj)
  rcases hM with ⟨hfm, hCw, lo, Φ, hlo, hst, hΦ, hM⟩ | ⟨hfm, -⟩
  rotate_left
  ·have := E3a hcl l.length (j1a l m) (hcl m hfm) i (hlw i (by
    rcases Nat.lt_or_ge i m with h | h
    ·exact h
    ·have : i = m := by omega
     subst this; rw [hfi] at hfm; cases hfm))
   rw [hfi] at this; cases this
  by_cases him : i = m
  ·subst him
   obtain rfl : ol = o := Option.some.inj (hol.symm.trans ho)
   have hall : ∀ j, j < i → f j = true := fun j hj => E3a hcl _ _ hpr j (hlw j hj)
   have hrem : n7a i f = [] := by
    unfold n7a; rw [List.filter_eq_nil_iff]; intro j hj; simp [hall j (List.mem_range.1 hj)]
   rw [hrem] at hM
   have h4 := hM w hCw hΦ
   rw [← hKd] at h4
   clear hM h hKd
   unfold WL at *
   refine fun a Q hs hD he hK => h4 a Q hs hD he (fun a' w' hs' hh => hK a' w' hs' ?_)
   exact ⟨hh.1, hcl', .inr ⟨by simp, hh.2⟩⟩
  have hil : i < m := by omega
  have hfm' : (f m || m == i) = false := by simp [hfm]; omega
  obtain ⟨pre, _, h1, h2, h3⟩ := h0b (m := m) f hil hfi
  rw [h1] at hM
  have hwt : ∀ j ∈ m4a l i, f j = true := E3a hcl _ _ hpr
  obtain ⟨o', _, ho', hd, hN, h4⟩ := FL.first hpl (fun i f args Qp Qw h => (hV i f args Qp Qw h).1) hCw hlo pre e [] Φ (fun j hj => by
   have := List.all_eq_true.1 (List.all_eq_true.1 hin i (List.mem_range.2 hil)) j (List.mem_range.2 (h3 j hj).1)
   simp only [Bool.or_eq_true, List.contains_eq_mem, decide_eq_true_eq] at this
   rcases this with h | h
   ·have := hwt j h; rw [(h3 j hj).2] at this; cases this
   ·exact h) (by simp) hM
  obtain rfl : o' = o := Option.some.inj (ho'.symm.trans ho)
  rcases h4 with ⟨hw, v, w', hv, hC', hk', h4⟩ | ⟨hw, h4⟩ | ⟨hw, f', args, Qp, Qw, hVi, hv, h4⟩
  rotate_right
  ·unfold WL; intro a Q hs hD he hK
   simp only [wpListIn]
   have hw' : Region.wanted o' (yielded l.toArray a.tmps) = true := by rw [o1a, he]; exact hw
   simp only [hw', if_true]
   refine ⟨z0a _ _ _, ?_⟩
   rw [Oper.semAt_eq _ _ _ (B0a hpl ho).2, j2a, he, hv, Oper.uponIn_enter]
   refine ⟨fun hh => by simp [fc, Fence.wide] at hh, E4a (Calls.mono ((hV _ _ _ _ _ hVi).2.2 w hCw) ?_)⟩
   rintro en w' ⟨u, rfl, ⟨hu, hqu⟩, hC', hk'⟩
   rw [hd]
   refine hK _ _ (by simp [Act.put, hs]) ⟨by simp [Act.put, hD], ?_⟩
   rw [d1a u (by rw [hs]; exact hN), he]
   exact ⟨hcl', .inl ⟨hfm', hC', w'.heap.size, (fun w1 => (Φ w1 ∧ Qw u w1) ∧ C0a [] w' w1), Nat.le_refl _, fun w1 w2 h5 h6 => ⟨⟨hst _ _ h5.1.1 h6, (hV _ _ _ _ _ hVi).2.1 u _ _ h6 h5.1.2⟩, h5.2.trans h6⟩, ⟨⟨hst _ _ hΦ hk', hqu⟩, C0a.refl _ _⟩, by rw [h2]; exact h4 u w' hu hqu hC' hk'⟩⟩
  ·unfold WL; intro a Q hs hD he hK
   simp only [wpListIn]
   have hw' : Region.wanted o' (yielded l.toArray a.tmps) = true := by rw [o1a, he]; exact hw
   simp only [hw', if_true]
   refine ⟨z0a _ _ _, ?_⟩
   rw [Oper.semAt_eq _ _ _ (B0a hpl ho).2, j2a, he, hv, Oper.uponIn_value]
   refine hK _ _ (by simp [Act.put, hd, hs]) ⟨by simp [Act.put, hd, hD], ?_⟩
   rw [hd, d1a v (by rw [hs]; exact hN), he]
   exact ⟨hcl', .inl ⟨hfm', hC', w'.heap.size, (fun w1 => Φ w1 ∧ C0a [] w' w1), Nat.le_refl _, fun w1 w2 h5 h6 => ⟨hst _ _ h5.1 h6, h5.2.trans h6⟩, ⟨hst _ _ hΦ hk', C0a.refl _ _⟩, by rw [h2]; exact h4⟩⟩
  ·unfold WL; intro a Q hs hD he hK
   simp only [wpListIn]
   have hw' : Region.wanted o' (yielded l.toArray a.tmps) = false := by rw [o1a, he]; exact hw
   simp only [hw']
   refine ⟨z0a _ _ _, ?_⟩
   refine hK _ _ (by simp [Act.put, hd, hs]) ⟨by simp [Act.put, hd, hD], ?_⟩
   rw [hd, d1a undef (by rw [hs]; exact hN), he]
   exact ⟨hcl', .inl ⟨hfm', hCw, lo, Φ, hlo, hst, hΦ, by rw [h2]; exact h4⟩⟩
 ·rintro f e w ⟨hcl, hM⟩ hall
  rcases hM with ⟨hfm, -⟩ | ⟨-, hM⟩
  ·have := hall m (by omega); rw [hfm] at this; cases this
  ·exact hM
theorem U2c {id : Nat} {n t : List Deferred → Env → World → Prop} {b : Nat → List Deferred → Env → World → Prop} {e : Env} {w : World} (hm : P.follows .mixedOrders = true) (ix : List Nat)
 (m : Nat) (hok : k4b l (fun _ => true) m = true) (hix : (List.range m == ix) = true) (C : World → Prop) (hC : C w.drew) (ol : Oper) (hol : l[m]? = some ol)
 (h : FL P N l C (fun _ => none) (fun e w => WL P r N l.toArray [ol] (fun D' e' w' => D' = D ∧ n D e' w') D e w) w.heap.size ix e [] (fun _ => True)) : W P r N (.region id l.toArray true) ⟨n, b, t⟩ D e w :=
 u9a hm ix m hok hix C hC (fun _ => none) (fun _ _ _ _ _ h => by cases h) ol hol h
variable {lo : Nat} {gs : List Nat} {Φ : World → Prop} {e : Env} {w w0 : World} {L : List Ent} {M : List Nat}
theorem R0b (h : ∀ w, C w → Φ w → K e w) : FL P N l C V K lo [] e gs Φ := h
theorem v7a {i : Nat} {rest : List Nat} {o : Oper} (ho : l[i]? = some o) (hv : Y1c o.op = true) (h : QL P N l.toArray C [o] (fun e' => FL P N l C V K lo rest e' gs Φ) e) : FL P N l C V K lo (i :: rest) e gs Φ := by
 unfold QL at h
 obtain ⟨pa, hl, hq, hk⟩ := h
 obtain ⟨d, v, h1, h2, h3, h4⟩ := hq 0 o rfl
 obtain rfl : pa = [(d, v)] := by
  match pa, hl, h1 with
  | [x], _, h1 => simpa using h1
 refine ⟨o, d, ho, h2, h3, .inl ⟨v, ?_, hk⟩⟩
 rcases h4 with ⟨h5, h6⟩ | h5
 ·refine .inl ⟨h5, fun w hw => ?_⟩
  rcases h6 w hw with h7 | ⟨f, args, h7, _⟩
  ·exact h7
  ·obtain ⟨_, hv'⟩ := x6a hv h7; cases hv'
 ·exact .inr h5
theorem W0b {i d : Nat} {rest : List Nat} {x : Operand} {ty size n c : Nat} {t : TypeId} {p : String} {af : Array Edge} {A : Option Addr} (ho : l[i]? = some ⟨some d, .call { callee := .builtin .len, args := #[x], argTypes := #[ty] }, t, p, af, none⟩) (hT : SlT P ty size) (hx : ev e x = .slice A n c) (hd : Nat.ble (d + 1) N = true)
 (h : FL P N l C V K lo rest (upd e d (.int .i64 n)) gs Φ) : FL P N l C V K lo (i :: rest) e gs Φ := by
 obtain ⟨_, hu, _⟩ := hT
 exact ⟨_, d, ho, rfl, Nat.le_of_ble_eq_true hd, .inl ⟨_, .inl ⟨rfl, fun w _ => by simp [execOp, resolve, invoke, builtin, Builtin.len_, hx, run_underlying hu, goInt]⟩, h⟩⟩
theorem e0c {i d t : Nat} {rest : List Nat} {o : Oper} {mk : Nat → Value} {cs : List Value} (ho : l[i]? = some o) (hd : o.dst = some d) (hN : Nat.ble (d + 1) N = true) (hw : a1a l.toArray e o = true)
 (hrun : ∀ w1, Cl M w0 w L w1 → (execOp (ev e) o).run P w1 = .ok (.value (mk w1.heap.size)) (w1.alloc (.cells cs.toArray t (0, 0))))
 (h : ∀ g, lo ≤ g → g ∉ gs → FL P N l (Cl M w0 w L) V K lo rest (upd e d (mk g)) (g :: gs) (fun w => Φ w ∧ t0a w (g, t, cs))) : FL P N l (Cl M w0 w L) V K lo (i :: rest) e gs Φ :=
 ⟨o, d, ho, hd, Nat.le_of_ble_eq_true hN, .inr (.inl ⟨mk, t, cs, hw, fun w1 hC => ⟨_, hrun w1 hC, Cl.alloc _ _ hC, I2a _ _ _, by simp, by unfold t0a; show (w1.heap.push _)[w1.heap.size]? = _; simp⟩, h⟩)⟩
theorem P6a {i d el : Nat} {t : TypeId} {p : String} {af : Array Edge} {gd : Option (Nat × Bool)} {z : Value} {cs : List Value} {rest : List Nat}
 (ho : l[i]? = some ⟨some d, .alloc el, t, p, af, gd⟩) (hN : Nat.ble (d + 1) N = true) (hw : a1a l.toArray e ⟨some d, .alloc el, t, p, af, gd⟩ = true) (hz : ∀ w, (zeroValue el).run P w = .ok z w) (hcs : z.cells.toList = cs)
 (h : ∀ g, lo ≤ g → g ∉ gs → FL P N l (Cl M w0 w L) V K lo rest (upd e d (.pointer (some ⟨g, 0, none⟩))) (g :: gs) (fun w => Φ w ∧ t0a w (g, el, cs))) : FL P N l (Cl M w0 w L) V K lo (i :: rest) e gs Φ := by
 refine e0c (mk := fun g => .pointer (some ⟨g, 0, none⟩)) ho rfl hN hw (fun w1 _ => ?_) h
 subst hcs
 simp [execOp, Instr.alloc, newVar, newRow, hz]
theorem K1c {i d : Nat} {rest : List Nat} {t : TypeId} {p : String} {af : Array Edge} {args : Array Operand} {at_ : Array TypeId} {g : Operand} {caps : Array Value} {f : FuncId} {vs : List Value} {Qp : Value → Prop} {Qw : Value → World → Prop} (hH : Has P f)
 (ho : l[i]? = some ⟨some d, .call { callee := .value g, args := args, argTypes := at_ }, t, p, af, none⟩) (hN : Nat.ble (d + 1) N = true)
 (hw : a1a l.toArray e ⟨some d, .call { callee := .value g, args := args, argTypes := at_ }, t, p, af, none⟩ = true) (hg : ev e g = .func (.func f) #[] caps) (hvs : args.toList.map (ev e) ++ caps.toList = vs) (hV : V i = some (f, vs.toArray, Qp, Qw))
 (h : ∀ u, Qp u → FL P N l C V K lo rest (upd e d u) gs (fun w => Φ w ∧ Qw u w)) : FL P N l C V K lo (i :: rest) e gs Φ := by
 refine ⟨_, d, ho, rfl, Nat.le_of_ble_eq_true hN, .inr (.inr ⟨f, vs.toArray, Qp, Qw, hV, hw, fun w1 _ => ?_, h⟩)⟩
 subst hvs
 have : (args.map (ev e) ++ caps) = (args.toList.map (ev e) ++ caps.toList).toArray := by apply Array.ext'; simp
 simp [execOp, resolve, Deferred.ofValue, invoke, hg, hH _ w1, this]
def eqQ (v : Value) : Value → Prop := fun u => u = v
def noQ : Value → World → Prop := fun _ _ => True
theorem V9a {i d : Nat} {rest : List Nat} {t : TypeId} {p : String} {af : Array Edge} {args : Array Operand} {at_ : Array TypeId} {f : FuncId} {vs : List Value} {v : Value} (hH : Has P f)
 (ho : l[i]? = some ⟨some d, .call { callee := .value (.func f), args := args, argTypes := at_ }, t, p, af, none⟩) (hN : Nat.ble (d + 1) N = true)
 (hw : a1a l.toArray e ⟨some d, .call { callee := .value (.func f), args := args, argTypes := at_ }, t, p, af, none⟩ = true) (hvs : args.toList.map (ev e) = vs) (hV : V i = some (f, vs.toArray, eqQ v, noQ))
 (h : FL P N l C V K lo rest (upd e d v) gs Φ) : FL P N l C V K lo (i :: rest) e gs Φ :=
 K1c (caps := #[]) hH ho hN hw rfl (by simpa using hvs) hV fun u hu => by
  cases hu
  exact FL.mono _ _ gs gs _ _ (fun x hx hn => ⟨hx, hn⟩) (fun w1 hw1 => hw1.1) h
theorem A3a {i d ty el size bytes n : Nat} {t : TypeId} {p : String} {af : Array Edge} {gd : Option (Nat × Bool)} {z : Value} {parts : Array (Nat × Operand)} {vs : List Value} {cs : List Value} {rest : List Nat}
 (ho : l[i]? = some ⟨some d, .buildSlice ty n parts, t, p, af, gd⟩) (hN : Nat.ble (d + 1) N = true) (hw : a1a l.toArray e ⟨some d, .buildSlice ty n parts, t, p, af, gd⟩ = true) (hS : SlZ P ty el size z bytes)
 (hvs : parts.toList.map (fun q => (q.1, ev e q.2)) = (vs.zipIdx 0).map fun q => (q.2, q.1)) (hn : vs.length = n) (h0 : Nat.ble 1 n = true) (hbig : Nat.ble (n * size) 16777216 = true) (hv : vs.map (·.cells.size) = List.replicate n size)
 (hcs : vs.flatMap (·.cells.toList) = cs)
 (h : ∀ g, lo ≤ g → g ∉ gs → FL P N l (Cl M w0 w L) V K lo rest (upd e d (.slice (some ⟨g, 0, none⟩) n n)) (g :: gs) (fun w => Φ w ∧ t0a w (g, el, cs))) : FL P N l (Cl M w0 w L) V K lo (i :: rest) e gs Φ := by
 have hp : (parts.map fun (i, x) => (i, ev e x)) = ((vs.zipIdx 0).map fun q => (q.2, q.1)).toArray := by rw [← hvs]; apply Array.ext'; simp
 have hv' : ∀ v ∈ vs, v.cells.size = size := fun v hm => by
  have : v.cells.size ∈ vs.map (·.cells.size) := List.mem_map.2 ⟨v, hm, rfl⟩
  rw [hv] at this; exact (List.mem_replicate.1 this).2
 refine e0c (mk := fun g => .slice (some ⟨g, 0, none⟩) n n) (t := el) (cs := cs) ho rfl hN hw (fun w1 _ => ?_) h
 have hrun := v4a hS hn (Nat.le_of_ble_eq_true h0) (Nat.le_of_ble_eq_true hbig) hv' w1
 subst hcs
 simp only [execOp, hp, Sem.run_bind, hrun, Result.andThen_ok, Sem.run_pure]
theorem L7a {i d : Nat} {t : TypeId} {p : String} {af : Array Edge} {gd : Option (Nat × Bool)} {x y : Operand} {rest : List Nat}
 {ty el bytes n c : Nat} {z : Value} {kl kc : IntKind} (ho : l[i]? = some ⟨some d, .makeSlice ty x y, t, p, af, gd⟩) (hN : Nat.ble (d + 1) N = true) (hw : a1a l.toArray e ⟨some d, .makeSlice ty x y, t, p, af, gd⟩ = true)
 (hS : SlZ P ty el 1 z bytes) (hx : ev e x = .int kl (n : Int)) (hy : ev e y = .int kc (c : Int)) (hnc : n ≤ c) (hb : bytes * c ≤ 140737488355328) (hc : c ≤ 140737488355328)
 (hz1 : z.cells = #[z])
 (h : ∀ g, lo ≤ g → g ∉ gs → FL P N l (Cl M w0 w L) V K lo rest (upd e d (.slice (some ⟨g, 0, none⟩) n c)) (g :: gs) (fun w => Φ w ∧ t0a w (g, el, List.replicate c z))) : FL P N l (Cl M w0 w L) V K lo (i :: rest) e gs Φ := by
 obtain ⟨ii, hi, hz, hsz, hby⟩ := hS.parts
 have hbb : (ii.bytes : Int) * (c : Int) ≤ 281474976710656 := by
  have : ((bytes * c : Nat) : Int) ≤ 281474976710656 := by omega
  rw [hby]; rwa [Int.natCast_mul] at this
 refine e0c (mk := fun g => .slice (some ⟨g, 0, none⟩) n c) (t := el) (cs := List.replicate c z) ho rfl hN hw (fun w1 _ => ?_) h
 have hr := run_make (P := P) w1 ty el ii z hS.und hi hz kl kc n c (by omega) (by omega) hbb (by omega)
 have hm : madeCells z.cells (c * ii.size) = (List.replicate c z).toArray := by
  rw [hz1, hsz, Nat.mul_one]
  apply Array.ext
  ·simp [madeCells]
  ·intro j h1 h2
   simp [madeCells, Nat.mod_one]
 simp only [Int.toNat_natCast, hm] at hr
 simp only [execOp, hx, hy, Sem.run_bind, hr, Result.andThen_ok, Sem.run_pure]
end
end Go.Fw
namespace Go.Fw
open Go.RowKit
section
variable {α : Type}
def W2a (l : List α) (z : α) (k : Nat) : List α := l.take k ++ List.replicate (l.length - k) z
theorem r6a (l : List α) (z : α) : W2a l z 0 = List.replicate l.length z := by simp [W2a]
theorem S7a (l : List α) (z : α) {k : Nat} (h : l.length ≤ k) : W2a l z k = l := by
 unfold W2a; rw [List.take_of_length_le h, Nat.sub_eq_zero_of_le h]; simp
@[simp] theorem n2c (l : List α) (z : α) (k : Nat) : (W2a l z k).length = l.length := by
 unfold W2a; simp; omega
theorem j8a {l : List α} {z v : α} {k i : Nat} (h : l[k]? = some v) (hi : i = k) : (W2a l z k).set i v = W2a l z (k + 1) := by
 subst hi
 obtain ⟨hlt, rfl⟩ := List.getElem?_eq_some_iff.1 h
 unfold W2a
 rw [List.set_append_right _ _ (by simp; omega)]
 have h1 : l.length - i = (l.length - (i + 1)) + 1 := by omega
 rw [h1, List.replicate_succ]
 simp only [List.length_take, Nat.min_eq_left (Nat.le_of_lt hlt), Nat.sub_self, List.set_cons_zero]
 rw [h1a h, List.append_assoc]
 rfl
theorem N5b {l : List α} {z : α} {k : Nat} (h : l[k]? = some z) : W2a l z k = W2a l z (k + 1) := by
 obtain ⟨_, _⟩ := List.getElem?_eq_some_iff.1 h
 unfold W2a
 have h1 : l.length - k = (l.length - (k + 1)) + 1 := by omega
 rw [h1, List.replicate_succ, h1a h]
 simp
end
theorem St.setEnt {M : List Nat} {w0 w : World} {L : List Ent} (S : St M w0 w L) (j : Nat) {G : Option Nat} {t : TypeId} {cs cs' : List Value} (hj : L[j]? = some (G, t, cs)) (h : cs = cs') : St M w0 w (L.set j (G, t, cs')) := by
 subst h
 have : L.set j (G, t, cs) = L := by
  obtain ⟨_, he⟩ := List.getElem?_eq_some_iff.1 hj
  rw [← he]; simp
 rw [this]; exact S
theorem St.rdInts {M M' : List Nat} {w0 w : World} {L : List Ent} (S : St M' w0 w L) (j : Nat) {g t n : Nat} {l : List Int} (hj : L[j]? = some (some g, t, l.map (Value.int .i64))) (hg : g ∉ M) (hn : n = l.length) (hbig : n ≤ 140737488355328) (hl : ∀ x ∈ l, i64 x) : RdI M w (.slice (some ⟨g, 0, none⟩) n n) l :=
 S.rd1 hj hg hn hbig fun i x hi => ⟨.int .i64 x, by simp [hi], rfl, hl x (List.mem_of_getElem? hi)⟩
theorem h2a {α : Type} {M : List Nat} {w : World} {size : Nat} {R : List Value → α → Prop} : RdS M w size R (.slice none 0 0) [] := ⟨none, 0, 0, rfl, rfl, Nat.le_refl _, by unfold maxLen; omega, by omega, fun h => absurd h (by omega)⟩
theorem St.rdBufs {M M' : List Nat} {w0 w : World} {L : List Ent} (S : St M' w0 w L) (j : Nat) {g t n : Nat} {l : List (List I0a)} (hj : L[j]? = some (some g, t, List.replicate n (.slice none 0 0))) (hg : g ∉ M) (hn : n = l.length) (hbig : n ≤ 140737488355328) (hl : ∀ b ∈ l, b = []) : W6c M w (.slice (some ⟨g, 0, none⟩) n n) l :=
 S.rd1 hj hg hn hbig fun i x hi => by
  obtain rfl := hl x (List.mem_of_getElem? hi)
  have := (List.getElem?_eq_some_iff.1 hi).1
  exact ⟨.slice none 0 0, by rw [List.getElem?_replicate, if_pos (by omega)], _, rfl, h2a⟩
@[simp] theorem J0c (p : d0a) : (v1a p).mem.length = p.cells.length := by simp [v1a]
@[simp] theorem q1c (p : d0a) : (v1a p).at_.length = p.threads.length := by simp [v1a]
theorem Q4a {p : d0a} (hp : T0a p) {m : List Int} (h : X4a p m) : ∀ x ∈ m, i64 x := fun x hx => by
 obtain ⟨i, hi, rfl⟩ := List.getElem_of_mem hx
 have := h.vals i _ (List.getElem?_eq_getElem hi)
 have := Z5b hp i
 unfold i64; omega
theorem A8a {p : d0a} (hp : T0a p) {c : D0a} (h : b6a p c) : ∀ x ∈ c.at_, i64 x := fun x hx => by
 have := (Y6b hp h).2.1 x hx
 unfold i64; omega
end Go.Fw
namespace Go.Proofs.YtjjmdcnmeommbaaGreatDoor
open Go.Fw Go.RowKit
theorem z5a (p : d0a) (M : List Nat) (w0 : World) (cs : List Value) (hI : InP p M w0 cs) :
 R0a Tryz.prog 134 #[.agg cs.toArray] w0 fun v w' => v = .bool true ∧ Below w0.heap.size w0 w' := by
 obtain ⟨_, _, _, _, _, _, _, _, _, _, _, _, rfl, _, _, _, _, _, _, _, _, _, _, _, _⟩ := hI.rd.open_
 have S := St.refl w0
 refine a0a Tryz.func134 rfl Tryz.ntmps134 rfl ?_
 refine wO0 rfl ⟨⟩ (m0a S (by conv => lhs; whnf) rfl ?_)
 intro g1 w1 S1 X1 G1
 refine lO S1.k [.w 0] rfl ⟨⟨rfl,by rfl⟩,⟨⟩⟩ (g0a S1 D6b rfl rfl (V6a p M _ _ (hI.keep (S1.keep0 M)).rd hI.ok (hI.keep (S1.keep0 M)).msk (hI.keep (S1.keep0 M)).lt) ?_)
 intro w8 S8 X8
 refine lB0 rfl ⟨⟩ (fun h13 => ?_) (fun h13 => by exfalso; omega)
 exact lT rfl ⟨⟩ rfl ⟨rfl, S8.fin⟩
theorem C9a (p : d0a) (c : D0a) (M : List Nat) (w0 : World) (cs xs : List Value) (hI : InP p M w0 cs) (hX : O0a M w0 c xs) (hf : b6a p c) (he : ∀ b ∈ c.buf, b = []) :
 R0a Tryz.prog 169 #[.agg cs.toArray, .agg xs.toArray] w0 fun v w' => v = .bool true ∧ Below w0.heap.size w0 w' := by
 obtain ⟨Ac, nc, cc, Am, nm, cm, Al, nl, cl, At, nt, ct, rfl, hC, _, _, hTh, _, _, _, _, _, _, _, _⟩ := hI.rd.open_
 obtain ⟨Xm, xm, ym, Xa, xa, ya, Xb, xb, yb, rfl, hMem, hAt, hBuf, _, _, hxb, _, _, _⟩ := hX.open_
 have S := St.refl w0
 have f1 := hf.mem.len
 have f2 := hf.nat
 have f3 := hf.nbuf
 refine a0a Tryz.func169 rfl Tryz.ntmps169 rfl ?_
 refine wO0 rfl ⟨⟩ (m0a S (by conv => lhs; whnf) rfl ?_)
 intro g2 w2 S2 X2 G2
 refine m0a S2 (by conv => lhs; whnf) rfl ?_
 intro g3 w3 S3 X3 G3
 refine lB S3.k [.o 0,.o 1] rfl ⟨rfl,rfl,⟨⟩⟩ (fun h16 => by exfalso; omega) fun h16 => ?_
 refine lB S3.k [.o 0,.o 1] rfl ⟨rfl,rfl,⟨⟩⟩ (fun h24 => by exfalso; omega) fun h24 => ?_
 refine lB S3.k [.o 0,.o 1] rfl ⟨rfl,rfl,⟨⟩⟩ (fun h33 => by exfalso; omega) fun h33 => ?_
 refine lC S3.k [.o 0] rfl ⟨rfl,⟨⟩⟩ (wL (fun μk D ε w => D = [] ∧ ∃ k : Nat, (k + μk = (c.mem.length)) ∧ St [] w0 w [(some g3, 52, [.slice Xm xm ym, .slice Xa xa ya, .slice Xb xb yb]), (some g2, 27, [.slice Ac nc cc, .slice Am nm cm, .slice Al nl cl, .slice At nt ct])] ∧ Sl ε [(2, .pointer (some ⟨g2, 0, none⟩)), (3, .pointer (some ⟨g3, 0, none⟩)), (36, .slice Xm xm ym), (37, .int .i64 xm), (38, .int .i64 k)]) (μ := (c.mem.length)) ⟨rfl, 0, by omega, S3, rfl⟩ ?_)
 rintro μk D ε w ⟨rfl, k, hk, S, eZ⟩
 refine wK eZ (wB0 rfl ⟨⟩ (fun h39 => ?_) fun h39 => ?_)
 ·obtain ⟨v, b41, p41, _, hxv, hA41, _, _, hc41, hr41⟩ := RdS.get (hMem) (k) (by omega)
  obtain ⟨rfl, _⟩ := id hr41
  have q1 := hf.mem.vals k v hxv
  refine lB (S.k.a hc41) [.x b41 p41,.f 0 0] rfl ⟨rfl,⟨hA41,by omega⟩,⟨⟩⟩ (fun h44 => by exfalso; omega) fun h44 => ?_
  obtain ⟨x, b50, p50, _, hxx, hA50, _, _, hc50, hr50⟩ := RdS.get (hC) (k) (by omega)
  obtain ⟨rfl, _, _, _, _⟩ := K2a.open_ hr50
  have q2 := (hI.ok.cells x (f0a hxx)).w
  rw [d0d hxx, E6a] at q1
  refine lO (S.k.a hc50) [.o 1,.x b50 p50,.f 0 1] rfl ⟨rfl,⟨hA50,by omega⟩,rfl,⟨⟩⟩ ?_
  rw [show x.w = ((x.w.toNat : Nat) : Int) by omega]
  refine a3c (n := x.w.toNat) rfl (by rfl) (by omega) rfl ?_
  refine lB0 rfl ⟨⟩ (fun h54 => by exfalso; omega) fun h54 => ?_
  refine lP0 rfl ⟨by omega,⟨⟩⟩ ⟨μk - 1, by omega, rfl, (k + 1), (by omega), S, rfl⟩
 refine lC S.k [.o 0] rfl ⟨rfl,⟨⟩⟩ (wL (fun μk D ε w => D = [] ∧ ∃ k : Nat, (k + μk = (c.at_.length)) ∧ St [] w0 w [(some g3, 52, [.slice Xm xm ym, .slice Xa xa ya, .slice Xb xb yb]), (some g2, 27, [.slice Ac nc cc, .slice Am nm cm, .slice Al nl cl, .slice At nt ct])] ∧ Sl ε [(2, .pointer (some ⟨g2, 0, none⟩)), (3, .pointer (some ⟨g3, 0, none⟩)), (58, .slice Xa xa ya), (59, .int .i64 xa), (60, .int .i64 k)]) (μ := (c.at_.length)) ⟨rfl, 0, by omega, S, rfl⟩ ?_)
 rintro μk D ε w ⟨rfl, k, hk, S, eZ⟩
 refine wK eZ (wB0 rfl ⟨⟩ (fun h61 => ?_) fun h61 => ?_)
 ·obtain ⟨v, b63, p63, _, hxv, hA63, _, _, hc63, hr63⟩ := RdS.get (hAt) (k) (by omega)
  obtain ⟨rfl, _⟩ := id hr63
  obtain ⟨th, b68, p68, _, hxth, hA68, _, hl68, hc68, hr68⟩ := RdS.get (hTh) (k) (by omega)
  obtain ⟨_, _, _, _, _, _, _, _, _, _, _, _, rfl, _, _, _, _, _, _, _, _, _, _, _, _, _⟩ := v0a.open_ hr68
  have q1 := hf.atr k v hxv th hxth
  refine lO ((S.k.a hc68).a hc63) [.x b63 p63,.f 0 0,.o 1,.x b68 p68,.v 1] rfl ⟨⟨rfl,hl68⟩,⟨hA68,by omega⟩,rfl,rfl,⟨hA63,by omega⟩,⟨⟩⟩ (k0a S M2b rfl rfl ?_)
  intro g9 w9 S9 X9 G9
  refine c0a (kk := 0) (vs := [_, _, _, _, _, _, _]) S9 t1b rfl rfl rfl rfl rfl rfl rfl ?_
  intro w12_6 S12_6 X12_6
  dsimp only [e0a, List.set] at S12_6
  refine lB0 rfl ⟨⟩ (fun h71 => by exfalso; omega) fun h71 => ?_
  refine lB S12_6.k [.o 0] rfl ⟨rfl,⟨⟩⟩ (fun h76 => by exfalso; omega) fun h76 => ?_
  refine lB0 rfl ⟨⟩ (fun h80 => ?_) fun h80 => ?_
  ·refine lO0 rfl ⟨⟩ ?_
   cases hb83 : th.asleep
   ·refine u0a v2a rfl (by exact (S12_6.cell 0 rfl rfl).trans (congrArg (fun b => some (Value.bool b)) hb83)) rfl ?_
    rw [q1.2.2 (by omega)] at hb83
    refine lR0 rfl ⟨⟩ (o0a rfl (by conv => lhs; whnf) ?_)
    cases hb83
   refine u0a v2a rfl (by exact (S12_6.cell 0 rfl rfl).trans (congrArg (fun b => some (Value.bool b)) hb83)) rfl ?_
   rw [q1.2.2 (by omega)] at hb83
   obtain ⟨b, b91, p91, c91, hxb, hA91, hM91, hl91, hc91, hr91⟩ := RdS.get (hBuf) (k) (by omega)
   obtain ⟨Ab91, nb91, cb91, rfl, hBu91, hnb91, bb91⟩ := b7a.open_ hr91
   have q2 := he b (f0a hxb)
   subst q2
   simp only [List.length_nil] at hnb91
   refine lB (S12_6.k.a hc91) [.o 1,.x b91 p91,.f 0 0] rfl ⟨rfl,⟨hA91,by omega⟩,rfl,⟨⟩⟩ (fun h94 => by exfalso; omega) fun h94 => ?_
   refine lP0 rfl ⟨by omega,⟨⟩⟩ ⟨μk - 1, by omega, rfl, (k + 1), (by omega), S12_6.tail, rfl⟩
  obtain ⟨b, b91, p91, c91, hxb, hA91, hM91, hl91, hc91, hr91⟩ := RdS.get (hBuf) (k) (by omega)
  obtain ⟨Ab91, nb91, cb91, rfl, hBu91, hnb91, bb91⟩ := b7a.open_ hr91
  have q2 := he b (f0a hxb)
  subst q2
  simp only [List.length_nil] at hnb91
  refine lB (S12_6.k.a hc91) [.o 1,.x b91 p91,.f 0 0] rfl ⟨rfl,⟨hA91,by omega⟩,rfl,⟨⟩⟩ (fun h94 => by exfalso; omega) fun h94 => ?_
  refine lP0 rfl ⟨by omega,⟨⟩⟩ ⟨μk - 1, by omega, rfl, (k + 1), (by omega), S12_6.tail, rfl⟩
 exact lT rfl ⟨⟩ rfl ⟨rfl, S.fin⟩
theorem N3b (p : d0a) (M : List Nat) (w0 : World) (cs : List Value) (hI : InP p M w0 cs) :
 R0a Tryz.prog 76 #[.agg cs.toArray] w0 fun v w' => (∃ xs, v = .agg xs.toArray ∧ O0a M w' (v1a p) xs) ∧ Below w0.heap.size w0 w' := by
 obtain ⟨Ac, nc, cc, Am, nm, cm, Al, nl, cl, At, nt, ct, rfl, hC, _, _, hTh, hnc, _, _, hnt, bc, _, _, bt⟩ := hI.rd.open_
 have S := St.refl w0
 have hp := hI.ok
 have n1 := hp.ncells
 have n2 := hp.nthreads
 refine a0a Tryz.func76 rfl Tryz.ntmps76 rfl ?_
 refine wO0 rfl ⟨⟩ (m0a S (by conv => lhs; whnf) rfl ?_)
 intro g1 w1 S1 X1 G1
 refine k0a S1 g6a rfl rfl ?_
 intro g2 w2 S2 X2 G2
 refine lO S2.k [.w 1] rfl ⟨⟨rfl,rfl⟩,⟨⟩⟩ (g0a S2 J4b rfl rfl (z5a p M _ _ (hI.keep (S2.keep0 M))) ?_)
 intro w7 S7 X7
 refine lC0 rfl ⟨⟩ (U2c b0a [0, 1, 2, 3, 4, 5, 6, 7, 8, 9, 10, 11, 12, 13] 14 (by kernel_rfl) (by kernel_rfl) (Cl _ _ _ _) (Cl.start S7) _ rfl ?_)
 refine v7a rfl rfl ?_
 refine E0a Y8b rfl rfl ?_
 refine p0a ?_
 refine v7a rfl rfl ?_
 refine i0a r7a rfl (fun w1 hw => by exact hw.1.cell 1 rfl rfl) rfl ?_
 refine p0a ?_
 refine W0b rfl h5a.slT rfl rfl ?_
 refine L7a (n := nc) (c := nc) rfl rfl rfl W0a rfl rfl (by omega) (by omega) (by omega) rfl ?_
 intro g13 G13 ng13
 refine v7a rfl rfl ?_
 refine E0a z9a rfl rfl ?_
 refine p0a ?_
 refine v7a rfl rfl ?_
 refine i0a N9a rfl (fun w1 hw => by exact hw.1.cell 1 rfl rfl) rfl ?_
 refine p0a ?_
 refine W0b rfl H5a.slT rfl rfl ?_
 refine L7a (n := nt) (c := nt) rfl rfl rfl W0a rfl rfl (by omega) (by omega) (by omega) rfl ?_
 intro g17 G17 ng17
 refine v7a rfl rfl ?_
 refine E0a z9a rfl rfl ?_
 refine p0a ?_
 refine v7a rfl rfl ?_
 refine i0a N9a rfl (fun w1 hw => by exact hw.1.cell 1 rfl rfl) rfl ?_
 refine p0a ?_
 refine W0b rfl H5a.slT rfl rfl ?_
 refine L7a (n := nt) (c := nt) rfl rfl rfl H4a rfl rfl (by omega) (by omega) (by omega) rfl ?_
 intro g21 G21 ng21
 refine v7a rfl rfl ?_
 refine f3a j5a (vs := [(0, .slice _ _ _), (1, .slice _ _ _), (2, .slice _ _ _)]) (cs := [_, _, _]) rfl rfl rfl rfl ?_
 refine p0a ?_
 refine P6a rfl rfl rfl g6a rfl ?_
 intro g3 G3 ng3
 refine R0b ?_
 rintro wR3 ⟨SR3, _⟩ ⟨⟨⟨⟨-, hg13⟩, hg17⟩, hg21⟩, hg3⟩
 clear ng13
 replace SR3 := SR3.push_new S7 hg13 G13
 replace SR3 := SR3.push_more (L1 := [_]) S7 hg17 G17 (by simpa [eq_comm] using ng17)
 replace SR3 := SR3.push_more (L1 := [_, _]) S7 hg21 G21 (by simpa [eq_comm] using ng21)
 replace SR3 := SR3.push_more (L1 := [_, _, _]) S7 hg3 G3 (by simpa [eq_comm] using ng3)
 refine c0a (kk := 0) (vs := [_, _, _]) SR3 O2a rfl rfl rfl rfl rfl rfl rfl ?_
 intro w3_14 S3_14 X3_14
 dsimp only [e0a, List.set] at S3_14
 refine Z0a ⟨rfl, ?_⟩
 refine fC S3_14.k [.o 5] rfl ⟨rfl,⟨⟩⟩ ?_
 refine wL (fun μk D ε w => D = [] ∧ ∃ k : Nat, (k + μk = (p.cells.length)) ∧ St [] w0 w [(some g3, 52, [.slice (some ⟨g13, 0, none⟩) nc nc, .slice (some ⟨g17, 0, none⟩) nt nt, .slice (some ⟨g21, 0, none⟩) nt nt]), (some g21, 118, (List.replicate nt (.slice none 0 0))), (some g17, 3, (List.replicate nt (.int .i64 0))), (some g13, 3, W2a ((v1a p).mem.map (Value.int .i64)) (.int .i64 0) k), (some g2, 52, [.slice none 0 0, .slice none 0 0, .slice none 0 0]), (some g1, 27, [.slice Ac nc cc, .slice Am nm cm, .slice Al nl cl, .slice At nt ct])] ∧ Sl ε [(1, .pointer (some ⟨g1, 0, none⟩)), (2, .pointer (some ⟨g2, 0, none⟩)), (3, .pointer (some ⟨g3, 0, none⟩)), (25, .int .i64 nc), (26, .int .i64 k)]) (μ := (p.cells.length)) ⟨rfl, 0, by omega, (S3_14.setEnt 3 rfl (by rw [r6a]; simp [v1a, hnc])), rfl⟩ ?_
 rintro μk D ε w ⟨rfl, k, _, S, eZ⟩
 refine wK eZ (wB0 rfl ⟨⟩ (fun h27 => ?_) fun h27 => ?_)
 ·refine lC0 rfl ⟨⟩ (x0a b0a [0, 1, 2, 3, 4, 5, 6, 7, 8, 9] [] [10] (by kernel_rfl) rfl (Cl _ _ _ _) (Cl.start S) ?_)
  obtain ⟨x, b35, p35, _, hxx, hA35, _, _, hc35, hr35⟩ := RdS.get (hC) (k) (by omega)
  obtain ⟨rfl, _, _, _, _⟩ := K2a.open_ hr35
  refine qO (S.q.a hc35) [.o 0,.o 5,.x b35 p35,.f 0 2] rfl ⟨rfl,⟨hA35,by omega⟩,rfl,rfl,⟨⟩⟩ (j0a W0a.slT rfl (by rfl) rfl (by omega) (by omega) rfl ?_)
  refine qD rfl ⟨⟩ ?_
  rintro wR7 ⟨SR7, _⟩
  first | refine w0a (kk := 3) SR7 S8a rfl (by conv => lhs; whnf) rfl rfl (by (simp; omega)) ?_
  intro w7_10 S7_10 X7_10
  refine lP0 rfl ⟨by omega,⟨⟩⟩ ⟨μk - 1, by omega, rfl, (k + 1), (by omega), (S7_10.setEnt 3 rfl (j8a (by simp [v1a, hxx]) (by simp))), rfl⟩
 refine lC S.k [.o 5] rfl ⟨rfl,⟨⟩⟩ ?_
 refine wL (fun μj D ε w => D = [] ∧ ∃ j : Nat, (j + μj = (p.threads.length)) ∧ St [] w0 w [(some g3, 52, [.slice (some ⟨g13, 0, none⟩) nc nc, .slice (some ⟨g17, 0, none⟩) nt nt, .slice (some ⟨g21, 0, none⟩) nt nt]), (some g21, 118, (List.replicate nt (.slice none 0 0))), (some g17, 3, W2a ((v1a p).at_.map (Value.int .i64)) (.int .i64 0) j), (some g13, 3, (v1a p).mem.map (Value.int .i64)), (some g2, 52, [.slice none 0 0, .slice none 0 0, .slice none 0 0]), (some g1, 27, [.slice Ac nc cc, .slice Am nm cm, .slice Al nl cl, .slice At nt ct])] ∧ Sl ε [(1, .pointer (some ⟨g1, 0, none⟩)), (2, .pointer (some ⟨g2, 0, none⟩)), (3, .pointer (some ⟨g3, 0, none⟩)), (42, .int .i64 nt), (43, .int .i64 j)]) (μ := (p.threads.length)) ⟨rfl, 0, by omega, ((S.setEnt 3 rfl (S7a _ _ (by simp [v1a]; omega))).setEnt 2 rfl (by rw [r6a]; simp [v1a, hnt])), rfl⟩ ?_
 rintro μj D ε w ⟨rfl, j, _, S, eZ⟩
 refine wK eZ (wB0 rfl ⟨⟩ (fun h44 => ?_) fun h44 => ?_)
 ·obtain ⟨th, b49, p49, _, hxth, hA49, _, _, hc49, hr49⟩ := RdS.get (hTh) (j) (by omega)
  obtain ⟨_, _, _, _, _, _, _, _, _, _, _, _, rfl, _, _, _, _, _, _, _, _, _, _, _, _, _⟩ := v0a.open_ hr49
  refine lO S.k [.o 5,.x b49 p49] rfl ⟨⟨hA49,by omega⟩,rfl,⟨⟩⟩ ?_
  cases hb51 : th.asleep
  ·refine u0a v2a rfl (by exact (S.old (hc49 _ _ rfl)).trans (congrArg (fun b => some (Value.bool b)) hb51)) rfl ?_
   refine lP0 rfl ⟨by omega,⟨⟩⟩ ⟨μj - 1, by omega, rfl, (j + 1), (by omega), (S.setEnt 2 rfl (by exact N5b (by simp [v1a, hxth, hb51]))), rfl⟩
  refine u0a v2a rfl (by exact (S.old (hc49 _ _ rfl)).trans (congrArg (fun b => some (Value.bool b)) hb51)) rfl ?_
  refine lO S.k [.o 0] rfl ⟨rfl,⟨⟩⟩ (A0a W0a.slT rfl (by rfl) rfl (by omega) (by omega) rfl ?_)
  first | refine w0a (kk := 2) S S8a rfl (by conv => lhs; whnf) rfl rfl (by (simp; omega)) ?_
  intro w13_4 S13_4 X13_4
  refine lP0 rfl ⟨by omega,⟨⟩⟩ ⟨μj - 1, by omega, rfl, (j + 1), (by omega), (S13_4.setEnt 2 rfl (by exact j8a (by simp [v1a, hxth, hb51]) (by simp))), rfl⟩
 refine lO S.k [.w 0] rfl ⟨⟨rfl,rfl⟩,⟨⟩⟩ ?_
 first | refine c0a (kk := 4) (vs := [_, _, _]) S O2a rfl rfl rfl rfl rfl rfl rfl ?_
 intro w15_1 S15_1 X15_1
 dsimp only [e0a, List.set] at S15_1
 refine lR0 rfl ⟨⟩ ?_
 have SF := S15_1.setEnt 2 rfl (S7a _ _ (by simp [v1a]; omega))
 have hf := g0b hp
 exact t1a (n := 3) rfl q1a rfl (SF.cells 4 rfl) rfl ⟨⟨_, rfl, _, _, _, rfl, SF.rdInts 3 rfl (U0a hI.lt (SF.new 3 rfl)) (by simp [v1a, hnc]) bc (Q4a hp hf.mem), SF.rdInts 2 rfl (U0a hI.lt (SF.new 2 rfl)) (by simp [v1a, hnt]) bt (A8a hp hf), SF.rdBufs 1 rfl (U0a hI.lt (SF.new 1 rfl)) (by simp [v1a, hnt]) bt (by simp [v1a])⟩, SF.fin⟩
end Go.Proofs.YtjjmdcnmeommbaaGreatDoor
