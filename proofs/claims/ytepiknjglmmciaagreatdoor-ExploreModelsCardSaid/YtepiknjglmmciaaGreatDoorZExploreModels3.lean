/-
  Part 3 of 9 of the proof of ExploreModels: what it leans on. No conditions.
-/
import Derived.Test.YtepiknjglmmciaaGreatDoorZExploreModels2
import Derived.StringKeys
import Derived.Test.YtepiknjglmmciaaGreatDoorRows
import Derived.ProofKit
import Derived.LaidMore
import Derived.OpenShut
import Derived.Carry
import Derived.SizedLaws
import Derived.Stop.Joined
import Derived.Test.YtepiknjglmmciaaGreatDoorTie
import Derived.Test.YtepiknjglmmciaaGreatDoorCards
import Derived.SevenTiedAt
set_option maxRecDepth 100000
set_option maxHeartbeats 4000000
namespace Go.Proofs.YtepiknjglmmciaaGreatDoor
end Go.Proofs.YtepiknjglmmciaaGreatDoor
namespace Go.Fw
open Go.Proofs.YtepiknjglmmciaaGreatDoor Go.Proofs Go.RowKit Go.ChangeShapes Go.WideShapes
def Y2a (op a b c : Int) : Int :=
 if op = 4 then G6c (-1) a else if op = 5 then D4b a b else if op = 6 then bor a b else if op = 7 then G6c a b else if op = 9 then wr (a + wr (0 - b)) else if op = 8 then wr (a + b) else
 if op = 10 then wr (a * b) else if op = 11 then (if a = b then 1 else 0) else if op = 13 then (if a = b then 1 else if a < b then 1 else 0) else if op = 12 then (if a < b then 1 else 0) else
 if op = 14 then (if a = 1 then b else c) else 0
mutual
def E.val (old now : List Int) : E → Int
 | ⟨op, w, n, ks⟩ => if op = 1 then n else if op = 2 then D4b (now.getD n.toNat 0) (N4a w.toNat - 1) else if op = 3 then D4b (old.getD n.toNat 0) (N4a w.toNat - 1) else
  D4b (Y2a op ((E.vals old now ks).getD 0 0) ((E.vals old now ks).getD 1 0) ((E.vals old now ks).getD 2 0)) (N4a w.toNat - 1)
def E.vals (old now : List Int) : List E → List Int
 | [] => []
 | k :: ks => E.val old now k :: E.vals old now ks
end
theorem E.vals_map (old now : List Int) (ks : List E) : E.vals old now ks = ks.map (E.val old now) := by
 induction ks with
 | nil => simp [E.vals]
 | cons k ks ih => simp [E.vals, ih]
theorem E.val_def (old now : List Int) (e : E) : e.val old now = if e.op = 1 then e.n else if e.op = 2 then D4b (now.getD e.n.toNat 0) (N4a e.w.toNat - 1) else if e.op = 3 then D4b (old.getD e.n.toNat 0) (N4a e.w.toNat - 1) else
 D4b (Y2a e.op ((e.kids.map (E.val old now)).getD 0 0) ((e.kids.map (E.val old now)).getD 1 0) ((e.kids.map (E.val old now)).getD 2 0)) (N4a e.w.toNat - 1) := by
 cases e; simp only [E.val, E.vals_map]
def E.evl (old now : List Int) (e : E) : Int := if e.wf then e.val old now else 0
def J6c (vs : List Int) (k : Nat) : List Value := [.int .i64 ((vs.take k).getD 0 0), .int .i64 ((vs.take k).getD 1 0), .int .i64 ((vs.take k).getD 2 0)]
@[simp] theorem L8c (vs : List Int) (k : Nat) : (J6c vs k).length = 3 := rfl
theorem O1c (vs : List Int) (k : Nat) (h3 : vs.length ≤ 3) (h : k < vs.length) : (J6c vs k).set k (.int .i64 (vs.getD k 0)) = J6c vs (k + 1) := by
 unfold J6c
 match vs, h3 with
 | [], _ => simp at h
 | [a], _ => obtain rfl : k = 0 := by simp at h; omega
             simp
 | [a, b], _ => rcases (show k = 0 ∨ k = 1 by simp at h; omega) with rfl | rfl <;> simp
 | [a, b, c], _ => rcases (show k = 0 ∨ k = 1 ∨ k = 2 by simp at h; omega) with rfl | rfl | rfl <;> simp
 | a :: b :: c :: d :: l, h => simp at h
theorem c0b (M : List Nat) (w0 : World) (v : Value) (l : List Int) (i : Int) (hR : RdI M w0 v l) (h0 : 0 ≤ i) :
 M0a Tryz.prog 116 #[v, .int .i64 i] w0 fun v w' => v = .int .i64 (l.getD i.toNat 0) ∧ Below w0.heap.size w0 w' := by
 obtain ⟨_, _, _, rfl⟩ := hR.form
 obtain ⟨_, _, _, _, hel⟩ := hR.at
 have S := St.refl w0
 refine a0a Tryz.func116 rfl Tryz.ntmps116 rfl ?_
 refine wB0 rfl ⟨⟩ (fun h8 => ?_) fun h8 => ?_
 ·refine lO0 rfl ⟨⟩ ?_
  obtain ⟨b, o, _, _, hee⟩ := hel (by omega)
  have hlt : i.toNat < l.length := by omega
  obtain ⟨_, _, hck2, hck3⟩ := hee i.toNat l[i.toNat] (List.getElem?_eq_getElem hlt)
  have hcb : w0.cell? ⟨b, o + i.toNat * 1, none⟩ = some (.int .i64 l[i.toNat]) := hck2 0 _ (by rw [hck3.1]; rfl)
  refine x0a Y0a.slT rfl (by assumption) rfl (by omega) (by omega) rfl ?_
  refine s0a C0a rfl (by first | exact S.old hcb) rfl ?_
  refine lR0 rfl ⟨⟩ (r0a rfl (by conv => lhs; whnf) ?_)
  refine ⟨?_, S.fin⟩; simp [hlt]; done
 refine lR0 rfl ⟨⟩ (r0a rfl (by conv => lhs; whnf) ?_)
 refine ⟨?_, S.fin⟩; simp [show l.length ≤ i.toNat by omega]; done
theorem b6a (z : Bool) (w0 : World) : M0a Tryz.prog 150 #[.bool z] w0 fun v w' => v = .int .i64 (if z = true then 1 else 0) ∧ Below w0.heap.size w0 w' := by
 have S := St.refl w0
 cases z
 ·refine a0a Tryz.func150 rfl Tryz.ntmps150 rfl ?_
  refine wR0 rfl ⟨⟩ (r0a rfl (by conv => lhs; whnf) ?_)
  exact ⟨by simp, S.fin⟩
 ·refine a0a Tryz.func150 rfl Tryz.ntmps150 rfl ?_
  refine wR0 rfl ⟨⟩ (r0a rfl (by conv => lhs; whnf) ?_)
  exact ⟨by simp, S.fin⟩
theorem J0c (op a b c : Int) (w0 : World) : M0a Tryz.prog 117 #[.int .i64 op, .agg #[.int .i64 a, .int .i64 b, .int .i64 c]] w0 fun v w' => v = .int .i64 (Y2a op a b c) ∧ Below w0.heap.size w0 w' := by
 have S := St.refl w0
 refine a0a Tryz.func117 rfl Tryz.ntmps117 rfl ?_
 refine wO0 rfl ⟨⟩ (j0a S (by conv => lhs; whnf) rfl ?_)
 intro g3 w3 S3 X3 G3
 refine lC0 rfl ⟨⟩ (D0a b0a [0, 1, 2, 3, 4, 5] [] [] (by kernel_rfl) rfl (Cl _ _ _ _) (Cl.start S3) ?_)
 refine U3a v1b rfl rfl (by omega) (by omega) rfl ?_
 refine h0a C0a rfl (fun w1 hw => by first | exact hw.1.cell 0 rfl rfl) rfl ?_
 refine U3a v1b rfl rfl (by omega) (by omega) rfl ?_
 refine h0a C0a rfl (fun w1 hw => by first | exact hw.1.cell 0 rfl rfl) rfl ?_
 refine qD rfl ⟨⟩ ?_
 rintro wR1 ⟨SR1, _⟩
 refine lB0 rfl ⟨⟩ (fun h13 => ?_) fun h13 => ?_
 ·refine lT rfl ⟨⟩ rfl ⟨congrArg (Value.int .i64) ?_, SR1.fin⟩
  unfold Y2a
  rw [if_pos h13]
 refine lB0 rfl ⟨⟩ (fun h15 => ?_) fun h15 => ?_
 ·refine lT rfl ⟨⟩ rfl ⟨congrArg (Value.int .i64) ?_, SR1.fin⟩
  unfold Y2a
  rw [if_neg h13, if_pos h15]
 refine lB0 rfl ⟨⟩ (fun h17 => ?_) fun h17 => ?_
 ·refine lT rfl ⟨⟩ rfl ⟨congrArg (Value.int .i64) ?_, SR1.fin⟩
  unfold Y2a
  rw [if_neg h13, if_neg h15, if_pos h17]
 refine lB0 rfl ⟨⟩ (fun h19 => ?_) fun h19 => ?_
 ·refine lT rfl ⟨⟩ rfl ⟨congrArg (Value.int .i64) ?_, SR1.fin⟩
  unfold Y2a
  rw [if_neg h13, if_neg h15, if_neg h17, if_pos h19]
 refine lB0 rfl ⟨⟩ (fun h21 => ?_) fun h21 => ?_
 ·refine lOn 8 SR1.k [] rfl ⟨⟩ (z8c rfl rfl ?_)
  refine lOn 9 SR1.k [] rfl ⟨⟩ (B3c rfl rfl rfl ?_)
  refine lT rfl ⟨⟩ rfl ⟨congrArg (Value.int .i64) ?_, SR1.fin⟩
  unfold Y2a
  rw [if_neg h13, if_neg h15, if_neg h17, if_neg h19, if_pos h21]
 refine lB0 rfl ⟨⟩ (fun h23 => ?_) fun h23 => ?_
 ·refine lOn 11 SR1.k [] rfl ⟨⟩ (B3c rfl rfl rfl ?_)
  refine lT rfl ⟨⟩ rfl ⟨congrArg (Value.int .i64) ?_, SR1.fin⟩
  unfold Y2a
  rw [if_neg h13, if_neg h15, if_neg h17, if_neg h19, if_neg h21, if_pos h23]
 refine lB0 rfl ⟨⟩ (fun h25 => ?_) fun h25 => ?_
 ·refine lOn 11 SR1.k [] rfl ⟨⟩ (x8c rfl rfl rfl ?_)
  refine lT rfl ⟨⟩ rfl ⟨congrArg (Value.int .i64) ?_, SR1.fin⟩
  unfold Y2a
  rw [if_neg h13, if_neg h15, if_neg h17, if_neg h19, if_neg h21, if_neg h23, if_pos h25]
 refine lB0 rfl ⟨⟩ (fun h27 => ?_) fun h27 => ?_
 ·refine lB0 rfl ⟨⟩ (fun h55 => ?_) fun h55 => ?_
  ·refine g0a SR1 n8a rfl rfl (b6a _ _) ?_
   intro w56 S56 X56
   refine lT rfl ⟨⟩ rfl ⟨congrArg (Value.int .i64) ?_, S56.fin⟩
   unfold Y2a
   rw [if_neg h13, if_neg h15, if_neg h17, if_neg h19, if_neg h21, if_neg h23, if_neg h25, if_pos h27]; simp [h55]; done
  refine g0a SR1 n8a rfl rfl (b6a _ _) ?_
  intro w56 S56 X56
  refine lT rfl ⟨⟩ rfl ⟨congrArg (Value.int .i64) ?_, S56.fin⟩
  unfold Y2a
  rw [if_neg h13, if_neg h15, if_neg h17, if_neg h19, if_neg h21, if_neg h23, if_neg h25, if_pos h27]; simp [h55]; done
 refine lB0 rfl ⟨⟩ (fun h29 => ?_) fun h29 => ?_
 ·refine lB0 rfl ⟨⟩ (fun h59 => ?_) fun h59 => ?_
  ·refine lT rfl ⟨⟩ rfl ⟨congrArg (Value.int .i64) ?_, SR1.fin⟩
   unfold Y2a
   rw [if_neg h13, if_neg h15, if_neg h17, if_neg h19, if_neg h21, if_neg h23, if_neg h25, if_neg h27, if_pos h29]; (simp [h59]; done)
  refine lB0 rfl ⟨⟩ (fun h62 => ?_) fun h62 => ?_
  ·refine g0a SR1 n8a rfl rfl (b6a _ _) ?_
   intro w63 S63 X63
   refine lT rfl ⟨⟩ rfl ⟨congrArg (Value.int .i64) ?_, S63.fin⟩
   unfold Y2a
   rw [if_neg h13, if_neg h15, if_neg h17, if_neg h19, if_neg h21, if_neg h23, if_neg h25, if_neg h27, if_pos h29]; (simp [h59, h62]; done)
  refine g0a SR1 n8a rfl rfl (b6a _ _) ?_
  intro w63 S63 X63
  refine lT rfl ⟨⟩ rfl ⟨congrArg (Value.int .i64) ?_, S63.fin⟩
  unfold Y2a
  rw [if_neg h13, if_neg h15, if_neg h17, if_neg h19, if_neg h21, if_neg h23, if_neg h25, if_neg h27, if_pos h29]; (simp [h59, h62]; done)
 refine lB0 rfl ⟨⟩ (fun h31 => ?_) fun h31 => ?_
 ·refine lB0 rfl ⟨⟩ (fun h62 => ?_) fun h62 => ?_
  ·refine g0a SR1 n8a rfl rfl (b6a _ _) ?_
   intro w63 S63 X63
   refine lT rfl ⟨⟩ rfl ⟨congrArg (Value.int .i64) ?_, S63.fin⟩
   unfold Y2a
   rw [if_neg h13, if_neg h15, if_neg h17, if_neg h19, if_neg h21, if_neg h23, if_neg h25, if_neg h27, if_neg h29, if_pos h31]; (simp [h62]; done)
  refine g0a SR1 n8a rfl rfl (b6a _ _) ?_
  intro w63 S63 X63
  refine lT rfl ⟨⟩ rfl ⟨congrArg (Value.int .i64) ?_, S63.fin⟩
  unfold Y2a
  rw [if_neg h13, if_neg h15, if_neg h17, if_neg h19, if_neg h21, if_neg h23, if_neg h25, if_neg h27, if_neg h29, if_pos h31]; (simp [h62]; done)
 refine lB0 rfl ⟨⟩ (fun h33 => ?_) fun h33 => ?_
 ·refine lB0 rfl ⟨⟩ (fun h65 => ?_) fun h65 => ?_
  ·refine lT rfl ⟨⟩ rfl ⟨congrArg (Value.int .i64) ?_, SR1.fin⟩
   unfold Y2a
   rw [if_neg h13, if_neg h15, if_neg h17, if_neg h19, if_neg h21, if_neg h23, if_neg h25, if_neg h27, if_neg h29, if_neg h31, if_pos h33]; simp [h65]; done
  refine lO0 rfl ⟨⟩ (f6a v1b rfl rfl (by omega) (by omega) rfl ?_)
  refine s0a C0a rfl (by first | exact SR1.cell 0 rfl rfl) rfl ?_
  refine lT rfl ⟨⟩ rfl ⟨congrArg (Value.int .i64) ?_, SR1.fin⟩
  unfold Y2a
  rw [if_neg h13, if_neg h15, if_neg h17, if_neg h19, if_neg h21, if_neg h23, if_neg h25, if_neg h27, if_neg h29, if_neg h31, if_pos h33]; simp [h65]; done
 refine lT rfl ⟨⟩ rfl ⟨congrArg (Value.int .i64) ?_, SR1.fin⟩
 unfold Y2a
 rw [if_neg h13, if_neg h15, if_neg h17, if_neg h19, if_neg h21, if_neg h23, if_neg h25, if_neg h27, if_neg h29, if_neg h31, if_neg h33]
theorem J2c : ∀ (e : E) (M : List Nat) (w0 : World) (b o : Nat) (vo vn : Value) (old now : List Int) (lim : Int), RdP M w0 e b o → a3a M w0 → RdI M w0 vo old → RdI M w0 vn now → e.good lim = true →
 M0a Tryz.prog 93 #[.pointer (some ⟨b, o, none⟩), vo, vn] w0 fun v w' => v = .int .i64 (e.val old now) ∧ Below w0.heap.size w0 w' := by
 intro e
 induction e using E.induct with
 | _ e ih =>
 intro M w0 b o vo vn old now lim hR hK hO hN hg
 obtain ⟨_, _, _, _, c0, c1, c2, _, n, _, c3, _, _, _, _, hks, _⟩ := hR.open_
 obtain ⟨Ao, no, co, rfl⟩ := hO.form
 obtain ⟨An, nn, cn, rfl⟩ := hN.form
 rw [E.good_def] at hg
 simp only [Bool.and_eq_true] at hg
 have hsh : e.Shape := of_decide_eq_true hg.1.2
 have hkg : ∀ k ∈ e.kids, k.good (lim - 1) = true := (E.goods_iff _ _).1 hg.2
 clear hg
 have hov : (e.op = 3 ∨ e.op = 2) → 0 ≤ e.n ∧ e.n < 32 := fun h => by
  have := (W4a (by omega)).1 hsh; omega
 have har := Q6a hsh
 have har2 := D2a e.op
 have S := St.refl w0
 have hval := E.val_def old now e
 refine a0a Tryz.func93 rfl Tryz.ntmps93 rfl ?_
 refine wO0 rfl ⟨⟩ (s0a C0a rfl (by exact S.old c0) rfl ?_)
 refine lB0 rfl ⟨⟩ (fun h14 => ?_) fun h14 => ?_
 ·refine lO0 rfl ⟨⟩ (s0a C0a rfl (by exact S.old c2) rfl ?_)
  refine lT rfl ⟨⟩ rfl ⟨congrArg (Value.int .i64) ?_, S.fin⟩
  rw [hval]
  rw [if_pos h14]
 refine lB0 rfl ⟨⟩ (fun h20 => ?_) fun h20 => ?_
 ·refine lC0 rfl ⟨⟩ (D0a b0a [0, 1, 2, 3, 4, 5, 6, 7, 8, 9, 10, 11, 12, 13] [] [] (by kernel_rfl) rfl (Cl _ _ _ _) (Cl.start S) ?_)
  refine e1a (by conv => lhs; whnf) rfl ?_
  refine qO0 rfl ⟨⟩ (h0a C0a rfl (fun w1 hw => by exact hw.1.old c2) rfl ?_)
  refine H2a q8b rfl rfl (fun w1 S1 X1 => c0b M _ _ _ _ (RdS.keep (by assumption) (S1.keep0 M)) (by omega)) ?_
  refine qO0 rfl ⟨⟩ (h0a C0a rfl (fun w1 hw => by exact hw.1.old c1) rfl ?_)
  refine U3a k1b rfl rfl (by omega) (by omega) rfl ?_
  refine h0a C0a rfl (fun w1 hw => by exact hw.1.old (hK.at (by omega) (by omega))) rfl ?_
  refine qD rfl ⟨⟩ ?_
  rintro wR5 ⟨SR5, _⟩
  refine lT rfl ⟨⟩ rfl ⟨congrArg (Value.int .i64) ?_, SR5.fin⟩
  rw [hval]
  rw [if_neg h14, if_pos h20]
 refine lB0 rfl ⟨⟩ (fun h35 => ?_) fun h35 => ?_
 ·refine lC0 rfl ⟨⟩ (D0a b0a [0, 1, 2, 3, 4, 5, 6, 7, 8, 9, 10, 11, 12, 13] [] [] (by kernel_rfl) rfl (Cl _ _ _ _) (Cl.start S) ?_)
  refine e1a (by conv => lhs; whnf) rfl ?_
  refine qO0 rfl ⟨⟩ (h0a C0a rfl (fun w1 hw => by exact hw.1.old c2) rfl ?_)
  refine H2a q8b rfl rfl (fun w1 S1 X1 => c0b M _ _ _ _ (RdS.keep (by assumption) (S1.keep0 M)) (by omega)) ?_
  refine qO0 rfl ⟨⟩ (h0a C0a rfl (fun w1 hw => by exact hw.1.old c1) rfl ?_)
  refine U3a k1b rfl rfl (by omega) (by omega) rfl ?_
  refine h0a C0a rfl (fun w1 hw => by exact hw.1.old (hK.at (by omega) (by omega))) rfl ?_
  refine qD rfl ⟨⟩ ?_
  rintro wR7 ⟨SR7, _⟩
  refine lT rfl ⟨⟩ rfl ⟨congrArg (Value.int .i64) ?_, SR7.fin⟩
  rw [hval]
  rw [if_neg h14, if_neg h20, if_pos h35]
 refine lO0 rfl ⟨⟩ (n0a S a7c rfl rfl ?_)
 intro g7 w7 S7 X7 G7
 refine lO0 rfl ⟨⟩ (s0a Z1a rfl (by exact S7.old c3) rfl ?_)
 refine lC0 rfl ⟨⟩ (wL (fun μ D ε w => D = [] ∧ ∃ k : Nat, (k + μ = e.kids.length) ∧ St [] w0 w [(some g7, 178, J6c (e.kids.map (E.val old now)) k)] ∧ ε 0 = .pointer (some ⟨b, o, none⟩) ∧ ε 1 = .slice Ao no co ∧ ε 2 = .slice An nn cn ∧ ε 7 = .pointer (some ⟨g7, 0, none⟩) ∧ ε 53 = .int .i64 n ∧ ε 54 = .int .i64 k) (μ := e.kids.length) ⟨rfl, 0, by omega, by exact S7, rfl, rfl, rfl, rfl, rfl, rfl⟩ ?_)
 rintro μ D ε w ⟨rfl, k, _, S, e0, e1, e2, e7, e53, e54⟩
 refine o0a 0 e0 (o0a 1 e1 (o0a 2 e2 (o0a 7 e7 (o0a 53 e53 (o0a 54 e54 ?_)))))
 clear e0 e1 e2 e7 e53 e54
 refine wB0 rfl ⟨⟩ (fun h55 => ?_) fun h55 => ?_
 ·refine lO0 rfl ⟨⟩ (s0a Z1a rfl (by exact S.old c3) rfl ?_)
  refine lO0 rfl ⟨⟩ ?_
  have hlt : k < e.kids.length := by omega
  obtain ⟨bk, ok, _, hbkM, hkk⟩ := hks (by omega)
  refine x0a a1a.slT rfl (by assumption) rfl (by omega) (by omega) rfl ?_
  refine lO0 rfl ⟨⟩ (g0a S G3c rfl rfl (ih _ (List.getElem_mem hlt) M _ bk (ok + k * 4) _ _ old now _ ((RdP.kid hbkM hkk k hlt).keep (S.keep0 M)) (hK.keep (S.keep0 M)) (hO.keep (S.keep0 M)) (hN.keep (S.keep0 M)) (hkg _ (List.getElem_mem hlt))) ?_)
  intro w66 S66 X66
  refine f6a v1b rfl rfl (by omega) (by omega) rfl ?_
  first | refine I0a (kk := 0) S66 V0b rfl (by conv => lhs; whnf) rfl rfl (by (simp; omega)) ?_
  intro w12_11 S12_11 X12_11
  refine lP0 rfl ⟨by omega,⟨⟩⟩ ⟨μ - 1, by omega, rfl, k + 1, by omega, ?_, rfl, rfl, rfl, rfl, rfl, rfl⟩
  have h3 : (e.kids.map (E.val old now)).length ≤ 3 := by rw [List.length_map]; omega
  have hx := O1c (e.kids.map (E.val old now)) k h3 (by simpa using hlt)
  rw [← hx]
  simpa [hlt] using S12_11
 refine lC0 rfl ⟨⟩ (D0a b0a [0, 1, 2, 3, 4, 5, 6, 7, 8, 9, 10, 11, 12, 13] [] [] (by kernel_rfl) rfl (Cl _ _ _ _) (Cl.start S) ?_)
 refine qO0 rfl ⟨⟩ (h0a C0a rfl (fun w1 hw => by exact hw.1.old c0) rfl ?_)
 refine qO S.q [.w 0] rfl ⟨⟨rfl,by rfl⟩,⟨⟩⟩ (H2a R3c rfl rfl (fun w1 S1 X1 => J0c _ _ _ _ _) ?_)
 refine qO0 rfl ⟨⟩ (h0a C0a rfl (fun w1 hw => by exact hw.1.old c1) rfl ?_)
 refine U3a k1b rfl rfl (by omega) (by omega) rfl ?_
 refine h0a C0a rfl (fun w1 hw => by exact hw.1.old (hK.at (by omega) (by omega))) rfl ?_
 refine qD rfl ⟨⟩ ?_
 rintro wR14 ⟨SR14, _⟩
 refine lT rfl ⟨⟩ rfl ⟨congrArg (Value.int .i64) ?_, SR14.fin⟩
 rw [hval]
 obtain rfl : k = e.kids.length := by omega
 rw [if_neg h14, if_neg h20, if_neg h35]
 have h3 : (e.kids.map (E.val old now)).take e.kids.length = e.kids.map (E.val old now) := List.take_of_length_le (by simp)
 rw [h3]
theorem L7a (e : E) (M : List Nat) (w0 : World) (cs : List Value) (vo vn : Value) (old now : List Int) (hR : RdE M w0 e cs) (hK : a3a M w0) (hO : RdI M w0 vo old) (hN : RdI M w0 vn now) :
 M0a Tryz.prog 66 #[.agg cs.toArray, vo, vn] w0 fun v w' => v = .int .i64 (e.evl old now) ∧ Below w0.heap.size w0 w' := by
 obtain ⟨_, _, _, rfl, _, _, _, _, _, _, _, _⟩ := hR.open_
 obtain ⟨_, _, _, rfl⟩ := hO.form
 obtain ⟨_, _, _, rfl⟩ := hN.form
 have S := St.refl w0
 refine a0a Tryz.func66 rfl Tryz.ntmps66 rfl ?_
 refine wO0 rfl ⟨⟩ (j0a S (by conv => lhs; whnf) rfl ?_)
 intro g3 w3 S3 X3 G3
 refine lO S3.k [.w 0] rfl ⟨⟨rfl,by rfl⟩,⟨⟩⟩ (y0a S3 m0c rfl rfl (d5a e M _ _ (RdE.keep (S3.keep0 M) _ _ hR) (hK.keep (S3.keep0 M))) (fun h8 w8 S8 X8 => ?_) (fun h8 w8 S8 X8 => ?_))
 ·refine lO0 rfl ⟨⟩ ?_
  refine g0a S8 G3c rfl rfl (J2c e [] _ g3 0 _ _ old now 40 ⟨by simp, _, S8.cells 0 rfl, RdE.less (by simp) _ _ (RdE.keep (S8.keep0 M) _ _ hR)⟩ ((hK.keep (S8.keep0 M)).more (by simp)) ((hO.keep (S8.keep0 M)).less (by simp)) ((hN.keep (S8.keep0 M)).less (by simp)) (by unfold E.wf at h8; simp only [Bool.and_eq_true] at h8; exact h8.2)) ?_
  intro w12 S12 X12
  refine lT rfl ⟨⟩ rfl ⟨congrArg (Value.int .i64) ?_, S12.fin⟩
  unfold E.evl
  simp [h8]
 refine lT rfl ⟨⟩ rfl ⟨congrArg (Value.int .i64) ?_, S8.fin⟩
 unfold E.evl
 simp [h8]
section
variable {σ : Type}
mutual
def E.lf (step : E → σ → σ) : E → σ → σ
 | ⟨op, w, n, ks⟩, s => E.lfs step ks (if ks.length = 0 then step ⟨op, w, n, ks⟩ s else s)
def E.lfs (step : E → σ → σ) : List E → σ → σ
 | [], s => s
 | k :: ks, s => E.lfs step ks (E.lf step k s)
end
theorem E.lf_def (step : E → σ → σ) (e : E) (s : σ) : e.lf step s = E.lfs step e.kids (if e.kids.length = 0 then step e s else s) := by cases e; simp only [E.lf]
theorem v0a.mono {M M' : List Nat} {w w' : World} (h : v0a M w w') (hs : ∀ g ∈ M, g ∈ M') : v0a M' w w' := ⟨h.os, h.tape, h.output, h.size, fun i hi hm => h.block i hi fun hh => hm (hs i hh)⟩
theorem St.more0 {M : List Nat} {w0 w w' : World} (S : St M w0 w []) (h : v0a M w w') : St M w0 w' [] :=
 S.changed (G := M) (L' := []) h (fun _ hg => .inr hg) rfl (by simp)
end
theorem q2b {σ : Type} (M : List Nat) (Inv : σ → World → Prop) (step : E → σ → σ) (f : FuncId) (caps : Array Value) (hf : Has Tryz.prog f)
 (hstep : ∀ (e : E) (s : σ) (w : World) (b o : Nat), e.Shape → e.kids.length = 0 → RdP M w e b o → Inv s w →
   M0a Tryz.prog f (.pointer (some ⟨b, o, none⟩) :: caps.toList).toArray w fun _ w' => Inv (step e s) w' ∧ v0a M w w') :
 ∀ (e : E) (w0 : World) (b o : Nat) (s : σ) (lim : Int), RdP M w0 e b o → Inv s w0 → e.good lim = true →
 M0a Tryz.prog 91 #[.pointer (some ⟨b, o, none⟩), .func (.func f) #[] caps] w0 fun _ w' => Inv (e.lf step s) w' ∧ v0a M w0 w' := by
 intro e
 induction e using E.induct with
 | _ e ih =>
 intro w0 b o s lim hR hI hg
 obtain ⟨hbM, _, _, _, _, _, _, _, n, _, c3, _, _, _, _, hks, _⟩ := hR.open_
 rw [E.good_def] at hg
 simp only [Bool.and_eq_true] at hg
 have hsh : e.Shape := of_decide_eq_true hg.1.2
 have hkg : ∀ k ∈ e.kids, k.good (lim - 1) = true := (E.goods_iff _ _).1 hg.2
 clear hg
 have S : St M w0 w0 [] := ⟨v0a.refl _ _, by simp, by simp⟩
 have hlf := E.lf_def step e s
 refine a0a Tryz.func91 rfl Tryz.ntmps91 rfl ?_
 refine wX (fun D ε w => D = [] ∧ ∃ s1 : σ, (Inv s1 w) ∧ (s1 = if e.kids.length = 0 then step e s else s) ∧ St M w0 w [] ∧ ε 0 = .pointer (some ⟨b, o, none⟩) ∧ ε 1 = .func (.func f) #[] caps) ?_ ?_
 ·refine wO0 rfl ⟨⟩ (s0a Z1a rfl (by first | exact S.oldM hbM c3) rfl ?_)
  refine lB0 rfl ⟨⟩ (fun h10 => ?_) fun h10 => ?_
  ·refine lO0 rfl ⟨⟩ (S1b hf rfl rfl rfl (hstep e s _ b o hsh (by omega) (hR.keep S.keepM) hI) ?_)
   rintro v13 w13 ⟨I13, B13⟩
   have S13 := S.more0 B13
   exact lP0 rfl ⟨⟩ ⟨rfl, _, I13, by rw [if_pos (by omega)], S13, rfl, rfl⟩
  exact lP0 rfl ⟨⟩ ⟨rfl, _, hI, by rw [if_neg (by omega)], S, rfl, rfl⟩
 rintro D ε w ⟨rfl, s1, hI1, hs1, S, e0, e1⟩
 refine o0a 0 e0 (o0a 1 e1 ?_)
 clear e0 e1
 rw [← hs1] at hlf
 refine wO0 rfl ⟨⟩ (s0a Z1a rfl (by first | exact S.oldM hbM c3) rfl ?_)
 refine lC0 rfl ⟨⟩ (wL (fun μ D ε w => D = [] ∧ ∃ k : Nat, ∃ s2 : σ, (k + μ = e.kids.length) ∧ (Inv s2 w) ∧ (E.lfs step e.kids s1 = E.lfs step (e.kids.drop k) s2) ∧ St M w0 w [] ∧ ε 0 = .pointer (some ⟨b, o, none⟩) ∧ ε 1 = .func (.func f) #[] caps ∧ ε 18 = .int .i64 n ∧ ε 19 = .int .i64 k) (μ := e.kids.length) ⟨rfl, 0, s1, by omega, hI1, rfl, S, rfl, rfl, rfl, rfl⟩ ?_)
 rintro μ D ε w ⟨rfl, k, s2, _, hI2, hs2, S, e0, e1, e18, e19⟩
 refine o0a 0 e0 (o0a 1 e1 (o0a 18 e18 (o0a 19 e19 ?_)))
 clear e0 e1 e18 e19
 refine wB0 rfl ⟨⟩ (fun h20 => ?_) fun h20 => ?_
 ·refine lO0 rfl ⟨⟩ (s0a Z1a rfl (by first | exact S.oldM hbM c3) rfl ?_)
  refine lO0 rfl ⟨⟩ ?_
  have hlt : k < e.kids.length := by omega
  obtain ⟨bk, ok, _, hbkM, hkk⟩ := hks (by omega)
  have hdr : e.kids.drop k = e.kids[k] :: e.kids.drop (k + 1) := List.drop_eq_getElem_cons hlt
  rw [hdr] at hs2
  simp only [E.lfs] at hs2
  refine x0a a1a.slT rfl (by assumption) rfl (by omega) (by omega) rfl ?_
  refine lO0 rfl ⟨⟩ (e2a M9b rfl rfl (ih _ (List.getElem_mem hlt) _ bk (ok + k * 4) s2 _ ((RdP.kid hbkM hkk k hlt).keep S.keepM) hI2 (hkg _ (List.getElem_mem hlt))) ?_)
  rintro v29 w29 ⟨I29, B29⟩
  have S29 := S.more0 B29
  exact lP0 rfl ⟨by omega,⟨⟩⟩ ⟨μ - 1, by omega, rfl, k + 1, _, by omega, I29, hs2, S29, rfl, rfl, rfl, rfl⟩
 refine lF0 rfl ⟨⟩ (K1a rfl ?_)
 obtain rfl : k = e.kids.length := by omega
 rw [List.drop_length] at hs2
 simp only [E.lfs] at hs2
 rw [hlf, hs2]
 exact ⟨hI2, S.below⟩
def M8c (M : List Nat) (gc gp gg : Nat) (vc : Value) (cells : List d2a) (pair : Bool) (s : Bool) (w : World) : Prop :=
 gc ∉ M ∧ gp ∉ M ∧ w.cell? ⟨gc, 0, none⟩ = some vc ∧ w.cell? ⟨gp, 0, none⟩ = some (.bool pair) ∧ p0a w (gg, 4, [.bool s]) ∧ W4c M w vc cells
theorem R9b (M : List Nat) (gc gp gg : Nat) (vc : Value) (cells : List d2a) (pair : Bool) (hgg : gg ∈ M) (e : E) (s : Bool) (w0 : World) (b o : Nat) (hsh : e.Shape) (hlf : e.kids.length = 0) (hR : RdP M w0 e b o) (hI : M8c M gc gp gg vc cells pair s w0) :
 M0a Tryz.prog 92 #[.pointer (some ⟨b, o, none⟩), .pointer (some ⟨gc, 0, none⟩), .pointer (some ⟨gp, 0, none⟩), .pointer (some ⟨gg, 0, none⟩)] w0 fun _ w' => M8c M gc gp gg vc cells pair (s && decide (e.OverN cells pair)) w' ∧ v0a M w0 w' := by
 obtain ⟨hgc, hgp, hcc, hcp, hblk, hC⟩ := hI
 obtain ⟨hbM, _, _, _, c0, c1, c2, _, n, _, _, _, _, hm, _, _, _⟩ := hR.open_
 obtain ⟨Ac, nc, cc, rfl, _, _, _, _, hcs⟩ := id hC
 have har := Q6a hsh
 have har2 := D2a e.op
 have hov : (e.op = 3 ∨ e.op = 2) → 0 ≤ e.n ∧ e.n < 32 := fun h => by
  have := (W4a (by omega)).1 hsh; omega
 have S := St.borrow1 hblk
 have hsub : ∀ g ∈ [gg], g ∈ M := fun g hg => by simp at hg; subst hg; exact hgg
 have hb' : b ∉ [gg] := fun h => hbM (hsub b h)
 have hc' : gc ∉ [gg] := fun h => hgc (hsub gc h)
 have hp' : gp ∉ [gg] := fun h => hgp (hsub gp h)
 have fin : ∀ (z : Bool) (w' : World), St [gg] w0 w' [(some gg, 4, [.bool z])] → z = (s && decide (e.OverN cells pair)) → M8c M gc gp gg (.slice Ac nc cc) cells pair (s && decide (e.OverN cells pair)) w' ∧ v0a M w0 w' := by
  intro z w' S' hz
  subst hz
  exact ⟨⟨hgc, hgp, S'.oldM hc' hcc, S'.oldM hp' hcp, S'.blk 0 rfl, hC.keep (S'.keepM.mono hsub)⟩, S'.below.mono hsub⟩
 obtain ⟨pr, hpr⟩ : ∃ pr, pr = pair := ⟨_, rfl⟩
 have hcp2 := hcp
 rw [← hpr] at hcp2
 refine a0a Tryz.func92 rfl Tryz.ntmps92 rfl ?_
 refine wC0 rfl ⟨⟩ (D0a b0a [0, 1, 2, 3, 4, 5, 6, 7, 8, 9, 10, 11, 12, 13, 14, 15, 16, 17, 18, 19, 20, 21, 22, 23, 24, 25, 26, 27, 28, 29, 30, 31, 32, 33, 34, 35, 36, 37, 38, 39] [] [] (by kernel_rfl) rfl (Cl _ _ _ _) (Cl.start S) ?_)
 refine qO0 rfl ⟨⟩ (h0a C0a rfl (fun w1 hw => by exact hw.1.oldM hb' c0) rfl ?_)
 refine qB0 rfl ⟨⟩ (fun h9 => ?_) fun h9 => ?_
 ·refine qO0 rfl ⟨⟩ (h0a C0a rfl (fun w1 hw => by exact hw.1.oldM hb' c2) rfl ?_)
  refine qO0 rfl ⟨⟩ (h0a H9a rfl (fun w1 hw => by exact hw.1.oldM hc' hcc) rfl ?_)
  refine qB0 rfl ⟨⟩ (fun h17 => ?_) fun h17 => ?_
  ·refine qD rfl ⟨⟩ ?_
   rintro wR0 ⟨SR0, XR0⟩
   refine lO0 rfl ⟨⟩ ?_
   first | refine I0a (kk := 0) SR0 y2c rfl (by conv => lhs; whnf) rfl rfl (by exact Nat.le_of_ble_eq_true rfl) ?_
   intro w1_0 S1_0 X1_0
   refine lF0 rfl ⟨⟩ (K1a rfl ?_)
   refine fin _ _ S1_0 ?_; rw [decide_eq_false (show ¬ e.OverN cells pair from fun h => by have := h.2 (by omega); omega)]; simp; done
  refine qO0 rfl ⟨⟩ (h0a H9a rfl (fun w1 hw => by exact hw.1.oldM hc' hcc) rfl ?_)
  refine qO0 rfl ⟨⟩ (h0a C0a rfl (fun w1 hw => by exact hw.1.oldM hb' c2) rfl ?_)
  refine qO0 rfl ⟨⟩ ?_
  obtain ⟨bc, oc, _, hbc, hce⟩ := hcs (by omega)
  obtain ⟨m, hm⟩ := Int.eq_ofNat_of_zero_le (show 0 ≤ e.n by omega)
  have hml : m < cells.length := by omega
  have hbc' : bc ∉ [gg] := fun h => hbc (hsub bc h)
  obtain ⟨_, _, hcw', hrc⟩ := hce m cells[m] (List.getElem?_eq_getElem hml)
  have hcw : w0.cell? ⟨bc, oc + e.n.toNat * 6 + 1, none⟩ = some (.int .i64 (wAt cells e.n)) := by
   rw [hm]; have := hcw' 1 (.int .i64 cells[m].w) (by rw [hrc.1]; rfl)
   simpa [wAt, hml] using this
  refine m0a p5a.slT rfl (by assumption) rfl (by omega) (by omega) rfl ?_
  refine qO0 rfl ⟨⟩ (h0a C0a rfl (fun w1 hw => by exact hw.1.oldM hbc' hcw) rfl ?_)
  refine qO0 rfl ⟨⟩ (h0a C0a rfl (fun w1 hw => by exact hw.1.oldM hb' c1) rfl ?_)
  refine qB0 rfl ⟨⟩ (fun h31 => ?_) fun h31 => ?_
  ·refine qD rfl ⟨⟩ ?_
   rintro wR0 ⟨SR0, XR0⟩
   refine lO0 rfl ⟨⟩ ?_
   first | refine I0a (kk := 0) SR0 y2c rfl (by conv => lhs; whnf) rfl rfl (by exact Nat.le_of_ble_eq_true rfl) ?_
   intro w1_0 S1_0 X1_0
   refine lF0 rfl ⟨⟩ (K1a rfl ?_)
   refine fin _ _ S1_0 ?_; rw [decide_eq_false (show ¬ e.OverN cells pair from fun h => by have := h.2 (by omega); omega)]; simp; done
  refine qO0 rfl ⟨⟩ (h0a C0a rfl (fun w1 hw => by exact hw.1.oldM hb' c0) rfl ?_)
  refine qB0 rfl ⟨⟩ (fun h38 => ?_) fun h38 => ?_
  ·refine qO0 rfl ⟨⟩ ?_
   rcases (Bool.eq_false_or_eq_true (pr)).symm with hb40 | hb40
   ·refine h0a B2a rfl (fun w1 hw => by exact (hw.1.oldM hp' (hcp2.trans (by rw [hb40]))).trans (congrArg (fun b => some (Value.bool b)) hb40)) rfl ?_
    refine qD rfl ⟨⟩ ?_
    rintro wR0 ⟨SR0, XR0⟩
    refine lO0 rfl ⟨⟩ ?_
    first | refine I0a (kk := 0) SR0 y2c rfl (by conv => lhs; whnf) rfl rfl (by exact Nat.le_of_ble_eq_true rfl) ?_
    intro w1_0 S1_0 X1_0
    refine lF0 rfl ⟨⟩ (K1a rfl ?_)
    refine fin _ _ S1_0 ?_; rw [decide_eq_false (show ¬ e.OverN cells pair from fun h => by have := h.1 (by omega); rw [← hpr, hb40] at this; cases this)]; simp; done
   refine h0a B2a rfl (fun w1 hw => by exact (hw.1.oldM hp' (hcp2.trans (by rw [hb40]))).trans (congrArg (fun b => some (Value.bool b)) hb40)) rfl ?_
   refine qD rfl ⟨⟩ ?_
   rintro wR0 ⟨SR0, XR0⟩
   refine lF0 rfl ⟨⟩ (K1a rfl ?_)
   refine fin _ _ SR0 ?_; rw [decide_eq_true (show e.OverN cells pair from ⟨fun h => by rw [← hpr, hb40], fun h => by omega⟩)]; simp; done
  refine qD rfl ⟨⟩ ?_
  rintro wR0 ⟨SR0, XR0⟩
  refine lF0 rfl ⟨⟩ (K1a rfl ?_)
  refine fin _ _ SR0 ?_; rw [decide_eq_true (show e.OverN cells pair from ⟨fun h => absurd h (by omega), fun h => by omega⟩)]; simp; done
 refine qD rfl ⟨⟩ ?_
 rintro wR0 ⟨SR0, XR0⟩
 refine lF0 rfl ⟨⟩ (K1a rfl ?_)
 refine fin _ _ SR0 ?_; rw [decide_eq_true (show e.OverN cells pair from ⟨fun h => absurd h (by omega), fun h => by omega⟩)]; simp; done
theorem V4c (cells : List d2a) (pair : Bool) : ∀ (e : E) (s : Bool) (lim : Int), e.good lim = true → e.lf (fun e s => s && decide (e.OverN cells pair)) s = (s && e.over cells pair) := by
 intro e
 induction e using E.induct with
 | _ e ih =>
   intro s lim hg
   rw [E.good_def] at hg
   simp only [Bool.and_eq_true] at hg
   have hsh : e.Shape := of_decide_eq_true hg.1.2
   have hkg : ∀ k ∈ e.kids, k.good (lim - 1) = true := (E.goods_iff _ _).1 hg.2
   have har := Q6a hsh
   have har2 := D2a e.op
   have key : ∀ (ks : List E), (∀ k ∈ ks, ∀ (s : Bool) (lim : Int), k.good lim = true → k.lf (fun e s => s && decide (e.OverN cells pair)) s = (s && k.over cells pair)) → (∀ k ∈ ks, k.good (lim - 1) = true) →
    ∀ s : Bool, E.lfs (fun e s => s && decide (e.OverN cells pair)) ks s = (s && E.overs cells pair ks) := by
    intro ks
    induction ks with
    | nil => intro _ _ s; simp [E.lfs, E.overs]
    | cons k ks ih2 =>
      intro h1 h2 s
      simp only [E.lfs, E.overs]
      rw [ih2 (fun k' hk' => h1 k' (by simp [hk'])) (fun k' hk' => h2 k' (by simp [hk'])), h1 k (by simp) _ (lim - 1) (h2 k (by simp)), Bool.and_assoc]
   rw [E.lf_def, key e.kids ih hkg, E.over_def]
   by_cases h0 : e.kids.length = 0
   ·rw [if_pos h0, Bool.and_assoc]
   ·rw [if_neg h0, decide_eq_true (show e.OverN cells pair by unfold E.OverN; omega)]; simp
theorem I2a (e : E) (M : List Nat) (w0 : World) (cs : List Value) (vc : Value) (cells : List d2a) (pair : Bool) (hR : RdE M w0 e cs) (hC : W4c M w0 vc cells) (hK : a3a M w0) :
 M0a Tryz.prog 64 #[.agg cs.toArray, vc, .bool pair] w0 fun v w' => v = .bool (e.valid cells pair) ∧ Below w0.heap.size w0 w' := by
 obtain ⟨_, _, _, rfl, _, _, _, _, _, _, _, _⟩ := hR.open_
 obtain ⟨Ac, nc, cc, rfl⟩ := hC.form
 have S := St.refl w0
 refine a0a Tryz.func64 rfl Tryz.ntmps64 rfl ?_
 refine wO0 rfl ⟨⟩ (j0a S (by conv => lhs; whnf) rfl ?_)
 intro g3 w3 S3 X3 G3
 refine s6a S3 (v := .slice _ _ _) rfl rfl rfl ?_
 intro g4 w4 S4 X4 G4
 refine s6a S4 (v := .bool _) rfl rfl rfl ?_
 intro g5 w5 S5 X5 G5
 refine lO S5.k [.w 2] rfl ⟨⟨rfl,by rfl⟩,⟨⟩⟩ (y0a S5 m0c rfl rfl (d5a e M _ _ (RdE.keep (S5.keep0 M) _ _ hR) (hK.keep (S5.keep0 M))) (fun h9 w9 S9 X9 => ?_) (fun h9 w9 S9 X9 => ?_))
 ·refine lO0 rfl ⟨⟩ (n0a S9 d9c rfl rfl ?_)
  intro g7 w7 S7 X7 G7
  refine I0a (kk := 0) S7 y2c rfl (by conv => lhs; whnf) rfl rfl (by exact Nat.le_of_ble_eq_true rfl) ?_
  intro w3_1 S3_1 X3_1
  refine lO0 rfl ⟨⟩ (E1a rfl rfl ?_)
  have hM' : ∀ g ∈ [g7] , g ∈ M ∨ w0.heap.size ≤ g := fun g hg => by
   simp at hg; subst hg; right; have := S3_1.new 0 rfl; simp at this; exact this
  have hgood : e.good 40 = true := by unfold E.wf at h9; simp only [Bool.and_eq_true] at h9; exact h9.2
  refine e2a M9b rfl rfl (q2b [g7] (M8c [g7] g4 g5 g7 (.slice Ac nc cc) cells pair) (fun e s => s && decide (e.OverN cells pair)) _ _ L6c (fun e s w b o h1 h2 h3 h4 => R9b [g7] g4 g5 g7 _ cells pair (by simp) e s w b o h1 h2 h3 h4) e _ g3 0 true 40
   ⟨by simpa using (S3_1.ne 0 3 rfl rfl (by omega)).symm, _, S3_1.cells 3 rfl, RdE.keep (S3_1.keep0 _) _ _ (RdE.more hM' _ _ hR)⟩
   ⟨by simpa using (S3_1.ne 0 2 rfl rfl (by omega)).symm, by simpa using (S3_1.ne 0 1 rfl rfl (by omega)).symm, S3_1.cell 2 rfl rfl, S3_1.cell 1 rfl rfl, S3_1.blk 0 rfl, (hC.more (by omega) hM').keep (S3_1.keep0 _)⟩ hgood) ?_
  rintro v12 w12 ⟨⟨-, -, -, -, I12, -⟩, B12⟩
  have S12 := S3_1.changed1 0 rfl B12 I12
  rw [V4c cells pair e true 40 hgood] at S12
  dsimp only [List.set] at S12
  refine lR S12.k [.o 0] rfl ⟨rfl,⟨⟩⟩ (r0a rfl (by conv => lhs; whnf) ?_)
  refine ⟨congrArg Value.bool ?_, S12.fin⟩
  unfold E.valid
  simp [h9]
 refine lT rfl ⟨⟩ rfl ⟨congrArg Value.bool ?_, S9.fin⟩
 unfold E.valid
 simp [h9]
theorem R7b {M : List Nat} {w : World} : RdI M w (.slice none 0 0) [] := ⟨none, 0, 0, rfl, rfl, Nat.le_refl _, by unfold maxLen; omega, by omega, fun h => absurd h (by omega)⟩
def F6c (g1 g2 : Nat) (s : List Bool × List Bool) (w : World) : Prop :=
 s.1.length = 32 ∧ s.2.length = 32 ∧ p0a w (g1, 210, s.1.map Value.bool) ∧ p0a w (g2, 210, s.2.map Value.bool)
def G5a (e : E) (s : List Bool × List Bool) : List Bool × List Bool := (if e.op = 3 then s.1.set e.n.toNat true else s.1, if e.op = 2 then s.2.set e.n.toNat true else s.2)
theorem R4b (g1 g2 : Nat) (hne : g1 ≠ g2) (e : E) (s : List Bool × List Bool) (w0 : World) (b o : Nat) (hsh : e.Shape) (hR : RdP [g1, g2] w0 e b o) (hI : F6c g1 g2 s w0) :
 M0a Tryz.prog 169 #[.pointer (some ⟨b, o, none⟩), .pointer (some ⟨g1, 0, none⟩), .pointer (some ⟨g2, 0, none⟩)] w0 fun _ w' => F6c g1 g2 (G5a e s) w' ∧ v0a [g1, g2] w0 w' := by
 obtain ⟨l1, l2, hb1, hb2⟩ := hI
 obtain ⟨_, _⟩ := s
 dsimp only at l1 l2 hb1 hb2
 obtain ⟨hbM, _, _, _, c0, _, c2, _, n, _, _, _, _, _, _, _, _⟩ := hR.open_
 have hov : (e.op = 3 ∨ e.op = 2) → 0 ≤ e.n ∧ e.n < 32 := fun h => by
  have := (W4a (by omega)).1 hsh; omega
 have S := St.borrow2 hb1 hb2 hne
 refine a0a Tryz.func169 rfl Tryz.ntmps169 rfl ?_
 refine wO0 rfl ⟨⟩ (s0a C0a rfl (by exact S.oldM hbM c0) rfl ?_)
 refine lB0 rfl ⟨⟩ (fun h9 => ?_) fun h9 => ?_
 ·refine lO0 rfl ⟨⟩ (s0a C0a rfl (by exact S.oldM hbM c2) rfl ?_)
  refine f6a a2b rfl rfl (by omega) (by omega) rfl ?_
  refine I0a (kk := 0) S y2c rfl (by conv => lhs; whnf) rfl rfl (by (simp; omega)) ?_
  intro w2_5 S2_5 X2_5
  refine lF0 rfl ⟨⟩ (K1a rfl ?_)
  refine ⟨?_, S2_5.below⟩
  unfold F6c G5a
  refine ⟨by dsimp only; split <;> simp [l1], by dsimp only; split <;> simp [l2], ?_, ?_⟩
  ·have hh := S2_5.blk 0 rfl
   simpa [h9, List.map_set] using hh; done
  ·have hh := S2_5.blk 1 rfl
   simpa [h9, List.map_set] using hh; done
 refine lB0 rfl ⟨⟩ (fun h16 => ?_) fun h16 => ?_
 ·refine lO0 rfl ⟨⟩ (s0a C0a rfl (by exact S.oldM hbM c2) rfl ?_)
  refine f6a a2b rfl rfl (by omega) (by omega) rfl ?_
  refine I0a (kk := 1) S y2c rfl (by conv => lhs; whnf) rfl rfl (by (simp; omega)) ?_
  intro w4_5 S4_5 X4_5
  refine lF0 rfl ⟨⟩ (K1a rfl ?_)
  refine ⟨?_, S4_5.below⟩
  unfold F6c G5a
  refine ⟨by dsimp only; split <;> simp [l1], by dsimp only; split <;> simp [l2], ?_, ?_⟩
  ·have hh := S4_5.blk 0 rfl
   simpa [h9, List.map_set] using hh; done
  ·have hh := S4_5.blk 1 rfl
   simpa [h9, h16, List.map_set] using hh; done
 refine lF0 rfl ⟨⟩ (K1a rfl ?_)
 refine ⟨?_, S.below⟩
 unfold F6c G5a
 refine ⟨by dsimp only; split <;> simp [l1], by dsimp only; split <;> simp [l2], ?_, ?_⟩
 ·have hh := S.blk 0 rfl
  simpa [h9, List.map_set] using hh; done
 ·have hh := S.blk 1 rfl
  simpa [h9, h16, List.map_set] using hh; done
theorem E0b (M : List Nat) (w0 : World) (bs : List Bool) (hlen : bs.length = 32) (hM : ∀ g ∈ M, g < w0.heap.size) :
 M0a Tryz.prog 170 #[.agg (bs.map Value.bool).toArray] w0 fun v' w' => RdI M w' v' (i5a bs) ∧ Below w0.heap.size w0 w' := by
 have S := (St.refl w0).nilEnt 3
 have hlm : (bs.map Value.bool).length = 32 := by simpa using hlen
 refine a0a Tryz.func170 rfl Tryz.ntmps170 rfl ?_
 refine wO0 rfl ⟨⟩ (j0a S (by conv => lhs; whnf) rfl ?_)
 intro g1 w1 S1 X1 G1
 refine lC S1.k [.w 0] rfl ⟨⟨rfl,by assumption⟩,⟨⟩⟩ (wL (fun μ D ε w => D = [] ∧ ∃ k : Nat, ∃ G : Option Nat, ∃ cs : List Value, ∃ v : Value, (k + μ = 32) ∧ (C3a G 1 (L2a bs k).length cs v ((L2a bs k).map (Value.int .i64))) ∧ St [] w0 w [(G, 3, cs)] ∧ ε 3 = v ∧ ε 6 = .agg (bs.map Value.bool).toArray ∧ ε 7 = .int .i64 k) (μ := 32) ⟨rfl, 0, none, [], _, by omega, C3a.nil 1, S1.tail, rfl, rfl, rfl⟩ ?_)
 rintro μ D ε w ⟨rfl, k, G, cs, v, _, hrow, S, e3, e6, e7⟩
 refine o0a 3 e3 (o0a 6 e6 (o0a 7 e7 ?_))
 clear e3 e6 e7
 refine wB0 rfl ⟨⟩ (fun h8 => ?_) fun h8 => ?_
 ·refine lO0 rfl ⟨⟩ ?_
  have hlt : k < bs.length := by omega
  have hel : ((bs.map Value.bool).toArray)[((k : Nat) : Int).toNat]? = some (.bool bs[k]) := by simp [hlt]
  have hgd : bs.getD k false = bs[k] := by simp [hlt]
  have hml := A2a bs k
  cases hb10 : bs[k]
  ·have hlt : k < bs.length := by omega
   have hel : ((bs.map Value.bool).toArray)[((k : Nat) : Int).toNat]? = some (.bool bs[k]) := by simp [hlt]
   have hgd : bs.getD k false = bs[k] := by simp [hlt]
   have hml := A2a bs k
   refine L4b a2b rfl rfl (by omega) (by omega) (hel.trans (by rw [hb10])) rfl ?_
   refine lP0 rfl ⟨by omega,⟨⟩⟩ ⟨μ - 1, by omega, rfl, k + 1, G, cs, v, by omega, ?_, S, rfl, rfl, rfl⟩
   rw [R3a, hgd, hb10]; simpa using hrow
  have hlt : k < bs.length := by omega
  have hel : ((bs.map Value.bool).toArray)[((k : Nat) : Int).toNat]? = some (.bool bs[k]) := by simp [hlt]
  have hgd : bs.getD k false = bs[k] := by simp [hlt]
  have hml := A2a bs k
  refine L4b a2b rfl rfl (by omega) (by omega) (hel.trans (by rw [hb10])) rfl ?_
  refine lOn 11 S.k [] rfl ⟨⟩ (m1a (by conv => lhs; whnf) rfl ?_)
  refine lO0 rfl ⟨⟩ (E0a S Y0a (vs := [.int .i64 _]) (cs := [_]) (by rfl) rfl rfl rfl rfl rfl rfl ?_)
  intro g14 w14 S14 X14 G14
  refine o1b (k := 1) S14 Y0a rfl hrow rfl rfl (S14.cells 0 rfl) rfl (by simp [Value.oneCell']) (by omega) (by omega) rfl ?_
  intro v15 G15 cs15 w15 S15' hrow15 X15
  have S15 := S15'.tail
  refine T0a (by conv => lhs; whnf) rfl ?_
  refine lP0 rfl ⟨by omega,⟨⟩⟩ ⟨μ - 1, by omega, rfl, k + 1, G15, cs15, v15, by omega, ?_, S15, rfl, rfl, rfl⟩
  rw [R3a, hgd, hb10]; simpa using hrow15
 refine lOn 8 S.k [] rfl ⟨⟩ (m1a (by conv => lhs; whnf) rfl ?_)
 refine T0a (by conv => lhs; whnf) rfl ?_
 refine lR0 rfl ⟨⟩ (r0a rfl (by conv => lhs; whnf) ?_)
 obtain rfl : k = 32 := by omega
 have hmm : L2a bs 32 = i5a bs := by unfold i5a; rw [hlen]
 rw [hmm] at hrow
 refine ⟨hrow.rdI (k := 0) S rfl hM (fun x hx => ?_) ?_, S.nil.fin⟩
 ·obtain ⟨_, rfl, _, _⟩ := (J5a _ _ _).1 hx; unfold i64; omega
 ·have := A2a bs bs.length; unfold i5a; omega
theorem g7c : ∀ (e : E) (a1 a2 : List Bool) (lim : Int), e.good lim = true → e.lf G5a (a1, a2) = (e.mark 3 a1, e.mark 2 a2) := by
 intro e
 induction e using E.induct with
 | _ e ih =>
   intro a1 a2 lim hg
   rw [E.good_def] at hg
   simp only [Bool.and_eq_true] at hg
   have hsh : e.Shape := of_decide_eq_true hg.1.2
   have hkg : ∀ k ∈ e.kids, k.good (lim - 1) = true := (E.goods_iff _ _).1 hg.2
   have har := Q6a hsh
   have har2 := D2a e.op
   have key : ∀ (ks : List E), (∀ k ∈ ks, ∀ (a1 a2 : List Bool) (lim : Int), k.good lim = true → k.lf G5a (a1, a2) = (k.mark 3 a1, k.mark 2 a2)) → (∀ k ∈ ks, k.good (lim - 1) = true) →
    ∀ a1 a2 : List Bool, E.lfs G5a ks (a1, a2) = (E.markAll 3 ks a1, E.markAll 2 ks a2) := by
    intro ks
    induction ks with
    | nil => intro _ _ a1 a2; simp [E.lfs, E.markAll]
    | cons k ks ih2 =>
      intro h1 h2 a1 a2
      simp only [E.lfs, E.markAll]
      rw [h1 k (by simp) _ _ (lim - 1) (h2 k (by simp)), ih2 (fun k' hk' => h1 k' (by simp [hk'])) (fun k' hk' => h2 k' (by simp [hk']))]
   rw [E.lf_def, E.mark_def, E.mark_def]
   by_cases h0 : e.kids.length = 0
   ·rw [if_pos h0]; exact key e.kids ih hkg _ _
   ·rw [if_neg h0, if_neg (by omega), if_neg (by omega)]; exact key e.kids ih hkg _ _
theorem C2b (e : E) (M : List Nat) (w0 : World) (cs : List Value) (hR : RdE M w0 e cs) (hK : a3a M w0) (hM : ∀ g ∈ M, g < w0.heap.size) :
 M0a Tryz.prog 156 #[.agg cs.toArray] w0 fun v w' => (∃ a b, v = .tuple #[a, b] ∧ RdI M w' a (e.sup 3) ∧ RdI M w' b (e.sup 2)) ∧ Below w0.heap.size w0 w' := by
 obtain ⟨_, _, _, rfl, _, _, _, _, _, _, _, _⟩ := hR.open_
 have S := St.refl w0
 refine a0a Tryz.func156 rfl Tryz.ntmps156 rfl ?_
 refine wO0 rfl ⟨⟩ (j0a S (by conv => lhs; whnf) rfl ?_)
 intro g1 w1 S1 X1 G1
 refine lO S1.k [.w 0] rfl ⟨⟨rfl,by rfl⟩,⟨⟩⟩ (y0a S1 m0c rfl rfl (d5a e M _ _ (RdE.keep (S1.keep0 M) _ _ hR) (hK.keep (S1.keep0 M))) (fun h7 w7 S7 X7 => ?_) (fun h7 w7 S7 X7 => ?_))
 ·refine lO0 rfl ⟨⟩ (n0a S7 X2c rfl rfl ?_)
  intro g4 w4 S4 X4 G4
  refine n0a S4 X2c rfl rfl ?_
  intro g5 w5 S5 X5 G5
  refine lO0 rfl ⟨⟩ (E1a rfl rfl ?_)
  have hM' : ∀ g ∈ [g4, g5] , g ∈ M ∨ w0.heap.size ≤ g := fun g hg => by
   simp at hg; rcases hg with rfl | rfl
   ·right; have := S5.new 1 rfl; simp at this; exact this
   ·right; have := S5.new 0 rfl; simp at this; exact this
  have hgood : e.good 40 = true := by unfold E.wf at h7; simp only [Bool.and_eq_true] at h7; exact h7.2
  have hne := (S5.ne 0 1 rfl rfl (by omega)).symm
  refine e2a M9b rfl rfl (q2b [g4, g5] (F6c g4 g5) G5a _ _ i5c (fun e s w b o h1 _ h3 h4 => R4b g4 g5 hne e s w b o h1 h3 h4) e _ g1 0 (List.replicate 32 false, List.replicate 32 false) 40
   ⟨by simpa using ⟨(S5.ne 1 2 rfl rfl (by omega)).symm, (S5.ne 0 2 rfl rfl (by omega)).symm⟩, _, S5.cells 2 rfl, RdE.keep (S5.keep0 _) _ _ (RdE.more hM' _ _ hR)⟩
   ⟨rfl, rfl, S5.blk 1 rfl, S5.blk 0 rfl⟩ hgood) ?_
  rintro v10 w10 ⟨⟨-, -, I1, I2⟩, B10⟩
  rw [g7c e _ _ 40 hgood] at I1 I2
  dsimp only at I1 I2
  have S10 := S5.changed2 1 0 rfl rfl B10 I1 I2
  dsimp only [List.set] at S10
  have q1 : (e.mark 3 (List.replicate 32 false)).length = 32 := by rw [E.mark_len]; simp
  have q2 : (e.mark 2 (List.replicate 32 false)).length = 32 := by rw [E.mark_len]; simp
  have q1' : ((e.mark 3 (List.replicate 32 false)).map Value.bool).length = 32 := by simpa using q1
  have q2' : ((e.mark 2 (List.replicate 32 false)).map Value.bool).length = 32 := by simpa using q2
  refine lC0 rfl ⟨⟩ (D0a b0a [0, 2] [1] [3, 4, 5] (by kernel_rfl) rfl (Cl _ _ _ _) (Cl.start S10) ?_)
  refine qN S10.q [.w 1,.w 0] rfl ⟨⟨rfl,by assumption⟩,⟨rfl,by assumption⟩,⟨⟩⟩ (w5a ?_)
  refine H1b (fun v w => RdI M w v (i5a (e.mark 3 (List.replicate 32 false)))) rfl rfl S8b rfl (fun v w w' h hk => h.keep hk.of_nil) (fun w1 S1 X1 => E0b M _ _ q1 (fun g hg => Nat.lt_of_lt_of_le (hM g hg) S1.size)) ?_
  refine o2a ?_
  rintro wR5 ⟨SR5, _⟩
  rintro v12 r12
  dsimp only [I3a]
  refine B0a SR5 S8b rfl rfl (E0b M _ _ q2 (fun g hg => Nat.lt_of_lt_of_le (hM g hg) SR5.size)) ?_
  rintro v14 w14 r14 S14 X14
  replace r12 := r12.keep (X14.of_nil)
  refine T0a (by conv => lhs; whnf) rfl ?_
  refine T0a (by conv => lhs; whnf) rfl ?_
  refine lT2 rfl ⟨⟩ rfl ⟨⟨_, _, rfl, ?_⟩, S14.fin⟩
  unfold E.sup
  rw [if_pos h7, if_pos h7]; exact ⟨r12, r14⟩
 refine lT2 rfl ⟨⟩ rfl ⟨⟨_, _, rfl, ?_⟩, S7.fin⟩
 unfold E.sup
 rw [if_neg (by simp [h7]), if_neg (by simp [h7])]; exact ⟨R7b, R7b⟩
theorem w0a.fresh {a b c : World} {g : Nat} (h : w0a [] a b) (k : w0a [g] b c) (hg : a.heap.size ≤ g) : w0a [] a c :=
 ⟨Nat.le_trans h.size k.size, fun i hi hm => (k.same i (Nat.lt_of_lt_of_le hi h.size) (fun hh => by rw [List.mem_singleton] at hh; omega)).trans (h.same i hi hm)⟩
def shQ (p : f0a) (c : Int) : Bool := decide ((0 ≤ c ∧ c < p.cells.length) ∧ y1a p.cells c = -1)
def J8a (p : f0a) (t : Int) (c : Int) : Bool := decide ((0 ≤ c ∧ c < p.cells.length) ∧ y1a p.cells c = t)
def Z1b (p : f0a) (t : Int) (c : Int) : Bool := shQ p c || J8a p t c
def X2a (e : E) (q : Int → Bool) : Bool := (e.sup 3).all q && (e.sup 2).all q
theorem s9a {cells : List d2a} {pair : Bool} {e : E} (h : e.valid cells pair = true) : ∀ x ∈ e.sup 3 ++ e.sup 2, 0 ≤ x ∧ x < cells.length := fun x hx => by
 obtain ⟨hwf, hgd, hov⟩ := c5a h
 rcases List.mem_append.1 hx with hx | hx
 ·have h1 := (K1b hwf (.inr rfl) x).1 hx
  have h2 := F5a (.inr rfl) e 40 hgd hov x h1.2.2
  omega
 ·have h1 := (K1b hwf (.inl rfl) x).1 hx
  have h2 := F5a (.inl rfl) e 40 hgd hov x h1.2.2
  omega
theorem g8a {e : E} {q : Int → Bool} : X2a e q = true ↔ ∀ x ∈ e.sup 3 ++ e.sup 2, q x = true := by
 simp only [X2a, Bool.and_eq_true, List.all_eq_true, List.mem_append]
 exact ⟨fun h x hx => hx.elim (h.1 x) (h.2 x), fun h => ⟨fun x hx => h x (.inl hx), fun x hx => h x (.inr hx)⟩⟩
theorem b1a.thr {p : f0a} (hp : b1a p) {x : Int} (h0 : 0 ≤ x) (h1 : x < p.cells.length) : -1 ≤ y1a p.cells x := by
 obtain ⟨i, rfl⟩ := Int.eq_ofNat_of_zero_le h0
 have hi : i < p.cells.length := by omega
 have := (hp.cells _ (List.getElem_mem hi)).thread
 rw [f1a (c := p.cells[i]) (by simp [hi])]
 omega
theorem o6b {p : f0a} (hp : b1a p) {e : E} {pair : Bool} (hv : e.valid p.cells pair = true) (h : M4a p.cells e true (-1)) : X2a e (shQ p) = true := g8a.2 fun x hx => by
 have h1 := s9a hv x hx
 have h2 := h x hx
 have h3 := hp.thr h1.1 h1.2
 exact decide_eq_true ⟨h1, by omega⟩
theorem i8a {p : f0a} (hp : b1a p) {e : E} {pair : Bool} {t : Int} (hv : e.valid p.cells pair = true) (h : M4a p.cells e false t) : X2a e (J8a p t) = true := g8a.2 fun x hx => by
 have h1 := s9a hv x hx
 have h2 := h x hx
 have h3 := hp.thr h1.1 h1.2
 have h4 : y1a p.cells x ≠ -1 := fun hh => by have := h2.1 hh; cases this
 exact decide_eq_true ⟨h1, by omega⟩
theorem q1b {p : f0a} (hp : b1a p) {e : E} {pair : Bool} {t : Int} (hv : e.valid p.cells pair = true) (h : M4a p.cells e true t) : X2a e (Z1b p t) = true := g8a.2 fun x hx => by
 have h1 := s9a hv x hx
 have h2 := h x hx
 have h3 := hp.thr h1.1 h1.2
 unfold Z1b shQ J8a
 rw [Bool.or_eq_true, decide_eq_true_eq, decide_eq_true_eq]
 by_cases h5 : y1a p.cells x = -1
 ·exact .inl ⟨h1, h5⟩
 ·exact .inr ⟨h1, by omega⟩
theorem f2a (i n : Int) (w0 : World) : M0a Tryz.prog 119 #[.int .i64 i, .int .i64 n] w0 fun v w' => v = .bool (decide (0 ≤ i ∧ i < n)) ∧ Below w0.heap.size w0 w' := by
 have S := St.refl w0
 refine a0a Tryz.func119 rfl Tryz.ntmps119 rfl ?_
 refine wB0 rfl ⟨⟩ (fun h6 => ?_) fun h6 => ?_
 ·refine lB0 rfl ⟨⟩ (fun h10 => ?_) fun h10 => ?_
  ·refine lT rfl ⟨⟩ rfl ?_
   exact ⟨congrArg Value.bool (by (rw [decide_eq_true]; omega)), S.fin⟩
  refine lT rfl ⟨⟩ rfl ?_
  exact ⟨congrArg Value.bool (by (rw [decide_eq_false]; omega)), S.fin⟩
 refine lT rfl ⟨⟩ rfl ?_
 exact ⟨congrArg Value.bool (by (rw [decide_eq_false]; omega)), S.fin⟩
theorem r7a (s : ByteArray) (w0 : World) (hs : u6a s) : M0a Tryz.prog 118 #[.string s] w0 fun v w' => v = .bool true ∧ Below w0.heap.size w0 w' := by
 have S := St.refl w0
 have h1 := hs.1
 have h2 := hs.2.1
 refine a0a Tryz.func118 rfl Tryz.ntmps118 rfl ?_
 refine wO0 rfl ⟨⟩ (L0b Tryz.underlying9 rfl rfl ?_)
 refine lB0 rfl ⟨⟩ (fun h6 => by exfalso; omega) fun h6 => ?_
 refine lO0 rfl ⟨⟩ (L0b Tryz.underlying9 rfl rfl ?_)
 refine lB0 rfl ⟨⟩ (fun h10 => by exfalso; omega) fun h10 => ?_
 refine lO0 rfl ⟨⟩ (L0b Tryz.underlying9 rfl rfl ?_)
 refine lC0 rfl ⟨⟩ (wL (fun μk D ε w => D = [] ∧ ∃ k : Nat, (k + μk = (s.size)) ∧ St [] w0 w [] ∧ Sl ε [(0, .string s), (13, .int .i64 s.size), (14, .int .i64 k)]) (μ := (s.size)) ⟨rfl, 0, by omega, S, rfl⟩ ?_)
 rintro μk D ε w ⟨rfl, k, _, S, eZ⟩
 refine wK eZ (wB0 rfl ⟨⟩ (fun h15 => ?_) fun h15 => ?_)
 ·refine lO0 rfl ⟨⟩ ?_
  have h3 := hs.2.2 k (by omega)
  refine K8a Tryz.underlying9 rfl rfl (by omega) (by omega) rfl ?_
  refine lB0 rfl ⟨⟩ (fun h20 => by exfalso; simp only [Int.toNat_natCast] at h20; omega) (fun h20 => ?_)
  refine lO0 rfl ⟨⟩ (K8a Tryz.underlying9 rfl rfl (by omega) (by omega) rfl ?_)
  refine lB0 rfl ⟨⟩ (fun h25 => by exfalso; simp only [Int.toNat_natCast] at h25; omega) (fun h25 => ?_)
  refine lP0 rfl ⟨by omega,⟨⟩⟩ ⟨μk - 1, by omega, rfl, (k + 1), (by omega), S, rfl⟩
 exact lT rfl ⟨⟩ rfl ⟨rfl, S.fin⟩
theorem p7b (e : E) (M : List Nat) (w0 : World) (cs : List Value) (hR : RdE M w0 e cs) : M0a Tryz.prog 121 #[.agg cs.toArray] w0 fun v w' => v = .bool (dec e.absent) ∧ Below w0.heap.size w0 w' := by
 obtain ⟨_, _, _, rfl, hn, _, _, _, _⟩ := hR.cells
 have S := St.refl w0
 refine a0a Tryz.func121 rfl Tryz.ntmps121 rfl ?_
 refine wO0 rfl ⟨⟩ (j0a S (by conv => lhs; whnf) rfl ?_)
 intro g1 w1 S1 X1 G1
 refine lB S1.k [.o 0] rfl ⟨rfl,⟨⟩⟩ (fun h5 => ?_) fun h5 => ?_
 ·refine lB S1.k [.o 0] rfl ⟨rfl,⟨⟩⟩ (fun h9 => ?_) fun h9 => ?_
  ·refine lB S1.k [.o 0] rfl ⟨rfl,⟨⟩⟩ (fun h14 => ?_) fun h14 => ?_
   ·refine lB S1.k [.o 0] rfl ⟨rfl,⟨⟩⟩ (fun h20 => ?_) fun h20 => ?_
    ·exact lT rfl ⟨⟩ rfl ⟨N3a ⟨by omega, by omega, by omega, List.length_eq_zero_iff.1 (by omega)⟩, S1.fin⟩
    refine lT rfl ⟨⟩ rfl ?_
    refine ⟨h1a (fun h => ?_), S1.fin⟩; obtain ⟨a1, a2, a3, a4⟩ := h; rw [a4] at hn; simp at hn; omega
   refine lT rfl ⟨⟩ rfl ?_
   refine ⟨h1a (fun h => ?_), S1.fin⟩; obtain ⟨a1, a2, a3, a4⟩ := h; rw [a4] at hn; simp at hn; omega
  refine lT rfl ⟨⟩ rfl ?_
  refine ⟨h1a (fun h => ?_), S1.fin⟩; obtain ⟨a1, a2, a3, a4⟩ := h; rw [a4] at hn; simp at hn; omega
 refine lT rfl ⟨⟩ rfl ?_
 refine ⟨h1a (fun h => ?_), S1.fin⟩; obtain ⟨a1, a2, a3, a4⟩ := h; rw [a4] at hn; simp at hn; omega
theorem k5a (M : List Nat) (w0 : World) (v : Value) (l : List Int) (hR : RdI M w0 v l) (hr : X5a l) : M0a Tryz.prog 124 #[v] w0 fun v w' => v = .bool true ∧ Below w0.heap.size w0 w' := by
 obtain ⟨A, n, c, rfl⟩ := hR.form
 obtain ⟨_, _, _⟩ := hR.len
 have S := St.refl w0
 refine a0a Tryz.func124 rfl Tryz.ntmps124 rfl ?_
 refine wC0 rfl ⟨⟩ (wL (fun μk D ε w => D = [] ∧ ∃ k : Nat, (k + μk = max (l.length) 1) ∧ (1 ≤ k) ∧ St [] w0 w [] ∧ Sl ε [(0, .slice A n c), (3, .int .i64 k)]) (μ := (max (l.length) 1 - 1)) ⟨rfl, 1, by omega, by omega, S, rfl⟩ ?_)
 rintro μk D ε w ⟨rfl, k, _, _, S, eZ⟩
 refine wK eZ (wB0 rfl ⟨⟩ (fun h7 => ?_) fun h7 => ?_)
 ·refine lC0 rfl ⟨⟩ (D0a b0a [0, 1, 2, 3, 4, 5, 6, 7, 8, 9] [] [] (by kernel_rfl) rfl (Cl _ _ _ _) (Cl.start S) ?_)
  obtain ⟨_, b12, p12, _, hxy, hA12, _, _, hc12, hr12⟩ := RdS.get (hR) (k) (by omega)
  obtain ⟨rfl, _⟩ := id hr12
  obtain ⟨x, b17, p17, _, hxx, hA17, _, _, hc17, hr17⟩ := RdS.get (hR) (k - 1) (by omega)
  obtain ⟨rfl, _⟩ := id hr17
  have e17 : ((k : Int) - 1).toNat = k - 1 := by omega
  rw [← e17] at hc17
  have hxy2 := o9b hr hxx hxy (by omega)
  refine qB ((S.q.a hc17).a hc12) [.x b12 p12,.f 0 0,.x b17 p17,.f 1 0] rfl ⟨rfl,⟨hA17,by omega⟩,by omega,rfl,⟨hA12,by omega⟩,⟨⟩⟩ (fun h19 => by exfalso; omega) fun h19 => ?_
  refine qD rfl ⟨⟩ ?_
  rintro wR4 ⟨SR4, _⟩
  refine lP0 rfl ⟨by omega,⟨⟩⟩ ⟨μk - 1, by omega, rfl, (k + 1), (by omega), (by omega), SR4, rfl⟩
 exact lT rfl ⟨⟩ rfl ⟨rfl, S.fin⟩
theorem F3b (M : List Nat) (w0 : World) (v vf : Value) (l : List Int) (q : Int → Bool) (hR : RdI M w0 v l) (hp : i2a Tryz.prog M w0 vf q) :
 M0a Tryz.prog 160 #[v, vf] w0 fun v w' => (∃ n, v = .int .i64 n ∧ (0 ≤ n ↔ l.any q = true)) ∧ Below w0.heap.size w0 w' := by
 obtain ⟨A, n, c, rfl⟩ := hR.form
 obtain ⟨_, _, _⟩ := hR.len
 have S := St.refl w0
 refine a0a Tryz.func160 rfl Tryz.ntmps160 rfl ?_
 refine wC0 rfl ⟨⟩ (wL (fun μk D ε w => D = [] ∧ ∃ k : Nat, (k + μk = (l.length)) ∧ (u1a (l) k (fun x => q x = false)) ∧ St [] w0 w [] ∧ Sl ε [(0, .slice A n c), (1, vf), (7, .int .i64 n), (8, .int .i64 k)]) (μ := (l.length)) ⟨rfl, 0, by omega, u1a.zero, S, rfl⟩ ?_)
 rintro μk D ε w ⟨rfl, k, _, ha, S, eZ⟩
 refine wK eZ (wB0 rfl ⟨⟩ (fun h9 => ?_) fun h9 => ?_)
 ·refine lOn 16 S.k [] rfl ⟨⟩ (m1a (by conv => lhs; whnf) rfl ?_)
  obtain ⟨x, b14, p14, _, hxx, hA14, _, _, hc14, hr14⟩ := RdS.get (hR) (k) (by omega)
  obtain ⟨rfl, i114⟩ := id hr14
  refine lO (S.k.a hc14) [.x b14 p14,.f 0 0] rfl ⟨rfl,⟨hA14,by omega⟩,⟨⟩⟩ (C1b S (hp.keep (S.keep0 M)) rfl rfl (i114) rfl (fun h16 w16 S16 X16 => ?_) (fun h16 w16 S16 X16 => ?_))
  ·exact lT rfl ⟨⟩ rfl ⟨⟨_, rfl, ⟨fun _ => List.any_eq_true.2 ⟨x, c0a hxx, h16⟩, fun _ => by omega⟩⟩, S16.fin⟩
  refine lP0 rfl ⟨by omega,⟨⟩⟩ ⟨μk - 1, by omega, rfl, (k + 1), (by omega), (ha.succ hxx (h16)), S16, rfl⟩
 refine lT rfl ⟨⟩ rfl ?_
 refine ⟨⟨_, rfl, ⟨fun h => by omega, fun h => ?_⟩⟩, S.fin⟩; obtain ⟨x, h1, h2⟩ := List.any_eq_true.1 h; rw [ha.all (by omega) x h1] at h2; cases h2
theorem I9a (M : List Nat) (w0 : World) (v vf : Value) (l : List Int) (q : Int → Bool) (hR : RdI M w0 v l) (hp : i2a Tryz.prog M w0 vf q) :
 M0a Tryz.prog 151 #[v, vf] w0 fun v w' => v = .bool (l.any q) ∧ Below w0.heap.size w0 w' := by
 obtain ⟨_, _, _, rfl⟩ := hR.form
 have S := St.refl w0
 refine a0a Tryz.func151 rfl Tryz.ntmps151 rfl ?_
 refine wOn 8 S.k [] rfl ⟨⟩ (m1a (by conv => lhs; whnf) rfl ?_)
 refine B0a S J4c rfl rfl (F3b M _ _ _ l q (hR.keep (S.keep0 M)) (hp.keep (S.keep0 M))) ?_
 rintro v7 w7 ⟨_, rfl, hm⟩ S7 X7
 refine lB0 rfl ⟨⟩ (fun h8 => ?_) fun h8 => ?_
 ·refine lR0 rfl ⟨⟩ (r0a rfl (by conv => lhs; whnf) ?_)
  exact ⟨by rw [hm.1 (by omega)], S7.fin⟩
 refine lT rfl ⟨⟩ rfl ?_
 refine ⟨congrArg Value.bool ?_, S7.fin⟩; cases hq : l.any q with | false => rfl | true => exact absurd (hm.2 hq) (by omega)
theorem f7b (g : Nat) (c : Int) (M : List Nat) (w0 : World) (vf : Value) (q : Int → Bool) (hc : w0.cell? ⟨g, 0, none⟩ = some vf) (hp : i2a Tryz.prog M w0 vf q) (hi : i64 c) :
 M0a Tryz.prog 152 #[.int .i64 c, .pointer (some ⟨g, 0, none⟩)] w0 fun v w' => v = .bool (!q c) ∧ Below w0.heap.size w0 w' := by
 have S := St.refl w0
 refine a0a Tryz.func152 rfl Tryz.ntmps152 rfl ?_
 refine wO0 rfl ⟨⟩ (s0a q9a rfl (by first | exact S.old hc) rfl ?_)
 refine lO0 rfl ⟨⟩ (C1b S (hp.keep (S.keep0 M)) rfl rfl (hi) rfl (fun h6 w6 S6 X6 => ?_) (fun h6 w6 S6 X6 => ?_))
 ·refine lR0 rfl ⟨⟩ (r0a rfl (by conv => lhs; whnf) ?_)
  exact ⟨by rw [h6], S6.fin⟩
 refine lR0 rfl ⟨⟩ (r0a rfl (by conv => lhs; whnf) ?_)
 exact ⟨by rw [h6], S6.fin⟩
theorem U0a {M : List Nat} {w : World} {g : Nat} (hM : ∀ g ∈ M, g < w.heap.size) (h : w.heap.size ≤ g ∨ g ∈ ([] : List Nat)) : g ∉ M := fun hh => by
 rcases h with h | h
 ·have := hM g hh; omega
 ·cases h
theorem y5a (M : List Nat) (w0 : World) (v vf : Value) (l : List Int) (q : Int → Bool) (hR : RdI M w0 v l) (hp : i2a Tryz.prog M w0 vf q) (hM : ∀ g ∈ M, g < w0.heap.size) :
 M0a Tryz.prog 125 #[v, vf] w0 fun v w' => v = .bool (l.all q) ∧ Below w0.heap.size w0 w' := by
 obtain ⟨_, _, c, rfl⟩ := hR.form
 obtain ⟨_, _, _, rfl, _, _⟩ := id hp
 have S := St.refl w0
 refine a0a Tryz.func125 rfl Tryz.ntmps125 rfl ?_
 refine wO0 rfl ⟨⟩ (s6a S (v := .func _ _ _) rfl rfl rfl ?_)
 intro g3 w3 S3 X3 G3
 refine lO0 rfl ⟨⟩ (E1a rfl rfl ?_)
 refine y0a S3 y6c rfl rfl (I9a M _ _ _ l (fun c => !q c) (hR.keep (S3.keep0 M)) ⟨152, #[], _, rfl, K5c, fun w' hk c hc => f7b g3 c M w' _ q (hk.cell (a := ⟨g3, 0, none⟩) (U0a hM (S3.new 0 rfl)) (S3.cell 0 rfl rfl)) (hp.keep ((S3.keep0 M).trans hk)) hc⟩) (fun h7 w7 S7 X7 => ?_) (fun h7 w7 S7 X7 => ?_)
 ·refine lT rfl ⟨⟩ rfl ⟨congrArg Value.bool ?_, S7.fin⟩
  have h8 : l.all q = !(l.any fun c => !q c) := by simp [List.all_eq_not_any_not]
  rw [h8, h7] <;> rfl
 refine lT rfl ⟨⟩ rfl ⟨congrArg Value.bool ?_, S7.fin⟩
 have h8 : l.all q = !(l.any fun c => !q c) := by simp [List.all_eq_not_any_not]
 rw [h8, h7] <;> rfl
theorem P4a (p : f0a) (M : List Nat) (w0 : World) (cs : List Value) (c : Int) (hP : j1a M w0 p cs) :
 M0a Tryz.prog 123 #[.agg cs.toArray, .int .i64 c] w0 fun v w' => v = .bool (shQ p c) ∧ Below w0.heap.size w0 w' := by
 obtain ⟨_, _, _, _, _, _, _, _, _, _, _, _, rfl, hC, _, _, _, _, _, _, _, _, _, _, _⟩ := hP.open_
 have S := St.refl w0
 refine a0a Tryz.func123 rfl Tryz.ntmps123 rfl ?_
 refine wO0 rfl ⟨⟩ (j0a S (by conv => lhs; whnf) rfl ?_)
 intro g2 w2 S2 X2 G2
 refine lO S2.k [.o 0] rfl ⟨rfl,⟨⟩⟩ (y0a S2 S2a rfl rfl (f2a _ _ _) (fun h10 w10 S10 X10 => ?_) (fun h10 w10 S10 X10 => ?_))
 ·have h11 := of_decide_eq_true h10
  obtain ⟨x, b16, p16, _, hxx, hA16, _, _, hc16, hr16⟩ := RdS.get (hC) (c.toNat) (by omega)
  obtain ⟨rfl, _, _, _, _⟩ := Z2a.open_ hr16
  refine lB (S10.k.a hc16) [.o 0,.x b16 p16,.f 0 3] rfl ⟨rfl,⟨hA16,by omega⟩,rfl,⟨⟩⟩ (fun h19 => ?_) fun h19 => ?_
  ·refine lT rfl ⟨⟩ rfl ⟨congrArg Value.bool ?_, S10.fin⟩
   unfold shQ
   rw [decide_eq_true]; exact ⟨by omega, by rw [f1a hxx]; omega⟩
  refine lT rfl ⟨⟩ rfl ⟨congrArg Value.bool ?_, S10.fin⟩
  unfold shQ
  rw [decide_eq_false]; intro hh; rw [f1a hxx] at hh; omega
 refine lT rfl ⟨⟩ rfl ⟨congrArg Value.bool ?_, S10.fin⟩
 unfold shQ
 rw [decide_eq_false]; intro hh; have := of_decide_eq_false h10; omega
theorem u3a {p : f0a} {M : List Nat} {w : World} {cs : List Value} (hP : j1a M w p cs) : i2a Tryz.prog M w (.func (.func 123) #[.agg cs.toArray] #[]) (shQ p) :=
 ⟨_, _, _, rfl, O9a, fun w' hk c _ => P4a p M w' cs c (hP.keep hk)⟩
theorem V5c (p : f0a) (t c : Int) (g g' : Nat) (M : List Nat) (w0 : World) (cs : List Value) (hP : j1a M w0 p cs) (hg : k1a w0 g 0 cs) (hg' : w0.cell? ⟨g', 0, none⟩ = some (.int .i64 t)) :
 M0a Tryz.prog 161 #[.int .i64 c, .pointer (some ⟨g, 0, none⟩), .pointer (some ⟨g', 0, none⟩)] w0 fun v w' => v = .bool (J8a p t c) ∧ Below w0.heap.size w0 w' := by
 obtain ⟨_, _, _, _, _, _, _, _, _, _, _, _, rfl, hC, _, _, _, _, _, _, _, _, _, _, _⟩ := hP.open_
 have S := St.refl w0
 refine a0a Tryz.func161 rfl Tryz.ntmps161 rfl ?_
 refine wC0 rfl ⟨⟩ (D0a b0a [0, 1, 2, 3, 4, 5, 6, 7, 8, 9, 10, 11, 12, 13, 14, 15, 16, 17] [] [] (by kernel_rfl) rfl (Cl _ _ _ _) (Cl.start S) ?_)
 refine qO0 rfl ⟨⟩ (h0a H9a rfl (fun w1 hw => by exact hw.1.old (hg _ _ rfl)) rfl ?_)
 refine qO0 rfl ⟨⟩ (W1a S2a rfl rfl (fun w1 S1 X1 => f2a _ _ _) (fun h10 => ?_) fun h10 => ?_)
 ·refine qO0 rfl ⟨⟩ (h0a H9a rfl (fun w1 hw => by exact hw.1.old (hg _ _ rfl)) rfl ?_)
  have h11 := of_decide_eq_true h10
  obtain ⟨x, b16, p16, _, hxx, hA16, _, _, hc16, hr16⟩ := RdS.get (hC) (c.toNat) (by omega)
  obtain ⟨rfl, _, _, _, _⟩ := Z2a.open_ hr16
  refine qO (S.q.a hc16) [.x b16 p16,.f 0 3] rfl ⟨rfl,⟨hA16,by omega⟩,⟨⟩⟩ (h0a C0a rfl (fun w1 hw => by exact hw.1.old hg') rfl ?_)
  refine qB0 rfl ⟨⟩ (fun h20 => ?_) fun h20 => ?_
  ·refine qD rfl ⟨⟩ ?_
   rintro wR1 ⟨SR1, XR1⟩
   refine lT rfl ⟨⟩ rfl ⟨congrArg Value.bool ?_, SR1.fin⟩
   unfold J8a
   rw [decide_eq_true]; exact ⟨by omega, by rw [f1a hxx]; omega⟩
  refine qD rfl ⟨⟩ ?_
  rintro wR1 ⟨SR1, XR1⟩
  refine lT rfl ⟨⟩ rfl ⟨congrArg Value.bool ?_, SR1.fin⟩
  unfold J8a
  rw [decide_eq_false]; intro hh; rw [f1a hxx] at hh; omega
 refine qD rfl ⟨⟩ ?_
 rintro wR1 ⟨SR1, XR1⟩
 refine lT rfl ⟨⟩ rfl ⟨congrArg Value.bool ?_, SR1.fin⟩
 unfold J8a
 rw [decide_eq_false]; intro hh; have := of_decide_eq_false h10; omega
theorem p1b (p : f0a) (t : Int) (M : List Nat) (w0 : World) (cs : List Value) (hP : j1a M w0 p cs) (hM : ∀ g ∈ M, g < w0.heap.size) :
 M0a Tryz.prog 153 #[.agg cs.toArray, .int .i64 t] w0 fun v w' => i2a Tryz.prog M w' v (J8a p t) ∧ Below w0.heap.size w0 w' := by
 obtain ⟨_, _, _, _, _, _, _, _, _, _, _, _, rfl, _, _, _, _, _, _, _, _, _, _, _, _⟩ := hP.open_
 have S := St.refl w0
 refine a0a Tryz.func153 rfl Tryz.ntmps153 rfl ?_
 refine wO0 rfl ⟨⟩ (j0a S (by conv => lhs; whnf) rfl ?_)
 intro g2 w2 S2 X2 G2
 refine s6a S2 (v := .int .i64 _) rfl rfl rfl ?_
 intro g3 w3 S3 X3 G3
 refine lO0 rfl ⟨⟩ (E1a rfl rfl ?_)
 exact lT rfl ⟨⟩ rfl ⟨⟨_, _, _, rfl, y5c, fun w' hk c _ => V5c p t c g2 g3 M w' _ (hP.keep ((S3.keep0 M).trans hk)) ((S3.cells 1 rfl).keep hk (U0a hM (S3.new 1 rfl))) (hk.cell (a := ⟨g3, 0, none⟩) (U0a hM (S3.new 0 rfl)) (S3.cell 0 rfl rfl))⟩, S3.fin⟩
theorem T4b (p : f0a) (t c : Int) (g g' : Nat) (M : List Nat) (w0 : World) (cs : List Value) (vf : Value) (hP : j1a M w0 p cs) (hg : k1a w0 g 0 cs) (hg' : w0.cell? ⟨g', 0, none⟩ = some vf) (hp : i2a Tryz.prog M w0 vf (J8a p t)) (hc : i64 c) :
 M0a Tryz.prog 154 #[.int .i64 c, .pointer (some ⟨g, 0, none⟩), .pointer (some ⟨g', 0, none⟩)] w0 fun v w' => v = .bool (Z1b p t c) ∧ Below w0.heap.size w0 w' := by
 obtain ⟨_, _, _, _, _, _, _, _, _, _, _, _, rfl, _, _, _, _, _, _, _, _, _, _, _, _⟩ := hP.open_
 have S := St.refl w0
 refine a0a Tryz.func154 rfl Tryz.ntmps154 rfl ?_
 refine wO0 rfl ⟨⟩ ?_
 first | refine w1a X1b rfl ((fun j v hj => S.old (hg j v hj))) (by rfl) rfl ?_
 refine lO0 rfl ⟨⟩ (y0a S O9a rfl rfl (P4a p M _ _ _ (hP.keep (S.keep0 M))) (fun h7 w7 S7 X7 => ?_) (fun h7 w7 S7 X7 => ?_))
 ·refine lT rfl ⟨⟩ rfl ⟨congrArg Value.bool ?_, S7.fin⟩
  unfold Z1b
  rw [h7] <;> rfl
 refine lO0 rfl ⟨⟩ (s0a q9a rfl (by first | exact S7.old hg') rfl ?_)
 refine lO0 rfl ⟨⟩ (C1b S7 (hp.keep (S7.keep0 M)) rfl rfl (hc) rfl (fun h11 w11 S11 X11 => ?_) (fun h11 w11 S11 X11 => ?_))
 ·refine lT rfl ⟨⟩ rfl ⟨congrArg Value.bool ?_, S11.fin⟩
  unfold Z1b
  rw [h7, h11] <;> rfl
 refine lT rfl ⟨⟩ rfl ⟨congrArg Value.bool ?_, S11.fin⟩
 unfold Z1b
 rw [h7, h11] <;> rfl
theorem A6a (p : f0a) (t : Int) (M : List Nat) (w0 : World) (cs : List Value) (hP : j1a M w0 p cs) (hM : ∀ g ∈ M, g < w0.heap.size) :
 M0a Tryz.prog 127 #[.agg cs.toArray, .int .i64 t] w0 fun v w' => i2a Tryz.prog M w' v (Z1b p t) ∧ Below w0.heap.size w0 w' := by
 obtain ⟨_, _, _, _, _, _, _, _, _, _, _, _, rfl, _, _, _, _, _, _, _, _, _, _, _, _⟩ := hP.open_
 have S := St.refl w0
 refine a0a Tryz.func127 rfl Tryz.ntmps127 rfl ?_
 refine wO0 rfl ⟨⟩ (j0a S (by conv => lhs; whnf) rfl ?_)
 intro g2 w2 S2 X2 G2
 refine lO S2.k [.w 0] rfl ⟨⟨rfl,by rfl⟩,⟨⟩⟩ ?_
 refine B0a S2 W1b rfl rfl (p1b p t M _ _ (hP.keep (S2.keep0 M)) (fun g hg => by have := hM g hg; have := S2.size; omega)) ?_
 rintro v8 w8 hp8 S8 X8
 obtain ⟨_, _, _, rfl, _, _⟩ := id hp8
 refine n0a S8 q3c rfl rfl ?_
 intro g5 w5 S5 X5 G5
 refine I0a (kk := 0) S5 v3c rfl (by conv => lhs; whnf) rfl rfl (by exact Nat.le_of_ble_eq_true rfl) ?_
 intro w1_4 S1_4 X1_4
 refine lO0 rfl ⟨⟩ (E1a rfl rfl ?_)
 exact lT rfl ⟨⟩ rfl ⟨⟨_, _, _, rfl, n5c, fun w' hk c hc => T4b p t c g2 g5 M w' _ _ (hP.keep ((S1_4.keep0 M).trans hk)) ((S1_4.cells 1 rfl).keep hk (U0a hM (S1_4.new 1 rfl))) (hk.cell (a := ⟨g5, 0, none⟩) (U0a hM (S1_4.new 0 rfl)) (S1_4.cell 0 rfl rfl)) (hp8.keep ((w0a.fresh X5 X1_4 G5).of_nil.trans hk)) hc⟩, S1_4.fin⟩
theorem e6a (e : E) (M : List Nat) (w0 : World) (es : List Value) (vf : Value) (q : Int → Bool) (hR : RdE M w0 e es) (hp : i2a Tryz.prog M w0 vf q) (hK : a3a M w0) (hM : ∀ g ∈ M, g < w0.heap.size) :
 M0a Tryz.prog 130 #[.agg es.toArray, vf] w0 fun v w' => v = .bool (X2a e q) ∧ Below w0.heap.size w0 w' := by
 obtain ⟨_, _, _, rfl, _, _, _, _, _⟩ := hR.cells
 obtain ⟨_, _, _, rfl, _, _⟩ := id hp
 have S := St.refl w0
 have hM' : ∀ w' : World, w0.heap.size ≤ w'.heap.size → ∀ g ∈ M, g < w'.heap.size := fun w' h g hg => by have := hM g hg; omega
 refine a0a Tryz.func130 rfl Tryz.ntmps130 rfl ?_
 refine wO0 rfl ⟨⟩ (j0a S (by conv => lhs; whnf) rfl ?_)
 intro g2 w2 S2 X2 G2
 refine lO S2.k [.w 0] rfl ⟨⟨rfl,by rfl⟩,⟨⟩⟩ (B0a S2 Q4c rfl rfl (C2b e M _ _ (RdE.keep (S2.keep0 M) _ _ hR) (hK.keep (S2.keep0 M)) (hM' _ S2.size)) ?_)
 rintro v9 w9 ⟨_, _, rfl, ra, rb⟩ S9 X9
 obtain ⟨_, _, _, rfl⟩ := ra.form
 obtain ⟨_, _, _, rfl⟩ := rb.form
 refine lOn 10 S9.k [] rfl ⟨⟩ (m1a (by conv => lhs; whnf) rfl ?_)
 refine y0a S9 T7a rfl rfl (y5a M _ _ _ _ q ra (hp.keep (S9.keep0 M)) (hM' _ S9.size)) (fun h14 w14 S14 X14 => ?_) (fun h14 w14 S14 X14 => ?_)
 ·replace ra := ra.keep (X14.of_nil)
  replace rb := rb.keep (X14.of_nil)
  refine lOn 2 S14.k [] rfl ⟨⟩ (V3b rfl rfl rfl ?_)
  refine m1a (by conv => lhs; whnf) rfl ?_
  refine lO0 rfl ⟨⟩ (y0a S14 T7a rfl rfl (y5a M _ _ _ _ q rb (hp.keep (S14.keep0 M)) (hM' _ S14.size)) (fun h18 w18 S18 X18 => ?_) (fun h18 w18 S18 X18 => ?_))
  ·replace ra := ra.keep (X18.of_nil)
   refine lT rfl ⟨⟩ rfl ⟨congrArg Value.bool ?_, S18.fin⟩
   unfold X2a
   rw [h14, h18] <;> rfl
  refine lT rfl ⟨⟩ rfl ⟨congrArg Value.bool ?_, S18.fin⟩
  unfold X2a
  rw [h14, h18] <;> rfl
 refine lT rfl ⟨⟩ rfl ⟨congrArg Value.bool ?_, S14.fin⟩
 unfold X2a
 rw [h14] <;> rfl
theorem r9a (p : f0a) (e : E) (M : List Nat) (w0 : World) (cs es : List Value) (pair : Bool) (vf : Value) (q : Int → Bool) (hP : j1a M w0 p cs) (hR : RdE M w0 e es) (hp : i2a Tryz.prog M w0 vf q) (hK : a3a M w0) (hM : ∀ g ∈ M, g < w0.heap.size)
 (hw : e.w = 1) (hv : e.valid p.cells pair = true) (hs : X2a e q = true) :
 M0a Tryz.prog 122 #[.agg cs.toArray, .agg es.toArray, .bool pair, vf] w0 fun v w' => v = .bool true ∧ Below w0.heap.size w0 w' := by
 obtain ⟨_, _, _, _, _, _, _, _, _, _, _, _, rfl, hC, _, _, _, _, _, _, _, _, _, _, _⟩ := hP.open_
 obtain ⟨_, _, _, rfl, _, _, _, _, _⟩ := hR.cells
 obtain ⟨_, _, _, rfl, _, _⟩ := id hp
 have S := St.refl w0
 have hM' : ∀ w' : World, w0.heap.size ≤ w'.heap.size → ∀ g ∈ M, g < w'.heap.size := fun w' h g hg => by have := hM g hg; omega
 refine a0a Tryz.func122 rfl Tryz.ntmps122 rfl ?_
 refine wO0 rfl ⟨⟩ (j0a S (by conv => lhs; whnf) rfl ?_)
 intro g4 w4 S4 X4 G4
 refine j0a S4 (by conv => lhs; whnf) rfl ?_
 intro g5 w5 S5 X5 G5
 refine lB S5.k [.o 0] rfl ⟨rfl,⟨⟩⟩ (fun h11 => ?_) (fun h11 => by exfalso; omega)
 refine lO S5.k [.w 0,.o 1] rfl ⟨rfl,⟨rfl,by rfl⟩,⟨⟩⟩ (g0a S5 p7a rfl rfl (hv ▸ I2a e M _ _ _ p.cells pair (RdE.keep (S5.keep0 M) _ _ hR) (hC.keep (S5.keep0 M)) (hK.keep (S5.keep0 M))) ?_)
 intro w18 S18 X18
 refine lOn 3 S18.k [.w 0] rfl ⟨⟨rfl,by rfl⟩,⟨⟩⟩ (V3b rfl rfl rfl ?_)
 refine m1a (by conv => lhs; whnf) rfl ?_
 refine lO0 rfl ⟨⟩ (g0a S18 b8a rfl rfl (hs ▸ e6a e M _ _ _ q (RdE.keep (S18.keep0 M) _ _ hR) (hp.keep (S18.keep0 M)) (hK.keep (S18.keep0 M)) (hM' _ S18.size)) ?_)
 intro w23 S23 X23
 exact lT rfl ⟨⟩ rfl ⟨rfl, S23.fin⟩
theorem x5a (p : f0a) (M : List Nat) (w0 : World) (cs : List Value) (c : Int) (hP : j1a M w0 p cs) (h0 : 0 ≤ c) (h1 : c < p.cells.length) :
 M0a Tryz.prog 174 #[.agg cs.toArray, .int .i64 c] w0 fun v w' => v = .bool (Q0b p.cells c) ∧ Below w0.heap.size w0 w' := by
 obtain ⟨_, _, _, _, _, _, _, _, _, _, _, _, rfl, hC, _, _, _, _, _, _, _, _, _, _, _⟩ := hP.open_
 have S := St.refl w0
 refine a0a Tryz.func174 rfl Tryz.ntmps174 rfl ?_
 refine wO0 rfl ⟨⟩ (j0a S (by conv => lhs; whnf) rfl ?_)
 intro g2 w2 S2 X2 G2
 obtain ⟨x, b9, p9, _, hxx, hA9, _, _, hc9, hr9⟩ := RdS.get (hC) (c.toNat) (by omega)
 obtain ⟨rfl, _, _, _, _⟩ := Z2a.open_ hr9
 refine lR (S2.k.a hc9) [.o 0,.x b9 p9,.f 0 4] rfl ⟨rfl,⟨hA9,by omega⟩,rfl,⟨⟩⟩ (r0a rfl (by conv => lhs; whnf) ?_)
 exact ⟨by rw [C2a hxx], S2.fin⟩
theorem Y4a (n : Nat) : N4a n = ((2 ^ n : Nat) : Int) := by
 induction n with
 | zero => rfl
 | succ n ih => simp only [N4a, ih, Nat.pow_succ]; omega
theorem B6b (a : Int) (h0 : 0 ≤ a) (h1 : a < 9223372036854775808) : IntKind.i64.wrap a = a := by
 unfold IntKind.wrap
 have hm : a % (2 ^ IntKind.i64.bits : Int) = a := Int.emod_eq_of_lt h0 (by simp [IntKind.bits]; omega)
 simp only [hm]
 rw [if_neg]
 simp [IntKind.bits, IntKind.signed]; omega
theorem v9a (a : Int) (n : Nat) (hn : n ≤ 62) : D4b a (N4a n - 1) = a % N4a n := by
 have h2 : (2 : Nat) ^ n ≤ 2 ^ 62 := Nat.pow_le_pow_right (by omega) hn
 have hpos : 0 < (2 : Nat) ^ n := Nat.pow_pos (by omega)
 rw [Y4a]
 have e1 : (((2 ^ n : Nat) : Int) - 1) = ((2 ^ n - 1 : Nat) : Int) := by omega
 have key : (BitVec.ofInt 64 a &&& BitVec.ofInt 64 (((2 ^ n : Nat) : Int) - 1)).toNat = (a % ((2 ^ n : Nat) : Int)).toNat := by
  rw [BitVec.toNat_and, e1, BitVec.ofInt_natCast, BitVec.toNat_ofNat, BitVec.toNat_ofInt]
  rw [Nat.mod_eq_of_lt (show 2 ^ n - 1 < 2 ^ 64 by omega), Nat.and_two_pow_sub_one_eq_mod]
  have hd : ((2 ^ n : Nat) : Int) ∣ ((2 ^ 64 : Nat) : Int) := Int.natCast_dvd_natCast.2 (Nat.pow_dvd_pow 2 (by omega))
  have h64 : 0 ≤ a % ((2 ^ 64 : Nat) : Int) := Int.emod_nonneg _ (by decide)
  have hn0 : 0 ≤ a % ((2 ^ n : Nat) : Int) := Int.emod_nonneg _ (by omega)
  have : (((a % ((2 ^ 64 : Nat) : Int)).toNat % 2 ^ n : Nat) : Int) = ((a % ((2 ^ n : Nat) : Int)).toNat : Int) := by
   rw [Int.natCast_emod, Int.toNat_of_nonneg h64, Int.toNat_of_nonneg hn0, Int.emod_emod_of_dvd _ hd]
  omega
 have hb : D4b a (((2 ^ n : Nat) : Int) - 1) = IntKind.i64.wrap ((BitVec.ofInt 64 a &&& BitVec.ofInt 64 (((2 ^ n : Nat) : Int) - 1)).toNat : Int) := rfl
 rw [hb, key]
 have hn0 : 0 ≤ a % ((2 ^ n : Nat) : Int) := Int.emod_nonneg _ (by omega)
 have hn1 : a % ((2 ^ n : Nat) : Int) < ((2 ^ n : Nat) : Int) := Int.emod_lt_of_pos _ (by omega)
 rw [Int.toNat_of_nonneg hn0]
 exact B6b _ hn0 (by omega)
theorem b1a.thread {p : f0a} (hp : b1a p) {k : Nat} {x : Q0a} (hx : p.threads[k]? = some x) : g6a p k x := by
 obtain ⟨h, rfl⟩ := List.getElem?_eq_some_iff.1 hx
 exact hp.threads k h
theorem a2c {a : Int} (h0 : 0 ≤ a) (h1 : a < 18446744073709551616) : IntKind.u64.wrap a = a := by
 unfold IntKind.wrap
 have hm : a % (2 ^ IntKind.u64.bits : Int) = a := Int.emod_eq_of_lt h0 (by simp [IntKind.bits]; omega)
 simp only [hm]
 rw [if_neg]
 simp [IntKind.bits, IntKind.signed]
def u4a (l : List Value) : List (Value × Value) := l.map fun x => (x, .agg #[])
theorem F7a (l : List Value) (x : Value) : u4a (l ++ [x]) = u4a l ++ [(x, .agg #[])] := by simp [u4a]
theorem Q4a {l : List Value} {x : Value} (h : x ∉ l) : ∀ y ∈ u4a l, y.1 ≠ x := fun y hy e => by
 obtain ⟨_, hz, rfl⟩ := List.mem_map.1 hy
 simp only at e
 subst e
 exact h hz
theorem X3a {α : Type} {l : List α} {k : Nat} {x : α} {f : α → Value} (hp : l.Pairwise fun a b => f a ≠ f b) (hx : l[k]? = some x) : f x ∉ (l.take k).map f := fun hm => by
 obtain ⟨_, hy, he⟩ := List.mem_map.1 hm
 obtain ⟨j, _, rfl⟩ := List.mem_take_iff_getElem.1 hy
 obtain ⟨hk, rfl⟩ := List.getElem?_eq_some_iff.1 hx
 exact (List.pairwise_iff_getElem.1 hp) j k _ hk (by omega) he
theorem P6b (p : f0a) (M : List Nat) (w0 : World) (cs : List Value) (hP : j1a M w0 p cs) (hp : b1a p) :
 M0a Tryz.prog 96 #[.agg cs.toArray] w0 fun v w' => v = .tuple #[.int .i64 0, .int .i64 (-1)] ∧ Below w0.heap.size w0 w' := by
 obtain ⟨Ac, nc, cc, Am, nm, cm, Al, nl, cl, At, nt, ct, rfl, _, _, _, hTh, _, _, _, _, _, _, _, _⟩ := hP.open_
 have S := St.refl w0
 have q1 := hp.ncells
 have q2 := hp.nmodules
 have q3 := hp.nlocks
 have q4 := hp.nthreads
 refine a0a Tryz.func96 rfl Tryz.ntmps96 rfl ?_
 refine wO0 rfl ⟨⟩ (j0a S (by conv => lhs; whnf) rfl ?_)
 intro g1 w1 S1 X1 G1
 refine lO S1.k [.w 0] rfl ⟨⟨rfl,rfl⟩,⟨⟩⟩ (n0a S1 G5c rfl rfl ?_)
 intro g4 w4 S4 X4 G4
 refine e0a (kk := 0) (vs := [_, _, _, _]) S4 u6c rfl rfl rfl rfl rfl rfl rfl ?_
 intro w1_3 S1_3 X1_3
 dsimp only [k0a, List.set] at S1_3
 refine lB S1_3.k [.o 0] rfl ⟨rfl,⟨⟩⟩ (fun h12 => by exfalso; omega) fun h12 => ?_
 refine lB S1_3.k [.o 0] rfl ⟨rfl,⟨⟩⟩ (fun h17 => by exfalso; omega) fun h17 => ?_
 refine lB S1_3.k [.o 0] rfl ⟨rfl,⟨⟩⟩ (fun h23 => by exfalso; omega) fun h23 => ?_
 refine lB S1_3.k [.o 0] rfl ⟨rfl,⟨⟩⟩ (fun h29 => by exfalso; omega) fun h29 => ?_
 refine lC S1_3.k [.o 0] rfl ⟨rfl,⟨⟩⟩ (wL (fun μk D ε w => D = [] ∧ ∃ k : Nat, (k + μk = (p.threads.length)) ∧ St [] w0 w [(some g4, 27, [.slice Ac nc cc, .slice Am nm cm, .slice Al nl cl, .slice At nt ct]), (some g1, 154, [.slice Ac nc cc, .slice Am nm cm, .slice Al nl cl, .slice At nt ct])] ∧ Sl ε [(32, .slice At nt ct), (33, .int .i64 nt), (34, .int .i64 k)]) (μ := (p.threads.length)) ⟨rfl, 0, by omega, S1_3, rfl⟩ ?_)
 rintro μk D ε w ⟨rfl, k, _, S, eZ⟩
 refine wK eZ (wB0 rfl ⟨⟩ (fun h35 => ?_) fun h35 => ?_)
 ·obtain ⟨x, b37, p37, _, hxx, hA37, _, hl37, hc37, hr37⟩ := RdS.get (hTh) (k) (by omega)
  obtain ⟨_, _, _, _, _, _, _, _, _, _, _, _, rfl, _, _, _, _, _, _, _, _, _, _, _, _, _⟩ := N0a.open_ hr37
  have hx1 := hp.thread hxx
  have q5 := hx1.points
  have q6 := hx1.nsteps
  have q7 := hx1.nloops
  refine lO (S.k.a hc37) [.x b37 p37,.v 0] rfl ⟨⟨rfl,hl37⟩,⟨hA37,by omega⟩,⟨⟩⟩ (n0a S b3b rfl rfl ?_)
  intro g6 w6 S6 X6 G6
  refine lO0 rfl ⟨⟩ (e0a (kk := 0) (vs := [_, _, _, _, _, _, _]) S6 H2b rfl rfl rfl rfl rfl rfl rfl ?_)
  intro w6_5 S6_5 X6_5
  dsimp only [k0a, List.set] at S6_5
  refine lB S6_5.k [.o 0] rfl ⟨rfl,⟨⟩⟩ (fun h41 => by exfalso; omega) fun h41 => ?_
  refine lB S6_5.k [.o 0] rfl ⟨rfl,⟨⟩⟩ (fun h46 => by exfalso; omega) fun h46 => ?_
  refine lB S6_5.k [.o 0] rfl ⟨rfl,⟨⟩⟩ (fun h52 => by exfalso; omega) fun h52 => ?_
  refine lP0 rfl ⟨by omega,⟨⟩⟩ ⟨μk - 1, by omega, rfl, (k + 1), (by omega), S6_5.tail, rfl⟩
 exact lT2 rfl ⟨⟩ rfl ⟨rfl, S.fin⟩
theorem N8a (b : Nat) (l : List Value) (s : ByteArray) (w0 : World) (hm : w2a Tryz.prog 9 w0 b (u4a l)) (hs : s.size ≤ 140737488355328) (hnew : Value.string s ∉ l) :
 M0a Tryz.prog 120 #[.map (some b), .string s] w0 fun v w' => v = .bool false ∧ v0a [b] w0 w' ∧ w2a Tryz.prog 9 w' b (u4a (l ++ [.string s])) := by
 have S := St.reflM [b] w0
 have hk : keyOf Tryz.prog 9 (.string s) = some (.string s.data.toList) := Go.WideMaps.keyOf_string_mk Tryz.underlying9 (by unfold maxLen; omega)
 refine a0a Tryz.func120 rfl Tryz.ntmps120 rfl ?_
 refine wO0 rfl ⟨⟩ (B9a (Go.Maps.string_keyed Tryz.underlying9) Tryz.underlying158 v0b hm rfl rfl hk rfl (fun v hv => absurd rfl (Q4a hnew _ hv)) (fun _ => ?_))
 refine lO0 rfl ⟨⟩ (n0a S v0b rfl rfl ?_)
 intro g5 w5 S5 X5 G5
 replace hm := hm.keep X5 (List.not_mem_nil)
 first | refine e0a (kk := 0) (vs := []) S5 a8b rfl rfl rfl rfl rfl rfl rfl ?_
 intro w1_7 S1_7 X1_7
 dsimp only [k0a, List.set] at S1_7
 replace hm := hm.keep X1_7 (fun hh => by rw [List.mem_singleton] at hh; first | exact hm.ne (S5.blk 0 rfl) hh)
 refine lO0 rfl ⟨⟩ (i1a f5b (vs := []) (cs := []) rfl rfl rfl rfl ?_)
 refine e7a S1_7 (Go.Maps.string_keyed Tryz.underlying9) Tryz.underlying158 hm rfl rfl rfl hk (Q4a hnew) (.inr (by simp)) ?_
 intro wm Sm Xm Mm
 refine lT rfl ⟨⟩ rfl ?_
 exact ⟨rfl, Sm.below, by rw [F7a]; exact Mm⟩
theorem s9b (p : f0a) (M : List Nat) (w0 : World) (cs : List Value) (hP : j1a M w0 p cs) (hp : b1a p) :
 M0a Tryz.prog 97 #[.agg cs.toArray] w0 fun v w' => v = .int .i64 0 ∧ Below w0.heap.size w0 w' := by
 obtain ⟨Ac, nc, cc, Am, nm, cm, Al, nl, cl, At, nt, ct, rfl, hC, _, _, _, _, _, _, _, _, _, _, _⟩ := hP.open_
 have S := St.refl w0
 have hdis : p.cells.Pairwise fun a b => Value.string a.name ≠ .string b.name := hp.cellNames.imp fun h e => h (by injection e)
 refine a0a Tryz.func97 rfl Tryz.ntmps97 rfl ?_
 refine wO0 rfl ⟨⟩ (j0a S (by conv => lhs; whnf) rfl ?_)
 intro g1 w1 S1 X1 G1
 refine lO0 rfl ⟨⟩ (e4a (k := 9) S1 rfl ?_)
 intro g6 w6 S6 X6 G6 Mp6
 have hg6 : w0.heap.size ≤ g6 := by have := S1.size; omega
 refine lC S6.k [.o 0] rfl ⟨rfl,⟨⟩⟩ (wL (fun μk D ε w => D = [] ∧ ∃ k : Nat, (k + μk = (p.cells.length)) ∧ (w2a Tryz.prog 9 w g6 (u4a ((p.cells.take k).map fun c => .string c.name))) ∧ St [] w0 w [(some g1, 154, [.slice Ac nc cc, .slice Am nm cm, .slice Al nl cl, .slice At nt ct])] ∧ Sl ε [(1, .pointer (some ⟨g1, 0, none⟩)), (3, .map (some g6)), (9, .slice Ac nc cc), (10, .int .i64 nc), (11, .int .i64 k)]) (μ := (p.cells.length)) ⟨rfl, 0, by omega, (by simpa [u4a] using Mp6), S6, rfl⟩ ?_)
 rintro μk D ε w ⟨rfl, k, _, Mp6, S, eZ⟩
 refine wK eZ (wB0 rfl ⟨⟩ (fun h12 => ?_) fun h12 => ?_)
 ·obtain ⟨x, b13, p13, _, hxx, hA13, _, hl13, hc13, hr13⟩ := RdS.get (hC) (k) (by omega)
  obtain ⟨rfl, _, _, _, _⟩ := Z2a.open_ hr13
  have q1 := hp.cells x (c0a hxx)
  have q2 := q1.w
  have q3 := q1.init
  have q4 := q1.thread
  refine lO (S.k.a hc13) [.x b13 p13,.v 0] rfl ⟨⟨rfl,hl13⟩,⟨hA13,by omega⟩,⟨⟩⟩ (n0a S U9b rfl rfl ?_)
  intro g5 w5 S5 X5 G5
  replace Mp6 := Mp6.keep X5 (List.not_mem_nil)
  refine e0a (kk := 0) (vs := [_, _, _, _, _, _]) S5 r9b rfl rfl rfl rfl rfl rfl rfl ?_
  intro w4_3 S4_3 X4_3
  dsimp only [k0a, List.set] at S4_3
  replace Mp6 := Mp6.keep X4_3 (fun hh => by rw [List.mem_singleton] at hh; exact Mp6.ne (S5.blk 0 rfl) hh)
  refine lO S4_3.k [.o 0] rfl ⟨rfl,⟨⟩⟩ (g0a S4_3 J1b rfl rfl (r7a _ _ q1.name) ?_)
  intro w18 S18 X18
  replace Mp6 := Mp6.keep X18 (List.not_mem_nil)
  refine lB S18.k [.o 0] rfl ⟨rfl,⟨⟩⟩ (fun h22 => by exfalso; omega) fun h22 => ?_
  refine lB S18.k [.o 0] rfl ⟨rfl,⟨⟩⟩ (fun h25 => by exfalso; omega) fun h25 => ?_
  refine lO S18.k [.o 0,.o 0] rfl ⟨rfl,rfl,⟨⟩⟩ (s8b Tryz.underlying3 Tryz.underlying125 rfl rfl ?_)
  rw [a2c (by omega) (by omega), show x.w = ((x.w.toNat : Nat) : Int) by omega]
  refine R4c (n := x.w.toNat) rfl (by rfl) (by omega) rfl ?_
  refine g0a S18 S2a rfl rfl ((show decide (0 ≤ x.init ∧ x.init < ((2 ^ x.w.toNat : Nat) : Int)) = true from decide_eq_true (by rw [← Y4a]; exact q3)) ▸ f2a _ _ _) ?_
  intro w32 S32 X32
  replace Mp6 := Mp6.keep X32 (List.not_mem_nil)
  refine lB S32.k [.o 0] rfl ⟨rfl,⟨⟩⟩ (fun h37 => ?_) fun h37 => ?_
  ·refine lO S32.k [.o 0,.o 1] rfl ⟨rfl,rfl,⟨⟩⟩ (g0a S32 S2a rfl rfl ((show decide (0 ≤ x.thread ∧ x.thread < (nt : Int)) = true from decide_eq_true (by omega)) ▸ f2a _ _ _) ?_)
   intro w45 S45 X45
   replace Mp6 := Mp6.keep X45 (List.not_mem_nil)
   refine lO S45.k [.o 0,.o 1] rfl ⟨rfl,rfl,⟨⟩⟩ ?_
   refine g0a S45 S2a rfl rfl ((show decide (0 ≤ x.module_ ∧ x.module_ < (nm : Int)) = true from decide_eq_true (by have := q1.mod; unfold t2a at this; omega)) ▸ f2a _ _ _) ?_
   intro w54 S54 X54
   replace Mp6 := Mp6.keep X54 (List.not_mem_nil)
   refine lO S54.k [.o 0] rfl ⟨rfl,⟨⟩⟩ ?_
   have hnew := X3a hdis hxx
   have hsz : x.name.size ≤ 140737488355328 := by have := q1.name.2.1; omega
   refine e2a z1b rfl rfl (N8a g6 _ x.name _ Mp6 hsz hnew) ?_
   rintro v60 w60 ⟨rfl, B60, M60⟩
   have S60 := S54.turned Mp6 (.inl hg6) B60
   refine lP0 rfl ⟨by omega,⟨⟩⟩ ?_
   refine ⟨μk - 1, by omega, rfl, (k + 1), (by omega), ((by rw [J0a hxx, List.map_append]; exact M60)), S60.tail, rfl⟩
  refine lO S32.k [.o 0,.o 1] rfl ⟨rfl,rfl,⟨⟩⟩ ?_
  refine g0a S32 S2a rfl rfl ((show decide (0 ≤ x.module_ ∧ x.module_ < (nm : Int)) = true from decide_eq_true (by have := q1.mod; unfold t2a at this; omega)) ▸ f2a _ _ _) ?_
  intro w54 S54 X54
  replace Mp6 := Mp6.keep X54 (List.not_mem_nil)
  refine lO S54.k [.o 0] rfl ⟨rfl,⟨⟩⟩ ?_
  have hnew := X3a hdis hxx
  have hsz : x.name.size ≤ 140737488355328 := by have := q1.name.2.1; omega
  refine e2a z1b rfl rfl (N8a g6 _ x.name _ Mp6 hsz hnew) ?_
  rintro v60 w60 ⟨rfl, B60, M60⟩
  have S60 := S54.turned Mp6 (.inl hg6) B60
  refine lP0 rfl ⟨by omega,⟨⟩⟩ ?_
  refine ⟨μk - 1, by omega, rfl, (k + 1), (by omega), ((by rw [J0a hxx, List.map_append]; exact M60)), S60.tail, rfl⟩
 exact lT rfl ⟨⟩ rfl ⟨rfl, S.fin⟩
theorem N4b (p : f0a) (M : List Nat) (w0 : World) (cs : List Value) (hP : j1a M w0 p cs) (hp : b1a p) (hK : a3a M w0) (hM : ∀ g ∈ M, g < w0.heap.size) :
 M0a Tryz.prog 98 #[.agg cs.toArray] w0 fun v w' => v = .int .i64 0 ∧ Below w0.heap.size w0 w' := by
 obtain ⟨Ac, nc, cc, Am, nm, cm, Al, nl, cl, At, nt, ct, rfl, _, hMo, _, _, _, _, _, _, _, _, _, _⟩ := hP.open_
 have S := St.refl w0
 have hM' : ∀ w' : World, w0.heap.size ≤ w'.heap.size → ∀ g ∈ M, g < w'.heap.size := fun w' h g hg => by have := hM g hg; omega
 have hdis : p.modules.Pairwise fun a b => Value.string a.name ≠ .string b.name := hp.moduleNames.imp fun h e => h (by injection e)
 refine a0a Tryz.func98 rfl Tryz.ntmps98 rfl ?_
 refine wO0 rfl ⟨⟩ (j0a S (by conv => lhs; whnf) rfl ?_)
 intro g1 w1 S1 X1 G1
 refine lO0 rfl ⟨⟩ (e4a (k := 9) S1 rfl ?_)
 intro g6 w6 S6 X6 G6 Mp6
 have hg6 : w0.heap.size ≤ g6 := by have := S1.size; omega
 refine lC S6.k [.o 0] rfl ⟨rfl,⟨⟩⟩ (wL (fun μk D ε w => D = [] ∧ ∃ k : Nat, (k + μk = (p.modules.length)) ∧ (w2a Tryz.prog 9 w g6 (u4a ((p.modules.take k).map fun c => .string c.name))) ∧ St [] w0 w [(some g1, 154, [.slice Ac nc cc, .slice Am nm cm, .slice Al nl cl, .slice At nt ct])] ∧ Sl ε [(1, .pointer (some ⟨g1, 0, none⟩)), (3, .map (some g6)), (9, .slice Am nm cm), (10, .int .i64 nm), (11, .int .i64 k)]) (μ := (p.modules.length)) ⟨rfl, 0, by omega, (by simpa [u4a] using Mp6), S6, rfl⟩ ?_)
 rintro μk D ε w ⟨rfl, k, _, Mp6, S, eZ⟩
 refine wK eZ (wB0 rfl ⟨⟩ (fun h12 => ?_) fun h12 => ?_)
 ·obtain ⟨x, b13, p13, _, hxx, hA13, _, hl13, hc13, hr13⟩ := RdS.get (hMo) (k) (by omega)
  obtain ⟨_, _, _, _, _, _, _, _, _, rfl, hR13, hG13, hF13, _, _⟩ := v1a.open_ hr13
  have q1 := hp.modules x (c0a hxx)
  refine lO (S.k.a hc13) [.x b13 p13,.v 0] rfl ⟨⟨rfl,hl13⟩,⟨hA13,by omega⟩,⟨⟩⟩ (n0a S r8b rfl rfl ?_)
  intro g5 w5 S5 X5 G5
  replace Mp6 := Mp6.keep X5 (List.not_mem_nil)
  refine e0a (kk := 0) (vs := [_, _, _, _, _, _, _, _, _, _, _]) S5 b9b rfl rfl rfl rfl rfl rfl rfl ?_
  intro w4_3 S4_3 X4_3
  dsimp only [k0a, List.set] at S4_3
  replace Mp6 := Mp6.keep X4_3 (fun hh => by rw [List.mem_singleton] at hh; exact Mp6.ne (S5.blk 0 rfl) hh)
  refine lO S4_3.k [.o 0] rfl ⟨rfl,⟨⟩⟩ (g0a S4_3 J1b rfl rfl (r7a _ _ q1.name) ?_)
  intro w18 S18 X18
  replace Mp6 := Mp6.keep X18 (List.not_mem_nil)
  refine lO S18.k [.o 0] rfl ⟨rfl,⟨⟩⟩ (g0a S18 J1b rfl rfl (r7a _ _ q1.owner) ?_)
  intro w22 S22 X22
  replace Mp6 := Mp6.keep X22 (List.not_mem_nil)
  refine lO S22.k [.o 0] rfl ⟨rfl,⟨⟩⟩ ?_
  have hnew := X3a hdis hxx
  have hsz : x.name.size ≤ 140737488355328 := by have := q1.name.2.1; omega
  refine e2a z1b rfl rfl (N8a g6 _ x.name _ Mp6 hsz hnew) ?_
  rintro v28 w28 ⟨rfl, B28, M28⟩
  have S28 := S22.turned Mp6 (.inl hg6) B28
  clear Mp6
  have Mp6 := M28
  refine lO S28.k [.o 0] rfl ⟨rfl,⟨⟩⟩ (y0a S28 S5c rfl rfl (p7b x.rely M _ _ (RdE.keep (S28.keep0 M) _ _ hR13)) (fun h32 w32 S32 X32 => ?_) (fun h32 w32 S32 X32 => ?_))
  ·replace Mp6 := Mp6.keep X32 (List.not_mem_nil)
   refine lO S32.k [.w 1,.o 0,.w 1] rfl ⟨⟨rfl,rfl⟩,rfl,⟨rfl,rfl⟩,⟨⟩⟩ (g2a rfl rfl rfl ?_)
   refine g0a S32 y9a rfl rfl (r9a p x.guar M _ _ _ true _ (shQ p) (hP.keep (S32.keep0 M)) (RdE.keep (S32.keep0 M) _ _ hG13) (u3a (hP.keep (S32.keep0 M))) (hK.keep (S32.keep0 M)) (hM' _ S32.size) q1.guar.2.1 q1.guar.1 (o6b hp q1.guar.1 q1.guar.2.2)) ?_
   intro w48 S48 X48
   replace Mp6 := Mp6.keep X48 (List.not_mem_nil)
   refine lO S48.k [.o 0] rfl ⟨rfl,⟨⟩⟩ (g0a S48 F4b rfl rfl (k5a M _ _ _ (hF13.keep (S48.keep0 M)) q1.up) ?_)
   intro w53 S53 X53
   replace Mp6 := Mp6.keep X53 (List.not_mem_nil)
   refine lO S53.k [.o 0,.w 1] rfl ⟨⟨rfl,rfl⟩,rfl,⟨⟩⟩ (g2a rfl rfl rfl ?_)
   refine g0a S53 T7a rfl rfl ((show x.frame.all (shQ p) = true from List.all_eq_true.2 fun z hz => decide_eq_true (q1.frame z hz)) ▸ y5a M _ _ _ x.frame (shQ p) (hF13.keep (S53.keep0 M)) (u3a (hP.keep (S53.keep0 M))) (hM' _ S53.size)) ?_
   intro w59 S59 X59
   replace Mp6 := Mp6.keep X59 (List.not_mem_nil)
   refine lP0 rfl ⟨by omega,⟨⟩⟩ ?_
   refine ⟨μk - 1, by omega, rfl, (k + 1), (by omega), ((by rw [J0a hxx, List.map_append]; exact Mp6)), S59.tail, rfl⟩
  replace Mp6 := Mp6.keep X32 (List.not_mem_nil)
  refine lO S32.k [.w 1,.o 0,.w 1] rfl ⟨⟨rfl,rfl⟩,rfl,⟨rfl,rfl⟩,⟨⟩⟩ (g2a rfl rfl rfl ?_)
  refine lO0 rfl ⟨⟩ ?_
  have ht40 := q1.rely.resolve_left (G1a h32)
  refine g0a S32 y9a rfl rfl (r9a p x.rely M _ _ _ true _ (shQ p) (hP.keep (S32.keep0 M)) (RdE.keep (S32.keep0 M) _ _ hR13) (u3a (hP.keep (S32.keep0 M))) (hK.keep (S32.keep0 M)) (hM' _ S32.size) ht40.2.1 ht40.1 (o6b hp ht40.1 ht40.2.2)) ?_
  intro w40 S40 X40
  replace Mp6 := Mp6.keep X40 (List.not_mem_nil)
  refine lO S40.k [.w 1,.o 0,.w 1] rfl ⟨⟨rfl,rfl⟩,rfl,⟨rfl,rfl⟩,⟨⟩⟩ (g2a rfl rfl rfl ?_)
  refine g0a S40 y9a rfl rfl (r9a p x.guar M _ _ _ true _ (shQ p) (hP.keep (S40.keep0 M)) (RdE.keep (S40.keep0 M) _ _ hG13) (u3a (hP.keep (S40.keep0 M))) (hK.keep (S40.keep0 M)) (hM' _ S40.size) q1.guar.2.1 q1.guar.1 (o6b hp q1.guar.1 q1.guar.2.2)) ?_
  intro w48 S48 X48
  replace Mp6 := Mp6.keep X48 (List.not_mem_nil)
  refine lO S48.k [.o 0] rfl ⟨rfl,⟨⟩⟩ (g0a S48 F4b rfl rfl (k5a M _ _ _ (hF13.keep (S48.keep0 M)) q1.up) ?_)
  intro w53 S53 X53
  replace Mp6 := Mp6.keep X53 (List.not_mem_nil)
  refine lO S53.k [.o 0,.w 1] rfl ⟨⟨rfl,rfl⟩,rfl,⟨⟩⟩ (g2a rfl rfl rfl ?_)
  refine g0a S53 T7a rfl rfl ((show x.frame.all (shQ p) = true from List.all_eq_true.2 fun z hz => decide_eq_true (q1.frame z hz)) ▸ y5a M _ _ _ x.frame (shQ p) (hF13.keep (S53.keep0 M)) (u3a (hP.keep (S53.keep0 M))) (hM' _ S53.size)) ?_
  intro w59 S59 X59
  replace Mp6 := Mp6.keep X59 (List.not_mem_nil)
  refine lP0 rfl ⟨by omega,⟨⟩⟩ ?_
  refine ⟨μk - 1, by omega, rfl, (k + 1), (by omega), ((by rw [J0a hxx, List.map_append]; exact Mp6)), S59.tail, rfl⟩
 exact lT rfl ⟨⟩ rfl ⟨rfl, S.fin⟩
theorem n3c {x : Int} (h : i64 x) : keyOf Tryz.prog 3 (.int .i64 x) = some (.int .i64 x) := Go.Maps.keyOf_int_mk Tryz.underlying3 (by unfold i64 at h; simp [Lit.wf, IntKind.min, IntKind.max, IntKind.signed, IntKind.bits]; omega)
theorem W8b (p : f0a) (M : List Nat) (w0 : World) (cs : List Value) (hP : j1a M w0 p cs) (hp : b1a p) (hK : a3a M w0) (hM : ∀ g ∈ M, g < w0.heap.size) :
 M0a Tryz.prog 99 #[.agg cs.toArray] w0 fun v w' => v = .int .i64 0 ∧ Below w0.heap.size w0 w' := by
 obtain ⟨Ac, nc, cc, Am, nm, cm, Al, nl, cl, At, nt, ct, rfl, hC, _, hLk, _, _, _, _, _, _, _, _, _⟩ := hP.open_
 have S := St.refl w0
 have hM' : ∀ w' : World, w0.heap.size ≤ w'.heap.size → ∀ g ∈ M, g < w'.heap.size := fun w' h g hg => by have := hM g hg; omega
 have hdis : p.locks.Pairwise fun a b => Value.int .i64 a.cell ≠ .int .i64 b.cell := hp.lockCells.imp fun h e => h (by injection e)
 refine a0a Tryz.func99 rfl Tryz.ntmps99 rfl ?_
 refine wO0 rfl ⟨⟩ (j0a S (by conv => lhs; whnf) rfl ?_)
 intro g1 w1 S1 X1 G1
 refine lO0 rfl ⟨⟩ (e4a (k := 3) S1 rfl ?_)
 intro g8 w8 S8 X8 G8 Mp8
 have hg8 : w0.heap.size ≤ g8 := by have := S1.size; omega
 refine lC S8.k [.o 0] rfl ⟨rfl,⟨⟩⟩ (wL (fun μk D ε w => D = [] ∧ ∃ k : Nat, (k + μk = (p.locks.length)) ∧ (w2a Tryz.prog 3 w g8 (u4a ((p.locks.take k).map fun c => .int .i64 c.cell))) ∧ St [] w0 w [(some g1, 154, [.slice Ac nc cc, .slice Am nm cm, .slice Al nl cl, .slice At nt ct])] ∧ Sl ε [(1, .pointer (some ⟨g1, 0, none⟩)), (3, .map (some g8)), (11, .slice Al nl cl), (12, .int .i64 nl), (13, .int .i64 k)]) (μ := (p.locks.length)) ⟨rfl, 0, by omega, (by simpa [u4a] using Mp8), S8, rfl⟩ ?_)
 rintro μk D ε w ⟨rfl, k, _, Mp8, S, eZ⟩
 refine wK eZ (wB0 rfl ⟨⟩ (fun h14 => ?_) fun h14 => ?_)
 ·obtain ⟨x, b15, p15, _, hxx, hA15, _, hl15, hc15, hr15⟩ := RdS.get (hLk) (k) (by omega)
  obtain ⟨_, _, _, rfl, i115, _, hE15⟩ := G4a.open_ hr15
  have q1 := hp.locks x (c0a hxx)
  have q2 := q1.cell
  have q3 := q2.1
  unfold t2a at q3
  refine lO (S.k.a hc15) [.x b15 p15,.v 0] rfl ⟨⟨rfl,hl15⟩,⟨hA15,by omega⟩,⟨⟩⟩ (n0a S h8b rfl rfl ?_)
  intro g5 w5 S5 X5 G5
  replace Mp8 := Mp8.keep X5 (List.not_mem_nil)
  refine e0a (kk := 0) (vs := [_, _, _, _, _, _]) S5 V7b rfl rfl rfl rfl rfl rfl rfl ?_
  intro w4_3 S4_3 X4_3
  dsimp only [k0a, List.set] at S4_3
  replace Mp8 := Mp8.keep X4_3 (fun hh => by rw [List.mem_singleton] at hh; exact Mp8.ne (S5.blk 0 rfl) hh)
  refine lO S4_3.k [.w 1,.o 0] rfl ⟨rfl,⟨rfl,rfl⟩,⟨⟩⟩ (g0a S4_3 O9a rfl rfl ((show shQ p x.cell = true from decide_eq_true ⟨q3, q2.2.1⟩) ▸ P4a p M _ _ _ (hP.keep (S4_3.keep0 M))) ?_)
  intro w20 S20 X20
  replace Mp8 := Mp8.keep X20 (List.not_mem_nil)
  obtain ⟨c, b28, p28, _, hxc, hA28, _, _, hc28, hr28⟩ := RdS.get (hC) (x.cell.toNat) (by omega)
  obtain ⟨rfl, _, _, _, _⟩ := Z2a.open_ hr28
  have q4 := q2.2.2.1
  rw [A5a q3.1 hxc] at q4
  refine lB (S20.k.a hc28) [.o 1,.o 0,.x b28 p28,.f 0 1] rfl ⟨rfl,⟨hA28,by omega⟩,rfl,rfl,⟨⟩⟩ (fun h31 => by exfalso; omega) fun h31 => ?_
  obtain ⟨_, b39, p39, _, hx39, hA39, _, _, hc39, hr39⟩ := RdS.get (hC) (x.cell.toNat) (by omega)
  obtain rfl := Option.some.inj (hxc.symm.trans hx39)
  obtain ⟨rfl, _, _, _, _⟩ := Z2a.open_ hr39
  refine lO S20.k [.o 1,.o 0,.x b39 p39] rfl ⟨⟨hA39,by omega⟩,rfl,rfl,⟨⟩⟩ ?_
  refine s0a B2a rfl (v := .bool false) (by have h4 := S20.old (hc39 4 _ rfl); rw [← C2a hxc, q2.2.2.2] at h4; exact h4) rfl ?_
  refine lO S20.k [.o 0] rfl ⟨rfl,⟨⟩⟩ ?_
  have hk47 := n3c i115
  have hnew := X3a hdis hxx
  refine B9a (Go.Maps.int_keyed Tryz.underlying3) Tryz.underlying183 v0b Mp8 rfl rfl hk47 rfl (fun v hv => absurd rfl (Q4a hnew _ hv)) (fun _ => ?_)
  refine lO0 rfl ⟨⟩ (n0a S20 v0b rfl rfl ?_)
  intro g6 w6 S6 X6 G6
  replace Mp8 := Mp8.keep X6 (List.not_mem_nil)
  refine e0a (kk := 0) (vs := []) S6 a8b rfl rfl rfl rfl rfl rfl rfl ?_
  intro w7_8 S7_8 X7_8
  dsimp only [k0a, List.set] at S7_8
  replace Mp8 := Mp8.keep X7_8 (fun hh => by rw [List.mem_singleton] at hh; exact Mp8.ne (S6.blk 0 rfl) hh)
  refine lO S7_8.k [.o 1,.o 2] rfl ⟨rfl,rfl,⟨⟩⟩ ?_
  refine g0a S7_8 S2a rfl rfl ((show decide (0 ≤ x.module_ ∧ x.module_ < (nm : Int)) = true from decide_eq_true (by have := q1.mod; unfold t2a at this; omega)) ▸ f2a _ _ _) ?_
  intro w58 S58 X58
  replace Mp8 := Mp8.keep X58 (List.not_mem_nil)
  refine lO S58.k [.o 1] rfl ⟨rfl,⟨⟩⟩ (i1a f5b (vs := []) (cs := []) rfl rfl rfl rfl ?_)
  refine e7a (key := .int .i64 x.cell) (v := .agg #[]) S58 (Go.Maps.int_keyed Tryz.underlying3) Tryz.underlying183 Mp8 rfl rfl rfl hk47 (Q4a hnew) (.inl hg8) ?_
  intro wm Sm Xm Mm
  clear Mp8
  have Mp8 := Mm
  refine lO Sm.k [.w 2,.o 1,.w 2] rfl ⟨⟨rfl,rfl⟩,rfl,⟨rfl,rfl⟩,⟨⟩⟩ (g2a rfl rfl rfl ?_)
  refine g0a Sm y9a rfl rfl (r9a p x.inv M _ _ _ false _ (shQ p) (hP.keep (Sm.keep0 M)) (RdE.keep (Sm.keep0 M) _ _ hE15) (u3a (hP.keep (Sm.keep0 M))) (hK.keep (Sm.keep0 M)) (hM' _ Sm.size) q1.inv.2.1 q1.inv.1 (o6b hp q1.inv.1 q1.inv.2.2)) ?_
  intro w70 S70 X70
  replace Mp8 := Mp8.keep X70 (List.not_mem_nil)
  refine lP0 rfl ⟨by omega,⟨⟩⟩ ?_
  refine ⟨μk - 1, by omega, rfl, (k + 1), (by omega), ((by rw [J0a hxx, List.map_append, List.map_singleton, F7a]; exact Mp8)), S70.tail.tail, rfl⟩
 exact lT rfl ⟨⟩ rfl ⟨rfl, S.fin⟩
section
variable {P : Program} {r : Option Nat} {N : Nat} {l : List Oper} {D : List Deferred} {C : World → Prop} {K : List Deferred → Env → World → Prop}
def K2b (l : List Oper) (pur : Nat → Bool) (m : Nat) : Bool :=
 o4a l && ((List.range l.length).all fun i => (d1a l i).all fun j => decide (j < i)) && ((List.range m).all fun i => (List.range i).all fun j => (S3a l i).contains j || C8a l pur j i) && ((List.range m).all fun j => (S3a l m).contains j) && decide (l.length = m + 1)
abbrev S9c {M : List Nat} {w0 w : World} {L : List Ent} (_ : St M w0 w L) : World → Prop := Cl M w0 w L
def a7a (m : Nat) (f : Nat → Bool) : List Nat := (List.range m).filter fun i => !f i
theorem N9a {m : Nat} (f : Nat → Bool) {i : Nat} (hi : i < m) (hf : f i = false) : ∃ pre post, a7a m f = pre ++ i :: post ∧ a7a m (fun j => f j || j == i) = pre ++ post ∧ ∀ j ∈ pre, j < i ∧ f j = false := by
 have hr : List.range m = List.range i ++ i :: (List.range' (i + 1) (m - (i + 1))) := by
  have h1 : m = i + (m - i) := by omega
  have h2 : m - i = (m - (i + 1)) + 1 := by omega
  rw [List.range_eq_range', List.range_eq_range', show List.range' 0 m = List.range' 0 (i + ((m - (i + 1)) + 1)) by rw [← h2, ← h1], ← List.range'_append_1]
  simp [List.range'_succ]
 refine ⟨(List.range i).filter fun j => !f j, (List.range' (i + 1) (m - (i + 1))).filter fun j => !f j, ?_, ?_, ?_⟩
 ·unfold a7a; rw [hr, List.filter_append, List.filter_cons]; simp [hf]
 ·unfold a7a; rw [hr, List.filter_append, List.filter_cons]
  simp only [beq_self_eq_true, Bool.or_true, Bool.not_true, Bool.false_eq_true, if_false]
  congr 1
  ·apply List.filter_congr; intro j hj; have := List.mem_range.1 hj; have : (j == i) = false := by simp; omega
   simp [this]
  ·apply List.filter_congr; intro j hj; have := List.mem_range'.1 hj; have : (j == i) = false := by simp; omega
   simp [this]
 ·intro j hj; rw [List.mem_filter] at hj; exact ⟨List.mem_range.1 hj.1, by simpa using hj.2⟩
theorem K0b {id : Nat} {n t : List Deferred → Env → World → Prop} {b : Nat → List Deferred → Env → World → Prop} {e : Env} {w : World} (hm : P.follows .mixedOrders = true) (pur : Nat → Bool) (ix : List Nat)
 (m : Nat) (hok : K2b l pur m = true) (hix : (List.range m == ix) = true) (C : World → Prop) (ol : Oper) (hol : l[m]? = some ol)
 (h : WM P r N l C pur (fun D e w => WL P r N l.toArray [ol] (fun D' e' w' => D' = D ∧ n D e' w') D e w) D ix e w.drew) : W P r N (.region id l.toArray true) ⟨n, b, t⟩ D e w := by
 obtain rfl : List.range m = ix := eq_of_beq hix
 generalize hKd : (fun (D : List Deferred) (e : Env) (w : World) => WL P r N l.toArray [ol] (fun D' e' w' => D' = D ∧ n D e' w') D e w) = K' at h
 unfold K2b at hok
 simp only [Bool.and_eq_true, decide_eq_true_eq] at hok
 obtain ⟨⟨⟨⟨hpl, hac⟩, hin⟩, hlast⟩, _⟩ := hok
 have hlw : ∀ j, j < m → j ∈ S3a l m := fun j hj => by
  have := List.all_eq_true.1 hlast j (List.mem_range.2 hj)
  simpa using this
 have hz : (∀ i, N ≤ i → e i = undef) → W P r N (.region id l.toArray true) ⟨n, b, t⟩ D e w := by
  intro hz
  refine j8b hm hac (fun f e w => (∀ i, N ≤ i → e i = undef) ∧ (∀ i, f i = true → ∀ j ∈ d1a l i, f j = true) ∧ ((f m = false ∧ WM P r N l C pur K' D (a7a m f) e w) ∨ (f m = true ∧ n D e w))) ⟨hz, by simp, .inl ⟨rfl, ?_⟩⟩ ?_ ?_
  ·have : a7a m (fun _ => false) = List.range m := by unfold a7a; simp
   rw [this]; exact h
  ·rintro f e w i o ⟨hz, hcl, hM⟩ ho hfi hpr
   have hil0 : i < l.length := (List.getElem?_eq_some_iff.1 ho).1
   have hcl' : ∀ k, (f k || k == i) = true → ∀ j ∈ d1a l k, (f j || j == i) = true := by
    intro k hk j hj
    simp only [Bool.or_eq_true, beq_iff_eq] at hk ⊢
    rcases hk with hk | rfl
    ·exact .inl (hcl k hk j hj)
    ·exact .inl (hpr j hj)
   rcases hM with ⟨hfm, hM⟩ | ⟨hfm, -⟩
   rotate_left
   ·have := d3a hcl l.length (d1a l m) (hcl m hfm) i (hlw i (by
     rcases Nat.lt_or_ge i m with h | h
     ·exact h
     ·have : i = m := by omega
      subst this; rw [hfi] at hfm; cases hfm))
    rw [hfi] at this; cases this
   by_cases him : i = m
   ·subst him
    obtain rfl : ol = o := Option.some.inj (hol.symm.trans ho)
    have hall : ∀ j, j < i → f j = true := fun j hj => d3a hcl _ _ hpr j (hlw j hj)
    have hrem : a7a i f = [] := by
     unfold a7a; rw [List.filter_eq_nil_iff]; intro j hj; simp [hall j (List.mem_range.1 hj)]
    rw [hrem] at hM
    have h4 := hM.2
    rw [← hKd] at h4
    clear hM h hKd
    unfold WL at *
    refine fun a Q hs hD he hK => h4 a Q hs hD he (fun a' w' hs' hh => hK a' w' hs' ?_)
    refine ⟨hh.1, fun j hj => ?_, hcl', .inr ⟨by simp, hh.2⟩⟩
    simp only [P0a, Array.getD_eq_getD_getElem?]; rw [Array.getElem?_eq_none (by omega)]; rfl
   have hil : i < m := by omega
   have hfm' : (f m || m == i) = false := by simp [hfm]; omega
   obtain ⟨pre, _, h1, h2, h3⟩ := N9a (m := m) f hil hfi
   rw [h1] at hM
   have hwt : ∀ j ∈ S3a l i, f j = true := d3a hcl _ _ hpr
   obtain ⟨o', _, ho', hd, hN, h4⟩ := WM.first hpl pre e w (fun j hj => by
    have := List.all_eq_true.1 (List.all_eq_true.1 hin i (List.mem_range.2 hil)) j (List.mem_range.2 (h3 j hj).1)
    simp only [Bool.or_eq_true, List.contains_eq_mem, decide_eq_true_eq] at this
    rcases this with h | h
    ·have := hwt j h; rw [(h3 j hj).2] at this; cases this
    ·exact h) hz hM
   obtain rfl : o' = o := Option.some.inj (ho'.symm.trans ho)
   rcases h4 with ⟨hpi, v, hv, h4⟩ | ⟨hpi, h4⟩
   ·have hCw := hM.inC
    rcases hv with ⟨hw, hv⟩ | ⟨hw, rfl⟩
    ·unfold WL; intro a Q hs hD he hK
     simp only [wpListIn]
     have hw' : Region.wanted o' (yielded l.toArray a.tmps) = true := by rw [g1a, he]; exact hw
     simp only [hw', if_true]
     refine ⟨u0a _ _ _, ?_⟩
     rw [Oper.semAt_eq _ _ _ (z0a hpl ho).2, c2a, he, hv w hCw, Oper.uponIn_value]
     refine hK _ _ (by simp [Act.put, hd, hs]) ⟨by simp [Act.put, hd, hD], ?_⟩
     rw [hd, W0a v (by rw [hs]; exact hN), he]
     exact ⟨H1a hN hz, hcl', .inl ⟨hfm', by rw [h2]; exact h4⟩⟩
    ·unfold WL; intro a Q hs hD he hK
     simp only [wpListIn]
     have hw' : Region.wanted o' (yielded l.toArray a.tmps) = false := by rw [g1a, he]; exact hw
     simp only [hw']
     refine ⟨u0a _ _ _, ?_⟩
     refine hK _ _ (by simp [Act.put, hd, hs]) ⟨by simp [Act.put, hd, hD], ?_⟩
     rw [hd, W0a undef (by rw [hs]; exact hN), he]
     exact ⟨H1a hN hz, hcl', .inl ⟨hfm', by rw [h2]; exact h4⟩⟩
   ·unfold WL at *
    refine fun a Q hs hD he hK => h4 a Q hs hD he (fun a' w' hs' hh => hK a' w' hs' ?_)
    obtain ⟨hDD, v, hv, h5⟩ := hh
    exact ⟨hDD, by rw [hv]; exact H1a hN hz, hcl', .inl ⟨hfm', by rw [h2]; exact h5⟩⟩
  ·rintro f e w ⟨hz, hcl, hM⟩ hall
   rcases hM with ⟨hfm, -⟩ | ⟨-, hM⟩
   ·have := hall m (by omega); rw [hfm] at this; cases this
   ·exact hM
 unfold W at *
 intro a hs hd he
 refine hz (fun i hi => ?_) a hs hd he
 rw [← he]; simp only [P0a, Array.getD_eq_getD_getElem?]; rw [Array.getElem?_eq_none (by omega)]; rfl
end
theorem RdS.dropped {α : Type} {M : List Nat} {w : World} {size b o n c : Nat} {R : List Value → α → Prop} {l : List α} (h : RdS M w size R (.slice (some ⟨b, o, none⟩) n c) l) (lo : Nat) (hlo : lo ≤ n) :
 RdS M w size R (.slice (some (if c = lo then ⟨b, o, none⟩ else ⟨b, o + lo * size, none⟩)) (n - lo) (c - lo)) (l.drop lo) := by
 obtain ⟨_, _, _, _, h5⟩ := h.at
 refine ⟨_, _, _, rfl, by simp; omega, by omega, by omega, by omega, fun h0 => ?_⟩
 obtain ⟨_, _, hA, hb, hel⟩ := h5 (by omega)
 cases hA
 rw [if_neg (by omega)]
 refine ⟨b, o + lo * size, rfl, hb, fun i x hx => ?_⟩
 rw [List.getElem?_drop] at hx
 obtain ⟨cs, h6, h7, h8⟩ := hel _ x hx
 refine ⟨cs, h6, ?_, h8⟩
 rw [Nat.add_mul, ← Nat.add_assoc] at h7
 exact h7
theorem f8a (s : t1a) (M : List Nat) (w0 : World) (ss : List Value) (vf : Value) (q : Int → Bool) (hS : m2a M w0 ss s) (hp : i2a Tryz.prog M w0 vf q) (hK : a3a M w0) (hM : ∀ g ∈ M, g < w0.heap.size)
 (hg : X2a s.guard q = true) (hs : ∀ a ∈ s.set, X2a a.to q = true) :
 M0a Tryz.prog 172 #[.agg ss.toArray, vf] w0 fun v w' => v = .bool true ∧ Below w0.heap.size w0 w' := by
 obtain ⟨Ag, ng, cg, As, ns, cs', rfl, ⟨_, _, _, _, _⟩, hG, hSet, _, _⟩ := hS.open_
 obtain ⟨f, first, caps, rfl, _, _⟩ := id hp
 have S := St.refl w0
 have hM' : ∀ w' : World, w0.heap.size ≤ w'.heap.size → ∀ g ∈ M, g < w'.heap.size := fun w' h g hg => by have := hM g hg; omega
 refine a0a Tryz.func172 rfl Tryz.ntmps172 rfl ?_
 refine wO0 rfl ⟨⟩ (j0a S (by conv => lhs; whnf) rfl ?_)
 intro g2 w2 S2 X2 G2
 refine lOn 8 S2.k [.o 0] rfl ⟨rfl,⟨⟩⟩ (m1a (by conv => lhs; whnf) rfl ?_)
 refine g0a S2 b8a rfl rfl (hg ▸ e6a _ M _ _ _ q (RdE.keep (S2.keep0 M) _ _ hG) (hp.keep (S2.keep0 M)) (hK.keep (S2.keep0 M)) (hM' _ S2.size)) ?_
 intro w10 S10 X10
 refine lC S10.k [.o 0] rfl ⟨rfl,⟨⟩⟩ (wL (fun μk D ε w => D = [] ∧ ∃ k : Nat, (k + μk = (s.set.length)) ∧ St [] w0 w [(some g2, 90, [.int .i64 s.kind, .int .i64 s.frm, .int .i64 s.to, .int .i64 s.guard.op, .int .i64 s.guard.w, .int .i64 s.guard.n, .slice Ag ng cg, .slice As ns cs', .bool s.release, .int .i64 s.target, .int .i64 s.module_])] ∧ Sl ε [(1, .func (.func f) first caps), (13, .slice As ns cs'), (14, .int .i64 ns), (15, .int .i64 k)]) (μ := (s.set.length)) ⟨rfl, 0, by omega, S10, rfl⟩ ?_)
 rintro μk D ε w ⟨rfl, k, _, S, eZ⟩
 refine wK eZ (wB0 rfl ⟨⟩ (fun h16 => ?_) fun h16 => ?_)
 ·obtain ⟨a, b17, p17, _, hxa, hA17, _, hl17, hc17, hr17⟩ := RdS.get (hSet) (k) (by omega)
  obtain ⟨_, _, _, rfl, _, hE17⟩ := R0a.open_ hr17
  refine lO (S.k.a hc17) [.x b17 p17,.v 0] rfl ⟨⟨rfl,hl17⟩,⟨hA17,by omega⟩,⟨⟩⟩ (n0a S t2b rfl rfl ?_)
  intro g6 w6 S6 X6 G6
  refine e0a (kk := 0) (vs := [_, _, _, _, _]) S6 v3b rfl rfl rfl rfl rfl rfl rfl ?_
  intro w5_3 S5_3 X5_3
  dsimp only [k0a, List.set] at S5_3
  refine lO S5_3.k [.o 0] rfl ⟨rfl,⟨⟩⟩ (g0a S5_3 b8a rfl rfl ((hs a (c0a hxa)) ▸ e6a _ M _ _ _ q (RdE.keep (S5_3.keep0 M) _ _ hE17) (hp.keep (S5_3.keep0 M)) (hK.keep (S5_3.keep0 M)) (hM' _ S5_3.size)) ?_)
  intro w22 S22 X22
  refine lP0 rfl ⟨by omega,⟨⟩⟩ ⟨μk - 1, by omega, rfl, (k + 1), (by omega), S22.tail, rfl⟩
 exact lT rfl ⟨⟩ rfl ⟨rfl, S.fin⟩
theorem D9a (l : List F1a) (M : List Nat) (w0 : World) (v vf : Value) (q : Int → Bool) (hS : a4c M w0 v l) (hp : i2a Tryz.prog M w0 vf q) (hs : ∀ a ∈ l, q a.cell = true) :
 M0a Tryz.prog 173 #[v, vf] w0 fun v w' => v = .bool true ∧ Below w0.heap.size w0 w' := by
 obtain ⟨As, ns, cs', rfl⟩ := hS.form
 obtain ⟨_, _, _⟩ := hS.len
 obtain ⟨f, first, caps, rfl, _, _⟩ := id hp
 have S := St.refl w0
 refine a0a Tryz.func173 rfl Tryz.ntmps173 rfl ?_
 refine wC0 rfl ⟨⟩ (wL (fun μk D ε w => D = [] ∧ ∃ k : Nat, (k + μk = (l.length)) ∧ St [] w0 w [] ∧ Sl ε [(1, .func (.func f) first caps), (7, .slice As ns cs'), (8, .int .i64 ns), (9, .int .i64 k)]) (μ := (l.length)) ⟨rfl, 0, by omega, S, rfl⟩ ?_)
 rintro μk D ε w ⟨rfl, k, _, S, eZ⟩
 refine wK eZ (wB0 rfl ⟨⟩ (fun h10 => ?_) fun h10 => ?_)
 ·obtain ⟨a, b11, p11, _, hxa, hA11, _, hl11, hc11, hr11⟩ := RdS.get (hS) (k) (by omega)
  obtain ⟨_, _, _, rfl, ia11, _⟩ := R0a.open_ hr11
  refine lO (S.k.a hc11) [.x b11 p11,.v 0] rfl ⟨⟨rfl,hl11⟩,⟨hA11,by omega⟩,⟨⟩⟩ (n0a S t2b rfl rfl ?_)
  intro g6 w6 S6 X6 G6
  first | refine e0a (kk := 0) (vs := [_, _, _, _, _]) S6 v3b rfl rfl rfl rfl rfl rfl rfl ?_
  intro w3_3 S3_3 X3_3
  dsimp only [k0a, List.set] at S3_3
  refine lO S3_3.k [.o 0] rfl ⟨rfl,⟨⟩⟩ (S8a S3_3 (hp.keep (S3_3.keep0 M)) rfl rfl (ia11) (hs a (c0a hxa)) rfl (fun w16 S16 X16 => ?_))
  refine lP0 rfl ⟨by omega,⟨⟩⟩ ⟨μk - 1, by omega, rfl, (k + 1), (by omega), S16.tail, rfl⟩
 exact lT rfl ⟨⟩ rfl ⟨rfl, S.fin⟩
theorem e5c (e : E) (M : List Nat) (w0 : World) (cs : List Value) (hR : RdE M w0 e cs) (he : e = ⟨1, 1, 1, []⟩) : M0a Tryz.prog 177 #[.agg cs.toArray] w0 fun v w' => v = .bool true ∧ Below w0.heap.size w0 w' := by
 obtain ⟨_, n, _, rfl, _, _, _, _, _⟩ := hR.cells
 have e1 : e.op = 1 := by rw [he]
 have e2 : e.w = 1 := by rw [he]
 have e3 : e.n = 1 := by rw [he]
 have e4 : e.kids.length = 0 := by rw [he]; rfl
 have S := St.refl w0
 refine a0a Tryz.func177 rfl Tryz.ntmps177 rfl ?_
 refine wO0 rfl ⟨⟩ (j0a S (by conv => lhs; whnf) rfl ?_)
 intro g1 w1 S1 X1 G1
 refine lB S1.k [.o 0] rfl ⟨rfl,⟨⟩⟩ (fun h5 => ?_) (fun h5 => by exfalso; omega)
 refine lB S1.k [.o 0] rfl ⟨rfl,⟨⟩⟩ (fun h9 => ?_) (fun h9 => by exfalso; omega)
 refine lB S1.k [.o 0] rfl ⟨rfl,⟨⟩⟩ (fun h14 => ?_) (fun h14 => by exfalso; omega)
 refine lB S1.k [.o 0] rfl ⟨rfl,⟨⟩⟩ (fun h20 => ?_) (fun h20 => by exfalso; omega)
 exact lT rfl ⟨⟩ rfl ⟨rfl, S1.fin⟩
theorem V5b (s : t1a) (M : List Nat) (w0 : World) (ss : List Value) (hS : m2a M w0 ss s) (hg : s.guard = ⟨1, 1, 1, []⟩) (hs : s.set = []) :
 M0a Tryz.prog 176 #[.agg ss.toArray] w0 fun v w' => v = .bool true ∧ Below w0.heap.size w0 w' := by
 obtain ⟨_, _, _, _, _, _, rfl, ⟨_, _, _, _, _⟩, hG, _, hns, _⟩ := hS.open_
 have S := St.refl w0
 rw [hs] at hns
 simp only [List.length_nil] at hns
 refine a0a Tryz.func176 rfl Tryz.ntmps176 rfl ?_
 refine wO0 rfl ⟨⟩ (j0a S (by conv => lhs; whnf) rfl ?_)
 intro g1 w1 S1 X1 G1
 refine lO S1.k [.o 0] rfl ⟨rfl,⟨⟩⟩ (g0a S1 D5c rfl rfl (e5c _ M _ _ (RdE.keep (S1.keep0 M) _ _ hG) hg) ?_)
 intro w5 S5 X5
 refine lB S5.k [.o 0] rfl ⟨rfl,⟨⟩⟩ (fun h10 => ?_) (fun h10 => by exfalso; omega)
 exact lT rfl ⟨⟩ rfl ⟨rfl, S5.fin⟩
theorem n2c {p : f0a} {s : t1a} {t : Int} {z : Bool} (h : ∀ (i : Nat) (hi : i < s.set.length), 0 < i ∨ s.kind ≠ 2 → M4a p.cells (s.set[i]).to z t) {k : Nat} {a : F1a} (ha : s.set[k + 1]? = some a) : M4a p.cells a.to z t := by
 obtain ⟨h1, rfl⟩ := List.getElem?_eq_some_iff.1 ha
 exact h _ h1 (.inl (by omega))
structure k7a (p : f0a) (t : Nat) (x : Q0a) (s : t1a) (M : List Nat) (w : World) (cs ss : List Value) : Prop where
 prog : j1a M w p cs
 step : m2a M w ss s
 ok : b1a p
 sok : U6a p t x.points s
 masks : a3a M w
 low : ∀ g ∈ M, g < w.heap.size
theorem v2b (p : f0a) (t : Nat) (x : Q0a) (s : t1a) (M : List Nat) (w0 : World) (cs ss : List Value) (h : k7a p t x s M w0 cs ss) (hk : s.kind = 1) :
 M0a Tryz.prog 162 #[.agg cs.toArray, .int .i64 t, .agg ss.toArray] w0 fun v w' => v = .bool true ∧ Below w0.heap.size w0 w' := by
 obtain ⟨hP, hS, hp, hso, hK, hM⟩ := h
 obtain ⟨_, _, _, _, _, _, _, _, _, _, _, _, rfl, _, _, _, _, _, _, _, _, _, _, _, _⟩ := hP.open_
 obtain ⟨_, _, _, _, _, _, rfl, ⟨_, _, _, _, _⟩, _, hSet, _, _⟩ := hS.open_
 have S := St.refl w0
 have hM' : ∀ w' : World, w0.heap.size ≤ w'.heap.size → ∀ g ∈ M, g < w'.heap.size := fun w' h g hg => by have := hM g hg; omega
 have h4 : decide (s.kind = 4) = false := decide_eq_false (by omega)
 have hvg : X2a s.guard (J8a p t) = true := i8a hp hso.guard.1 (h4 ▸ hso.row.guard)
 have hvs : ∀ a ∈ s.set, X2a a.to (J8a p t) = true := fun a ha => by
  obtain ⟨i, hi, rfl⟩ := List.getElem_of_mem ha
  exact i8a hp (hso.set _ ha).2.1 (h4 ▸ hso.row.vals i hi (.inr (by omega)))
 have hcs : ∀ a ∈ s.set, J8a p t a.cell = true := fun a ha => decide_eq_true ⟨(hso.set a ha).1, hso.row.k1 hk a ha⟩
 refine a0a Tryz.func162 rfl Tryz.ntmps162 rfl ?_
 refine wO0 rfl ⟨⟩ (j0a S (by conv => lhs; whnf) rfl ?_)
 intro g3 w3 S3 X3 G3
 refine j0a S3 (by conv => lhs; whnf) rfl ?_
 intro g5 w5 S5 X5 G5
 refine lO S5.k [.w 1] rfl ⟨⟨rfl,by rfl⟩,⟨⟩⟩ (B0a S5 W1b rfl rfl (p1b p t M _ _ (hP.keep (S5.keep0 M)) (hM' _ S5.size)) ?_)
 rintro v10 w10 hq S10 X10
 obtain ⟨_, _, _, rfl, _, _⟩ := id hq
 refine lO S10.k [.w 0] rfl ⟨⟨rfl,by rfl⟩,⟨⟩⟩ (g0a S10 n4b rfl rfl (f8a s M _ _ _ (J8a p t) (m2a.keep (S10.keep0 M) _ _ hS) hq (hK.keep (S10.keep0 M)) (hM' _ S10.size) hvg hvs) ?_)
 intro w13 S13 X13
 replace hq := hq.keep (X13.of_nil)
 refine lO S13.k [.o 0] rfl ⟨rfl,⟨⟩⟩ (g0a S13 P3b rfl rfl (D9a s.set M _ _ _ (J8a p t) (RdS.keepW hSet (S13.keep0 M) (R0a.keep (S13.keep0 M))) hq hcs) ?_)
 intro w18 S18 X18
 exact lT rfl ⟨⟩ rfl ⟨rfl, S18.fin⟩
theorem c2b (p : f0a) (t : Nat) (x : Q0a) (s : t1a) (M : List Nat) (w0 : World) (cs ss : List Value) (h : k7a p t x s M w0 cs ss) (hk : s.kind = 4) :
 M0a Tryz.prog 165 #[.agg cs.toArray, .int .i64 t, .agg ss.toArray] w0 fun v w' => v = .bool true ∧ Below w0.heap.size w0 w' := by
 obtain ⟨hP, hS, hp, hso, hK, hM⟩ := h
 obtain ⟨_, _, _, _, _, _, _, _, _, _, _, _, rfl, _, _, _, _, _, _, _, _, _, _, _, _⟩ := hP.open_
 obtain ⟨_, _, _, _, _, _, rfl, ⟨_, _, _, _, _⟩, _, hSet, _, _⟩ := hS.open_
 have S := St.refl w0
 have hM' : ∀ w' : World, w0.heap.size ≤ w'.heap.size → ∀ g ∈ M, g < w'.heap.size := fun w' h g hg => by have := hM g hg; omega
 have h4 : decide (s.kind = 4) = true := decide_eq_true (by omega)
 have hvg : X2a s.guard (Z1b p t) = true := q1b hp hso.guard.1 (h4 ▸ hso.row.guard)
 have hvs : ∀ a ∈ s.set, X2a a.to (Z1b p t) = true := fun a ha => by
  obtain ⟨i, hi, rfl⟩ := List.getElem_of_mem ha
  exact q1b hp (hso.set _ ha).2.1 (h4 ▸ hso.row.vals i hi (.inr (by omega)))
 have hcs : ∀ a ∈ s.set, Z1b p t a.cell = true := fun a ha => by
  unfold Z1b shQ J8a
  rw [Bool.or_eq_true, decide_eq_true_eq, decide_eq_true_eq]
  rcases hso.row.cells a ha with h | h
  ·exact .inr ⟨(hso.set a ha).1, h⟩
  ·exact .inl ⟨(hso.set a ha).1, h⟩
 refine a0a Tryz.func165 rfl Tryz.ntmps165 rfl ?_
 refine wO0 rfl ⟨⟩ (j0a S (by conv => lhs; whnf) rfl ?_)
 intro g3 w3 S3 X3 G3
 refine j0a S3 (by conv => lhs; whnf) rfl ?_
 intro g5 w5 S5 X5 G5
 refine lO S5.k [.w 1] rfl ⟨⟨rfl,by rfl⟩,⟨⟩⟩ (B0a S5 I4b rfl rfl (A6a p t M _ _ (hP.keep (S5.keep0 M)) (hM' _ S5.size)) ?_)
 rintro v10 w10 hq S10 X10
 obtain ⟨_, _, _, rfl, _, _⟩ := id hq
 refine lO S10.k [.w 0] rfl ⟨⟨rfl,by rfl⟩,⟨⟩⟩ (g0a S10 n4b rfl rfl (f8a s M _ _ _ (Z1b p t) (m2a.keep (S10.keep0 M) _ _ hS) hq (hK.keep (S10.keep0 M)) (hM' _ S10.size) hvg hvs) ?_)
 intro w13 S13 X13
 replace hq := hq.keep (X13.of_nil)
 refine lO S13.k [.o 0] rfl ⟨rfl,⟨⟩⟩ (g0a S13 P3b rfl rfl (D9a s.set M _ _ _ (Z1b p t) (RdS.keepW hSet (S13.keep0 M) (R0a.keep (S13.keep0 M))) hq hcs) ?_)
 intro w18 S18 X18
 exact lT rfl ⟨⟩ rfl ⟨rfl, S18.fin⟩
theorem x2b (p : f0a) (t : Nat) (x : Q0a) (s : t1a) (M : List Nat) (w0 : World) (cs ss : List Value) (h : k7a p t x s M w0 cs ss) (hk : 5 ≤ s.kind) :
 M0a Tryz.prog 166 #[.agg cs.toArray, .int .i64 t, .agg ss.toArray] w0 fun v w' => v = .bool true ∧ Below w0.heap.size w0 w' := by
 obtain ⟨hP, hS, _, hso, _, _⟩ := h
 obtain ⟨_, _, _, _, _, _, _, _, _, _, _, _, rfl, _, _, _, _, _, _, _, _, _, _, _, _⟩ := hP.open_
 obtain ⟨_, _, _, _, _, _, rfl, ⟨_, _, _, _, _⟩, _, _, _, _⟩ := hS.open_
 have S := St.refl w0
 refine a0a Tryz.func166 rfl Tryz.ntmps166 rfl ?_
 refine wO0 rfl ⟨⟩ (j0a S (by conv => lhs; whnf) rfl ?_)
 intro g3 w3 S3 X3 G3
 refine j0a S3 (by conv => lhs; whnf) rfl ?_
 intro g5 w5 S5 X5 G5
 refine lO S5.k [.w 0] rfl ⟨⟨rfl,by rfl⟩,⟨⟩⟩ (g0a S5 j9b rfl rfl (V5b s M _ _ (m2a.keep (S5.keep0 M) _ _ hS) (hso.row.k5 hk).2 (hso.row.k5 hk).1) ?_)
 intro w8 S8 X8
 exact lT rfl ⟨⟩ rfl ⟨rfl, S8.fin⟩
theorem S9a (p : f0a) (t : Nat) (x : Q0a) (s : t1a) (M : List Nat) (w0 : World) (cs ss : List Value) (h : k7a p t x s M w0 cs ss) (hk : 6 ≤ s.kind) :
 M0a Tryz.prog 168 #[.agg cs.toArray, .int .i64 t, .agg ss.toArray] w0 fun v w' => v = .bool true ∧ Below w0.heap.size w0 w' := by
 obtain ⟨hP, hS, _, hso, _, _⟩ := h
 obtain ⟨_, _, _, _, _, _, _, _, _, _, nt, _, rfl, _, _, _, _, _, _, _, _, _, _, _, _⟩ := hP.open_
 obtain ⟨_, _, _, _, _, _, rfl, ⟨_, _, _, _, _⟩, _, _, _, _⟩ := hS.open_
 have S := St.refl w0
 have h6 := hso.row.k6 hk
 have h61 := h6.1
 have h62 := h6.2
 unfold t2a at h61
 refine a0a Tryz.func168 rfl Tryz.ntmps168 rfl ?_
 refine wO0 rfl ⟨⟩ (j0a S (by conv => lhs; whnf) rfl ?_)
 intro g3 w3 S3 X3 G3
 refine j0a S3 (by conv => lhs; whnf) rfl ?_
 intro g5 w5 S5 X5 G5
 refine lO S5.k [.w 0] rfl ⟨⟨rfl,by rfl⟩,⟨⟩⟩ (g0a S5 j9b rfl rfl (V5b s M _ _ (m2a.keep (S5.keep0 M) _ _ hS) (hso.row.k5 (by omega)).2 (hso.row.k5 (by omega)).1) ?_)
 intro w8 S8 X8
 refine lB S8.k [.o 0] rfl ⟨rfl,⟨⟩⟩ (fun h13 => ?_) (fun h13 => by exfalso; omega)
 refine lO S8.k [.o 0,.o 1] rfl ⟨rfl,rfl,⟨⟩⟩ (g0a S8 S2a rfl rfl ((show decide (0 ≤ s.target ∧ s.target < (nt : Int)) = true from decide_eq_true (by omega)) ▸ f2a _ _ _) ?_)
 intro w22 S22 X22
 exact lT rfl ⟨⟩ rfl ⟨rfl, S22.fin⟩
theorem S2b (p : f0a) (t : Nat) (x : Q0a) (s : t1a) (M : List Nat) (w0 : World) (cs ss : List Value) (h : k7a p t x s M w0 cs ss) (hk : s.kind = 6) :
 M0a Tryz.prog 167 #[.agg cs.toArray, .int .i64 t, .agg ss.toArray] w0 fun v w' => v = .bool true ∧ Below w0.heap.size w0 w' := by
 have h0 := h
 obtain ⟨hP, hS, hp, hso, hK, hM⟩ := h
 obtain ⟨_, _, _, _, _, _, _, _, _, _, _, _, rfl, _, _, _, hTh, _, _, _, _, _, _, _, _⟩ := hP.open_
 obtain ⟨_, _, _, _, _, _, rfl, ⟨_, _, _, _, _⟩, _, _, _, _⟩ := hS.open_
 have S := St.refl w0
 have hM' : ∀ w' : World, w0.heap.size ≤ w'.heap.size → ∀ g ∈ M, g < w'.heap.size := fun w' h g hg => by have := hM g hg; omega
 have h6 := hso.row.k6 (by omega)
 have h61 := h6.1
 unfold t2a at h61
 refine a0a Tryz.func167 rfl Tryz.ntmps167 rfl ?_
 refine wO0 rfl ⟨⟩ (j0a S (by conv => lhs; whnf) rfl ?_)
 intro g3 w3 S3 X3 G3
 refine j0a S3 (by conv => lhs; whnf) rfl ?_
 intro g5 w5 S5 X5 G5
 refine lO S5.k [.w 1,.w 0] rfl ⟨⟨rfl,by rfl⟩,⟨rfl,by rfl⟩,⟨⟩⟩ (g0a S5 k8b rfl rfl (S9a p t x s M _ _ _ ⟨hP.keep (S5.keep0 M), m2a.keep (S5.keep0 M) _ _ hS, hp, hso, hK.keep (S5.keep0 M), hM' _ S5.size⟩ (by omega)) ?_)
 intro w10 S10 X10
 obtain ⟨u, b17, p17, _, hxu, hA17, _, _, hc17, hr17⟩ := RdS.get (hTh) (s.target.toNat) (by omega)
 obtain ⟨_, _, _, _, _, _, _, _, _, _, _, _, rfl, _, _, _, _, _, _, _, _, _, _, _, _, _⟩ := N0a.open_ hr17
 refine lO S10.k [.o 1,.o 0,.x b17 p17] rfl ⟨⟨hA17,by omega⟩,rfl,rfl,⟨⟩⟩ ?_
 refine s0a B2a rfl (v := .bool true) (by have h4 := S10.old (hc17 6 _ rfl); rw [hso.row.k7 hk u hxu] at h4; exact h4) rfl ?_
 exact lT rfl ⟨⟩ rfl ⟨rfl, S10.fin⟩
theorem U3b (p : f0a) (t : Nat) (x : Q0a) (s : t1a) (M : List Nat) (w0 : World) (cs ss : List Value) (h : k7a p t x s M w0 cs ss) (hk : s.kind = 2) :
 M0a Tryz.prog 163 #[.agg cs.toArray, .int .i64 t, .agg ss.toArray] w0 fun v w' => v = .bool true ∧ Below w0.heap.size w0 w' := by
 obtain ⟨hP, hS, hp, hso, hK, hM⟩ := h
 obtain ⟨Ac, nc, cc, Am, nm, cm, Al, nl, cl, At, nt, ct, rfl, _, _, _, _, _, _, _, _, _, _, _, _⟩ := hP.open_
 obtain ⟨Ag, ng, cg, _, ns, cs', rfl, ⟨_, _, _, _, _⟩, hG, hSet, _, _⟩ := hS.open_
 have S := St.refl w0
 have hM' : ∀ w' : World, w0.heap.size ≤ w'.heap.size → ∀ g ∈ M, g < w'.heap.size := fun w' h g hg => by have := hM g hg; omega
 have h4 : decide (s.kind = 4) = false := decide_eq_false (by omega)
 have hvg : X2a s.guard (J8a p t) = true := i8a hp hso.guard.1 (h4 ▸ hso.row.guard)
 obtain ⟨a0, l, hset, ht0, hg0, hop, hsn, hgn, hl⟩ := hso.row.k2 hk
 have hlen : s.set.length = l.length + 1 := by rw [hset]; rfl
 have hm0 : a0 ∈ s.set := by rw [hset]; simp
 have hc0 := (hso.set a0 hm0).1
 have hn0 := O0b (hso.set a0 hm0).2.1 hop
 have hxa0 : s.set[0]? = some a0 := by rw [hset]; rfl
 unfold t2a at hc0
 obtain ⟨_, b0, p0, _, hxy0, rfl, hM0, _, hcc0, hr0⟩ := RdS.get hSet 0 (by omega)
 obtain rfl := Option.some.inj (hxa0.symm.trans hxy0)
 obtain ⟨Ae0, ne0, ce0, rfl, ia0, _⟩ := R0a.open_ hr0
 have hdl : s.set.drop 1 = l := by rw [hset]; rfl
 have hTl := RdS.dropped hSet 1 (by omega)
 rw [hdl] at hTl
 refine a0a Tryz.func163 rfl Tryz.ntmps163 rfl ?_
 refine wO0 rfl ⟨⟩ (j0a S (by conv => lhs; whnf) rfl ?_)
 intro g3 w3 S3 X3 G3
 refine j0a S3 (by conv => lhs; whnf) rfl ?_
 intro g5 w5 S5 X5 G5
 refine lO S5.k [.w 1] rfl ⟨⟨rfl,rfl⟩,⟨⟩⟩ (B0a S5 W1b rfl rfl (p1b p t M _ _ (hP.keep (S5.keep0 M)) (hM' _ S5.size)) ?_)
 rintro v14 w14 hq S14 X14
 obtain ⟨f, first, caps, rfl, _, _⟩ := id hq
 have K14 := w0a.refl [] w14
 refine lB S14.k [.o 0] rfl ⟨rfl,⟨⟩⟩ (fun h18 => by exfalso; omega) fun h18 => ?_
 refine lO S14.k [.o 0] rfl ⟨rfl,⟨⟩⟩ (g0a S14 b8a rfl rfl (hvg ▸ e6a _ M _ _ _ (J8a p t) (RdE.keep (S14.keep0 M) _ _ hG) (hq.keep K14.of_nil) (hK.keep (S14.keep0 M)) (hM' _ S14.size)) ?_)
 intro w23 S23 X23
 replace K14 := K14.trans X23
 refine lC0 rfl ⟨⟩ (K0b b0a (fun i => [0, 1, 2, 3, 4, 5, 6, 7, 8, 9, 11].contains i) [0, 1, 2, 3, 4, 5, 6, 7, 8, 9, 10, 11] 12 (by kernel_rfl) (by kernel_rfl) (S9c S23) _ rfl ?_)
 have SR4 := S23.drew
 have XR4 : w0a [] w23 w23.drew := F2a _ _
 generalize w23.drew = wR4 at SR4 XR4 ⊢
 replace K14 := K14.trans XR4
 refine N1a ⟨SR4, XR4⟩ rfl rfl rfl ?_
 refine F0a O3b rfl rfl ?_
 refine d0a ?_
 refine N1a ⟨SR4, XR4⟩ rfl rfl rfl ?_
 refine h0a n9b rfl (fun w1 hw => by exact hw.1.cell 0 rfl rfl) rfl ?_
 refine d0a ?_
 refine N1a ⟨SR4, XR4⟩ rfl rfl rfl ?_
 refine m0a u8a.slT rfl (by rfl) rfl (by omega) (by omega) rfl ?_
 refine d0a ?_
 refine N1a ⟨SR4, XR4⟩ rfl rfl rfl ?_
 refine F0a j0c rfl rfl ?_
 refine d0a ?_
 refine N1a ⟨SR4, XR4⟩ rfl rfl rfl ?_
 refine h0a C0a rfl (fun w1 hw => by exact hw.1.old (hcc0 _ _ rfl)) rfl ?_
 refine d0a ?_
 refine N1a ⟨SR4, XR4⟩ rfl rfl rfl ?_
 refine F0a O3b rfl rfl ?_
 refine d0a ?_
 refine N1a ⟨SR4, XR4⟩ rfl rfl rfl ?_
 refine h0a n9b rfl (fun w1 hw => by exact hw.1.cell 0 rfl rfl) rfl ?_
 refine d0a ?_
 refine N1a ⟨SR4, XR4⟩ rfl rfl rfl ?_
 refine m0a u8a.slT rfl (by rfl) rfl (by omega) (by omega) rfl ?_
 refine d0a ?_
 refine N1a ⟨SR4, XR4⟩ rfl rfl rfl ?_
 refine F0a t9b rfl rfl ?_
 refine d0a ?_
 refine N1a ⟨SR4, XR4⟩ rfl rfl rfl ?_
 refine I1a x1a rfl (fun w1 hw => (k1a.sub hcc0 1 4).keep (hw.1.keep0 M) hM0) (by rfl) rfl ?_
 refine d0a ?_
 refine T9a ⟨SR4, XR4⟩ rfl rfl rfl rfl ?_
 refine n0a SR4 m7a rfl rfl ?_
 intro g9 w9 S9 X9 G9
 have GK149 := Nat.le_trans K14.size G9
 have XCw9 := XR4.trans X9
 replace K14 := K14.trans X9
 refine S0a ⟨rfl, ?_⟩
 refine N1a ⟨S9.tail, XCw9⟩ rfl rfl rfl ?_
 refine e3a (v := .int .i64 _) rfl rfl ?_
 refine d0a ?_
 refine W5a ⟨S9.tail, XCw9⟩ ?_
 refine e0a (kk := 0) (vs := [_, _, _, _]) S9 V5a rfl rfl rfl rfl rfl rfl rfl ?_
 intro w4_12 S4_12 X4_12
 dsimp only [k0a, List.set] at S4_12
 replace K14 := K14.fresh X4_12 (by first | exact GK149)
 refine S0a ⟨rfl, ?_⟩
 refine fO0 rfl ⟨⟩ (S8a S4_12 (hq.keep K14.of_nil) rfl rfl (ia0) (decide_eq_true ⟨hc0, ht0⟩) rfl (fun w38 S38 X38 => ?_))
 replace K14 := K14.trans X38
 refine lO S38.k [.w 2] rfl ⟨⟨rfl,rfl⟩,⟨⟩⟩ (g0a S38 A9a rfl rfl (hg0 ▸ x5a p M _ _ _ (hP.keep (S38.keep0 M)) hc0.1 hc0.2) ?_)
 intro w43 S43 X43
 replace K14 := K14.trans X43
 refine lB S43.k [.o 0] rfl ⟨rfl,⟨⟩⟩ (fun h48 => by exfalso; omega) fun h48 => ?_
 refine lO S43.k [.w 2,.o 0] rfl ⟨rfl,⟨rfl,rfl⟩,⟨⟩⟩ (g0a S43 O9a rfl rfl ((show shQ p a0.to.n = true from decide_eq_true ⟨hn0, hsn⟩) ▸ P4a p M _ _ _ (hP.keep (S43.keep0 M))) ?_)
 intro w54 S54 X54
 replace K14 := K14.trans X54
 refine lO S54.k [.w 2,.o 0] rfl ⟨rfl,⟨rfl,rfl⟩,⟨⟩⟩ (g0a S54 A9a rfl rfl (hgn ▸ x5a p M _ _ _ (hP.keep (S54.keep0 M)) hn0.1 hn0.2) ?_)
 intro w61 S61 X61
 replace K14 := K14.trans X61
 refine lO S61.k [.o 1] rfl ⟨rfl,⟨⟩⟩ ?_
 refine g1b (kd := .i64) (lo := 1) (hi := ns) u8a.slT rfl (.inr rfl) (.inl ⟨rfl, rfl⟩) (by omega) (by have := hSet.len; omega) (by have := hSet.len; omega) rfl ?_
 refine lC0 rfl ⟨⟩ (wL (fun μk D ε w => D = [] ∧ ∃ k : Nat, (k + μk = (l.length)) ∧ (w0a [] w14 w) ∧ St [] w0 w [(some g9, 53, [.int .i64 a0.to.op, .int .i64 a0.to.w, .int .i64 a0.to.n, .slice Ae0 ne0 ce0]), (some g5, 90, [.int .i64 s.kind, .int .i64 s.frm, .int .i64 s.to, .int .i64 s.guard.op, .int .i64 s.guard.w, .int .i64 s.guard.n, .slice Ag ng cg, .slice (some ⟨b0, p0, none⟩) ns cs', .bool s.release, .int .i64 s.target, .int .i64 s.module_]), (some g3, 154, [.slice Ac nc cc, .slice Am nm cm, .slice Al nl cl, .slice At nt ct])] ∧ Sl ε [(3, .pointer (some ⟨g3, 0, none⟩)), (7, .func (.func f) first caps), (65, .slice (some (if cs' = 1 then ⟨b0, p0, none⟩ else ⟨b0, p0 + 1 * 5, none⟩)) (ns - 1) (cs' - 1)), (66, .int .i64 (ns - 1 : Nat)), (67, .int .i64 k)]) (μ := (l.length)) ⟨rfl, 0, by omega, K14, S61, rfl⟩ ?_)
 rintro μk D ε w ⟨rfl, k, hk, K14, S, eZ⟩
 refine wK eZ (wB0 rfl ⟨⟩ (fun h68 => ?_) fun h68 => ?_)
 ·obtain ⟨a, b69, p69, _, hxa, hA69, _, hl69, hc69, hr69⟩ := RdS.get (hTl) (k) (by omega)
  obtain ⟨_, _, _, rfl, ia69, hE69⟩ := R0a.open_ hr69
  have ham := hl a (c0a hxa)
  have hasm : a ∈ s.set := by rw [hset]; exact List.mem_cons_of_mem _ (c0a hxa)
  have hac := (hso.set a hasm).1
  unfold t2a at hac
  have hav : X2a a.to (J8a p t) = true := i8a hp (hso.set a hasm).2.1 (h4 ▸ n2c hso.row.vals (k := k) (a := a) (by rw [hset]; exact hxa))
  refine lO (S.k.a hc69) [.x b69 p69,.v 0] rfl ⟨⟨rfl,hl69⟩,⟨hA69,by omega⟩,⟨⟩⟩ (n0a S t2b rfl rfl ?_)
  intro g11 w11 S11 X11 G11
  have GK1411 := Nat.le_trans K14.size G11
  replace K14 := K14.trans X11
  refine e0a (kk := 0) (vs := [_, _, _, _, _]) S11 v3b rfl rfl rfl rfl rfl rfl rfl ?_
  intro w9_3 S9_3 X9_3
  dsimp only [k0a, List.set] at S9_3
  replace K14 := K14.fresh X9_3 (by exact GK1411)
  refine lO S9_3.k [.o 0] rfl ⟨rfl,⟨⟩⟩ (S8a S9_3 (hq.keep K14.of_nil) rfl rfl (ia69) (decide_eq_true ⟨hac, ham.1⟩) rfl (fun w74 S74 X74 => ?_))
  replace K14 := K14.trans X74
  refine lO S74.k [.w 3,.o 0] rfl ⟨rfl,⟨rfl,rfl⟩,⟨⟩⟩ (g0a S74 A9a rfl rfl (ham.2 ▸ x5a p M _ _ _ (hP.keep (S74.keep0 M)) hac.1 hac.2) ?_)
  intro w80 S80 X80
  replace K14 := K14.trans X80
  refine lO S80.k [.o 0] rfl ⟨rfl,⟨⟩⟩ (g0a S80 b8a rfl rfl (hav ▸ e6a _ M _ _ _ (J8a p t) (RdE.keep (S80.keep0 M) _ _ hE69) (hq.keep K14.of_nil) (hK.keep (S80.keep0 M)) (hM' _ S80.size)) ?_)
  intro w87 S87 X87
  replace K14 := K14.trans X87
  refine lP0 rfl ⟨by omega,⟨⟩⟩ ⟨μk - 1, by omega, rfl, (k + 1), (by omega), (K14), S87.tail, rfl⟩
 exact lT rfl ⟨⟩ rfl ⟨rfl, S.fin⟩
theorem D1b (p : f0a) (t c : Int) (g g' : Nat) (M : List Nat) (w0 : World) (cs : List Value) (vf : Value) (hP : j1a M w0 p cs) (hg : k1a w0 g 0 cs) (hg' : w0.cell? ⟨g', 0, none⟩ = some vf) (hp : i2a Tryz.prog M w0 vf (Z1b p t)) (hc : i64 c) (h0 : 0 ≤ c ∧ c < p.cells.length) (h1 : Q0b p.cells c = true) (h2 : Z1b p t c = true) :
 M0a Tryz.prog 175 #[.int .i64 c, .pointer (some ⟨g, 0, none⟩), .pointer (some ⟨g', 0, none⟩)] w0 fun v w' => v = .bool true ∧ Below w0.heap.size w0 w' := by
 obtain ⟨_, _, _, _, _, _, _, _, _, _, _, _, rfl, _, _, _, _, _, _, _, _, _, _, _, _⟩ := hP.open_
 have S := St.refl w0
 refine a0a Tryz.func175 rfl Tryz.ntmps175 rfl ?_
 refine wO0 rfl ⟨⟩ ?_
 first | refine w1a X1b rfl ((fun j v hj => S.old (hg j v hj))) (by rfl) rfl ?_
 refine lO0 rfl ⟨⟩ (g0a S A9a rfl rfl (h1 ▸ x5a p M _ _ _ (hP.keep (S.keep0 M)) h0.1 h0.2) ?_)
 intro w7 S7 X7
 refine lO0 rfl ⟨⟩ (s0a q9a rfl (by first | exact S7.old hg') rfl ?_)
 refine lO0 rfl ⟨⟩ (S8a S7 (hp.keep (S7.keep0 M)) rfl rfl (hc) (h2) rfl (fun w11 S11 X11 => ?_))
 exact lT rfl ⟨⟩ rfl ⟨rfl, S11.fin⟩
theorem m5b (l : List F1a) (M : List Nat) (w0 : World) (v : Value) (f : FuncId) (first caps : Array Value) (hS : a4c M w0 v l) (hH : Has Tryz.prog f)
 (hf : ∀ w', w0a M w0 w' → ∀ a ∈ l, i64 a.cell → M0a Tryz.prog f (first.toList ++ [Value.int .i64 a.cell] ++ caps.toList).toArray w' fun v w'' => v = .bool true ∧ Below w'.heap.size w' w'') :
 M0a Tryz.prog 173 #[v, .func (.func f) first caps] w0 fun v w' => v = .bool true ∧ Below w0.heap.size w0 w' := by
 obtain ⟨As, ns, cs', rfl⟩ := hS.form
 obtain ⟨_, _, _⟩ := hS.len
 have S := St.refl w0
 refine a0a Tryz.func173 rfl Tryz.ntmps173 rfl ?_
 refine wC0 rfl ⟨⟩ (wL (fun μk D ε w => D = [] ∧ ∃ k : Nat, (k + μk = (l.length)) ∧ St [] w0 w [] ∧ Sl ε [(1, .func (.func f) first caps), (7, .slice As ns cs'), (8, .int .i64 ns), (9, .int .i64 k)]) (μ := (l.length)) ⟨rfl, 0, by omega, S, rfl⟩ ?_)
 rintro μk D ε w ⟨rfl, k, _, S, eZ⟩
 refine wK eZ (wB0 rfl ⟨⟩ (fun h10 => ?_) fun h10 => ?_)
 ·obtain ⟨a, b11, p11, _, hxa, hA11, _, hl11, hc11, hr11⟩ := RdS.get (hS) (k) (by omega)
  obtain ⟨_, _, _, rfl, ia11, _⟩ := R0a.open_ hr11
  refine lO (S.k.a hc11) [.x b11 p11,.v 0] rfl ⟨⟨rfl,hl11⟩,⟨hA11,by omega⟩,⟨⟩⟩ (n0a S t2b rfl rfl ?_)
  intro g6 w6 S6 X6 G6
  first | refine e0a (kk := 0) (vs := [_, _, _, _, _]) S6 v3b rfl rfl rfl rfl rfl rfl rfl ?_
  intro w3_3 S3_3 X3_3
  dsimp only [k0a, List.set] at S3_3
  refine lO S3_3.k [.o 0] rfl ⟨rfl,⟨⟩⟩ (w4a (vs := first.toList ++ [Value.int .i64 a.cell] ++ caps.toList) hH rfl rfl rfl (hf _ (S3_3.keep0 M) a (c0a hxa) ia11) ?_)
  rintro v16 w16 ⟨rfl, B16⟩
  have S16 := S3_3.later B16
  refine lP0 rfl ⟨by omega,⟨⟩⟩ ⟨μk - 1, by omega, rfl, (k + 1), (by omega), S16.tail, rfl⟩
 exact lT rfl ⟨⟩ rfl ⟨rfl, S.fin⟩
theorem P2b (p : f0a) (t : Nat) (x : Q0a) (s : t1a) (M : List Nat) (w0 : World) (cs ss : List Value) (h : k7a p t x s M w0 cs ss) (hk : s.kind = 3) :
 M0a Tryz.prog 164 #[.agg cs.toArray, .int .i64 t, .agg ss.toArray] w0 fun v w' => v = .bool true ∧ Below w0.heap.size w0 w' := by
 obtain ⟨hP, hS, hp, hso, hK, hM⟩ := h
 obtain ⟨_, _, _, _, _, _, _, _, _, _, _, _, rfl, _, _, _, _, _, _, _, _, _, _, _, _⟩ := hP.open_
 obtain ⟨_, _, _, _, ns, _, rfl, ⟨_, _, _, _, _⟩, _, hSet, _, _⟩ := hS.open_
 have S := St.refl w0
 have hM' : ∀ w' : World, w0.heap.size ≤ w'.heap.size → ∀ g ∈ M, g < w'.heap.size := fun w' h g hg => by have := hM g hg; omega
 have h4 : decide (s.kind = 4) = false := decide_eq_false (by omega)
 have hvg : X2a s.guard (J8a p t) = true := i8a hp hso.guard.1 (h4 ▸ hso.row.guard)
 have hvs : ∀ a ∈ s.set, X2a a.to (J8a p t) = true := fun a ha => by
  obtain ⟨i, hi, rfl⟩ := List.getElem_of_mem ha
  exact i8a hp (hso.set _ ha).2.1 (h4 ▸ hso.row.vals i hi (.inr (by omega)))
 obtain ⟨a0, l, hset, ht0, hg0, hl⟩ := hso.row.k3 hk
 have hlen : s.set.length = l.length + 1 := by rw [hset]; rfl
 have hm0 : a0 ∈ s.set := by rw [hset]; simp
 have hc0 := (hso.set a0 hm0).1
 have hxa0 : s.set[0]? = some a0 := by rw [hset]; rfl
 unfold t2a at hc0
 obtain ⟨_, _, _, _, hxy0, rfl, _, _, hcc0, hr0⟩ := RdS.get hSet 0 (by omega)
 obtain rfl := Option.some.inj (hxa0.symm.trans hxy0)
 obtain ⟨_, _, _, rfl, _, _⟩ := R0a.open_ hr0
 have hdl : s.set.drop 1 = l := by rw [hset]; rfl
 have hTl := RdS.dropped hSet 1 (by omega)
 rw [hdl] at hTl
 have hcl : ∀ a ∈ l, (0 ≤ a.cell ∧ a.cell < p.cells.length) ∧ Q0b p.cells a.cell = true ∧ Z1b p t a.cell = true := fun a ha => by
  have hasm : a ∈ s.set := by rw [hset]; exact List.mem_cons_of_mem _ ha
  refine ⟨(hso.set a hasm).1, hl a ha, ?_⟩
  unfold Z1b shQ J8a
  rw [Bool.or_eq_true, decide_eq_true_eq, decide_eq_true_eq]
  rcases hso.row.cells a hasm with h | h
  ·exact .inr ⟨(hso.set a hasm).1, h⟩
  ·exact .inl ⟨(hso.set a hasm).1, h⟩
 refine a0a Tryz.func164 rfl Tryz.ntmps164 rfl ?_
 refine wO0 rfl ⟨⟩ (j0a S (by conv => lhs; whnf) rfl ?_)
 intro g3 w3 S3 X3 G3
 refine j0a S3 (by conv => lhs; whnf) rfl ?_
 intro g5 w5 S5 X5 G5
 refine lC0 rfl ⟨⟩ (D0a b0a [0, 1, 2, 3, 4, 5, 6, 7] [8] [9, 10, 11] (by kernel_rfl) rfl (Cl _ _ _ _) (Cl.start S5) ?_)
 refine qB S5.q [.o 0] rfl ⟨rfl,⟨⟩⟩ (fun h12 => by exfalso; omega) fun h12 => ?_
 refine qN S5.q [.w 0,.w 1] rfl ⟨⟨rfl,by rfl⟩,⟨rfl,by rfl⟩,⟨⟩⟩ (w5a ?_)
 refine H1b (fun v w => i2a Tryz.prog M w v (J8a p t)) rfl rfl W1b rfl (fun v w w' h hk => h.keep hk.of_nil) (fun w1 S1 X1 => p1b p t M _ _ (hP.keep (S1.keep0 M)) (hM' _ S1.size)) ?_
 refine o2a ?_
 rintro wR1 ⟨SR1, _⟩
 rintro v17 hq
 dsimp only [I3a]
 obtain ⟨_, first, _, rfl, _, _⟩ := id hq
 refine lO0 rfl ⟨⟩ (g0a SR1 n4b rfl rfl (f8a s M _ _ _ (J8a p t) (m2a.keep (SR1.keep0 M) _ _ hS) hq (hK.keep (SR1.keep0 M)) (hM' _ SR1.size) hvg hvs) ?_)
 intro w18 S18 X18
 refine lO S18.k [.o 0] rfl ⟨rfl,⟨⟩⟩ (x0a u8a.slT rfl (by rfl) rfl (by omega) (by omega) rfl ?_)
 refine lO0 rfl ⟨⟩ (s0a C0a rfl (by exact S18.old (hcc0 _ _ rfl)) rfl ?_)
 refine lO S18.k [.w 1] rfl ⟨⟨rfl,by rfl⟩,⟨⟩⟩ (g0a S18 O9a rfl rfl ((show shQ p a0.cell = true from decide_eq_true ⟨hc0, ht0⟩) ▸ P4a p M _ _ _ (hP.keep (S18.keep0 M))) ?_)
 intro w28 S28 X28
 refine lO S28.k [.w 1] rfl ⟨⟨rfl,by rfl⟩,⟨⟩⟩ (g0a S28 A9a rfl rfl (hg0 ▸ x5a p M _ _ _ (hP.keep (S28.keep0 M)) hc0.1 hc0.2) ?_)
 intro w33 S33 X33
 refine lO S33.k [.w 1] rfl ⟨⟨rfl,by rfl⟩,⟨⟩⟩ (B0a S33 I4b rfl rfl (A6a p t M _ _ (hP.keep (S33.keep0 M)) (hM' _ S33.size)) ?_)
 rintro v37 w37 hq2 S37 X37
 obtain ⟨_, _, _, rfl, _, _⟩ := id hq2
 have K37 := w0a.refl [] w37
 refine n0a S37 q3c rfl rfl ?_
 intro g8 w8 S8 X8 G8
 have GK378 := Nat.le_trans K37.size G8
 replace K37 := K37.trans X8
 refine I0a (kk := 0) S8 v3c rfl (by conv => lhs; whnf) rfl rfl (by exact Nat.le_of_ble_eq_true rfl) ?_
 intro w6_4 S6_4 X6_4
 replace K37 := K37.fresh X6_4 (by first | exact GK378)
 refine lO S6_4.k [.o 1] rfl ⟨rfl,⟨⟩⟩ ?_
 refine g1b (kd := .i64) (lo := 1) (hi := ns) u8a.slT rfl (.inr rfl) (.inl ⟨rfl, rfl⟩) (by omega) (by have := hSet.len; omega) (by have := hSet.len; omega) rfl ?_
 refine E1a rfl rfl ?_
 refine g0a S6_4 P3b rfl rfl (m5b l M _ _ _ _ _ (RdS.keepW hTl (S6_4.keep0 M) (R0a.keep (S6_4.keep0 M))) N3c (fun w' hk a ha hia => D1b p t a.cell g3 g8 M w' _ _ (hP.keep ((S6_4.keep0 M).trans hk)) ((S6_4.cells 2 rfl).keep hk (U0a hM (S6_4.new 2 rfl))) (hk.cell (a := ⟨g8, 0, none⟩) (U0a hM (S6_4.new 0 rfl)) (S6_4.cell 0 rfl rfl)) (hq2.keep (K37.of_nil.trans hk)) hia (hcl a ha).1 (hcl a ha).2.1 (hcl a ha).2.2)) ?_
 intro w42 S42 X42
 exact lT rfl ⟨⟩ rfl ⟨rfl, S42.fin⟩
def B5b (k : Int) : Nat := if k = 1 then 162 else if k = 2 then 163 else if k = 3 then 164 else if k = 4 then 165 else if k = 5 then 166 else if k = 6 then 167 else 168
def K7b : Array Value := #[.nilFunc, .func (.func 162) #[] #[], .func (.func 163) #[] #[], .func (.func 164) #[] #[], .func (.func 165) #[] #[], .func (.func 166) #[] #[], .func (.func 167) #[] #[], .func (.func 168) #[] #[]]
theorem q5c (p : f0a) (t : Nat) (x : Q0a) (s : t1a) (M : List Nat) (w0 : World) (cs ss : List Value) (h : k7a p t x s M w0 cs ss) :
 M0a Tryz.prog (B5b s.kind) #[.agg cs.toArray, .int .i64 t, .agg ss.toArray] w0 fun v w' => v = .bool true ∧ Below w0.heap.size w0 w' := by
 have hk := h.sok.kind
 rcases (show s.kind = 1 ∨ s.kind = 2 ∨ s.kind = 3 ∨ s.kind = 4 ∨ s.kind = 5 ∨ s.kind = 6 ∨ s.kind = 7 by omega) with e | e | e | e | e | e | e <;> rw [e]
 ·exact v2b p t x s M w0 cs ss h e
 ·exact U3b p t x s M w0 cs ss h e
 ·exact P2b p t x s M w0 cs ss h e
 ·exact c2b p t x s M w0 cs ss h e
 ·exact x2b p t x s M w0 cs ss h (by omega)
 ·exact S2b p t x s M w0 cs ss h e
 ·exact S9a p t x s M w0 cs ss h (by omega)
theorem u7b {k : Int} : Has Tryz.prog (B5b k) := by
 unfold B5b
 repeat' split
 ·exact T5c
 ·exact w6c
 ·exact s6c
 ·exact k4c
 ·exact f6c
 ·exact I4c
 ·exact k8b
theorem b8b {k : Int} (h1 : 1 ≤ k) (h7 : k ≤ 7) : K7b.extract (k.toNat * 1) (k.toNat * 1 + 1) = #[.func (.func (B5b k)) #[] #[]] := by
 rcases (show k = 1 ∨ k = 2 ∨ k = 3 ∨ k = 4 ∨ k = 5 ∨ k = 6 ∨ k = 7 by omega) with e | e | e | e | e | e | e <;> subst e <;> rfl
theorem P2c (wz : World) : M0a Tryz.prog 155 #[] wz fun v w' => v = .agg K7b ∧ Below wz.heap.size wz w' := by
 have S := St.refl wz
 refine a0a Tryz.func155 rfl Tryz.ntmps155 rfl ?_
 refine wO0 rfl ⟨⟩ (n0a S w8c rfl rfl ?_)
 intro g0 w0 S0 X0 G0
 refine lO0 rfl ⟨⟩ (i1a I6a (vs := [(0, .func _ _ _)]) (cs := [_]) rfl rfl rfl rfl ?_)
 refine i1a I6a (vs := [(0, .func _ _ _)]) (cs := [_]) rfl rfl rfl rfl ?_
 refine i1a I6a (vs := [(0, .func _ _ _)]) (cs := [_]) rfl rfl rfl rfl ?_
 refine i1a I6a (vs := [(0, .func _ _ _)]) (cs := [_]) rfl rfl rfl rfl ?_
 refine i1a I6a (vs := [(0, .func _ _ _)]) (cs := [_]) rfl rfl rfl rfl ?_
 refine i1a I6a (vs := [(0, .func _ _ _)]) (cs := [_]) rfl rfl rfl rfl ?_
 refine i1a I6a (vs := [(0, .func _ _ _)]) (cs := [_]) rfl rfl rfl rfl ?_
 refine c1a (v := .agg K7b) (w' := w0) rfl rfl rfl (by simp) (by kernel_rfl) ?_
 first | refine e0a (kk := 0) (vs := [_, _, _, _, _, _, _, _]) S0 h7c rfl rfl rfl rfl rfl rfl rfl ?_
 intro w1_8 S1_8 X1_8
 dsimp only [k0a, List.set] at S1_8
 refine lR0 rfl ⟨⟩ ?_
 exact r1a (n := 8) rfl (b2a (by rw [Tryz.underlying205]; simp) (by kernel_rfl)) rfl (S1_8.cells 0 rfl) rfl ⟨rfl, S1_8.fin⟩
section
variable {P : Program} {N : Nat} {ops : Array Oper} {C : World → Prop} {rest : List Oper} {K : Env → Prop} {e : Env} {d : Nat} {t : TypeId} {p : String} {af : Array Edge} {x y : Operand} {kd : IntKind} {a : Int}
theorem B2c {ty len el size : Nat} {cs cs' : Array Value} (hu : P.underlying ty = some (.array len el)) (hsz : ∀ w : World, (sizeOf el).run P w = .ok size w) (ha : ∀ w : World, (isAgg el).run P w = .ok true w) (hx : ev e x = .agg cs) (hy : ev e y = .int kd a) (h0 : 0 ≤ a) (h1 : a < len) (hv : cs.extract (a.toNat * size) (a.toNat * size + size) = cs') (hd : Nat.ble (d + 1) N = true)
 (h : QL P N ops C rest K (upd e d (.agg cs'))) : QL P N ops C (⟨some d, .index ty x y, t, p, af, none⟩ :: rest) K e :=
 B3a rfl rfl hd (fun w _ => by simp [execOp, Instr.index, hx, hy, asIntOf, run_underlying hu, h0, h1, hsz, part, ha, hv]) h
end
theorem Y7a {M : List Nat} {w : World} {g : Nat} (hM : ∀ g ∈ M, g < w.heap.size) (h : w.heap.size ≤ g) : g ∉ M := fun hh => by have := hM g hh; omega
theorem T7b : ∀ w : World, (sizeOf 204).run Tryz.prog w = .ok 1 w := fun _ => by kernel_rfl
theorem H1c : ∀ w : World, (isAgg 204).run Tryz.prog w = .ok true w := fun _ => by kernel_rfl
theorem w2c (p : f0a) (t : Nat) (x : Q0a) (s : t1a) (M : List Nat) (w0 : World) (cs ss ts : List Value) (h : k7a p t x s M w0 cs ss) (hT : N0a M w0 ts x) (hpt : 1 ≤ x.points) (hpt2 : x.points ≤ 48) :
 M0a Tryz.prog 128 #[.agg cs.toArray, .int .i64 t, .agg ts.toArray, .agg ss.toArray] w0 fun v w' => v = .int .i64 0 ∧ Below w0.heap.size w0 w' := by
 obtain ⟨hP, hS, hp, hso, hK, hM⟩ := h
 obtain ⟨Ac, nc, cc, Am, nm, cm, Al, nl, cl, At, nt, ct, rfl, hC, _, _, _, _, _, _, _, _, _, _, _⟩ := hP.open_
 obtain ⟨Ag, ng, cg, As, ns, cs', rfl, ⟨_, _, _, _, _⟩, hG, hSet, _, _⟩ := hS.open_
 obtain ⟨Aa1, na1, ca1, Am1, nm1, cm1, As1, ns1, cs1, Al1, nl1, cl1, rfl, _, _, _, _, _, _, _, _, _, _, _, _, _⟩ := hT.open_
 have S := St.refl w0
 have hM' : ∀ w' : World, w0.heap.size ≤ w'.heap.size → ∀ g ∈ M, g < w'.heap.size := fun w' h g hg => by have := hM g hg; omega
 have k0 := hso.kind
 have k1 := hso.frm
 have k2 := hso.to
 have k3 := hso.mod
 have k4 := hso.rel
 have k5 := hso.tgt
 have k6 := hso.guard
 unfold t2a at k3
 have hdis : s.set.Pairwise fun a b => Value.int .i64 a.cell ≠ .int .i64 b.cell := hso.once.imp fun h e => h (by injection e)
 refine a0a Tryz.func128 rfl Tryz.ntmps128 rfl ?_
 refine wO0 rfl ⟨⟩ (j0a S (by conv => lhs; whnf) rfl ?_)
 intro g4 w4 S4 X4 G4
 refine j0a S4 (by conv => lhs; whnf) rfl ?_
 intro g6 w6 S6 X6 G6
 refine j0a S6 (by conv => lhs; whnf) rfl ?_
 intro g7 w7 S7 X7 G7
 refine lCn 3 S7.k [] rfl ⟨⟩ (wX (fun D ε w => D = [] ∧ ∃ aim : Bool, (s.kind = 6 ∨ s.kind = 7 → aim = true) ∧ St [] w0 w [(some g7, 90, [.int .i64 s.kind, .int .i64 s.frm, .int .i64 s.to, .int .i64 s.guard.op, .int .i64 s.guard.w, .int .i64 s.guard.n, .slice Ag ng cg, .slice As ns cs', .bool s.release, .int .i64 s.target, .int .i64 s.module_]), (some g6, 86, [.string x.name, .int .i64 x.points, .slice Aa1 na1 ca1, .slice Am1 nm1 cm1, .slice As1 ns1 cs1, .slice Al1 nl1 cl1, .bool x.asleep]), (some g4, 154, [.slice Ac nc cc, .slice Am nm cm, .slice Al nl cl, .slice At nt ct])] ∧ Sl ε [(1, .int .i64 t), (4, .pointer (some ⟨g4, 0, none⟩)), (6, .pointer (some ⟨g6, 0, none⟩)), (7, .pointer (some ⟨g7, 0, none⟩)), (9, .bool aim)]) ?_ ?_)
 ·refine wB S7.k [.o 0] rfl ⟨rfl,⟨⟩⟩ (fun h17 => ?_) fun h17 => ?_
  ·refine lP0 rfl ⟨⟩ ⟨rfl, (_), ?_, S7, rfl⟩
   exact fun _ => rfl
  refine lB S7.k [.o 0] rfl ⟨rfl,⟨⟩⟩ (fun h21 => ?_) fun h21 => ?_
  ·refine lP0 rfl ⟨⟩ ⟨rfl, (_), ?_, S7, rfl⟩
   exact fun _ => rfl
  refine lP0 rfl ⟨⟩ ⟨rfl, (_), ?_, S7, rfl⟩
  exact fun h => absurd h (by omega)
 rintro D ε w ⟨rfl, aim, haim, S, eZ⟩
 refine wK eZ (wX (fun D ε w => D = [] ∧ St [] w0 w [(some g7, 90, [.int .i64 s.kind, .int .i64 s.frm, .int .i64 s.to, .int .i64 s.guard.op, .int .i64 s.guard.w, .int .i64 s.guard.n, .slice Ag ng cg, .slice As ns cs', .bool s.release, .int .i64 s.target, .int .i64 s.module_]), (some g6, 86, [.string x.name, .int .i64 x.points, .slice Aa1 na1 ca1, .slice Am1 nm1 cm1, .slice As1 ns1 cs1, .slice Al1 nl1 cl1, .bool x.asleep]), (some g4, 154, [.slice Ac nc cc, .slice Am nm cm, .slice Al nl cl, .slice At nt ct])] ∧ Sl ε [(1, .int .i64 t), (4, .pointer (some ⟨g4, 0, none⟩)), (7, .pointer (some ⟨g7, 0, none⟩))]) ?_ ?_)
 ·refine wB S.k [.o 0] rfl ⟨rfl,⟨⟩⟩ (fun h26 => by exfalso; omega) fun h26 => ?_
  refine lB S.k [.o 0] rfl ⟨rfl,⟨⟩⟩ (fun h29 => by exfalso; omega) fun h29 => ?_
  refine lO S.k [.o 0,.o 1] rfl ⟨by omega,rfl,rfl,⟨⟩⟩ (g0a S S2a rfl rfl ((show decide (0 ≤ s.frm ∧ s.frm < x.points - 1) = true from decide_eq_true (by omega)) ▸ f2a _ _ _) ?_)
  intro w36 S36 X36
  refine lO S36.k [.o 0,.o 1] rfl ⟨rfl,rfl,⟨⟩⟩ (g0a S36 S2a rfl rfl ((show decide (0 ≤ s.to ∧ s.to < x.points) = true from decide_eq_true (by omega)) ▸ f2a _ _ _) ?_)
  intro w42 S42 X42
  refine lO S42.k [.o 0,.o 2] rfl ⟨rfl,rfl,⟨⟩⟩ (g0a S42 S2a rfl rfl ((show decide (0 ≤ s.module_ ∧ s.module_ < (nm : Int)) = true from decide_eq_true (by omega)) ▸ f2a _ _ _) ?_)
  intro w50 S50 X50
  refine lO0 rfl ⟨⟩ ?_
  rcases (Bool.eq_false_or_eq_true (s.release)).symm with hb54 | hb54
  ·refine s0a B2a rfl (by exact (S50.cell 0 rfl rfl).trans (congrArg (fun b => some (Value.bool b)) hb54)) rfl ?_
   refine lB S50.k [.o 0] rfl ⟨rfl,⟨⟩⟩ (fun h62 => ?_) fun h62 => ?_
   ·refine lOn 1 S50.k [] rfl ⟨⟩ (V3b rfl rfl rfl ?_)
    have haimT := haim (k5 h62)
    subst haimT
    refine m1a (v := .bool true) rfl rfl ?_
    refine lB S50.k [.o 0] rfl ⟨rfl,⟨⟩⟩ (fun h71 => by exfalso; omega) fun h71 => ?_
    refine lO S50.k [.o 0,.o 2] rfl ⟨rfl,rfl,⟨⟩⟩ (g0a S50 p7a rfl rfl (k6.1 ▸ I2a s.guard M _ _ _ p.cells false (RdE.keep (S50.keep0 M) _ _ hG) (hC.keep (S50.keep0 M)) (hK.keep (S50.keep0 M))) ?_)
    intro w77 S77 X77
    refine lP0 rfl ⟨⟩ ⟨rfl, S77, rfl⟩
   refine lB S50.k [.o 0] rfl ⟨rfl,⟨⟩⟩ (fun h71 => by exfalso; omega) fun h71 => ?_
   refine lO S50.k [.o 0,.o 2] rfl ⟨rfl,rfl,⟨⟩⟩ (g0a S50 p7a rfl rfl (k6.1 ▸ I2a s.guard M _ _ _ p.cells false (RdE.keep (S50.keep0 M) _ _ hG) (hC.keep (S50.keep0 M)) (hK.keep (S50.keep0 M))) ?_)
   intro w77 S77 X77
   refine lP0 rfl ⟨⟩ ⟨rfl, S77, rfl⟩
  refine s0a B2a rfl (by exact (S50.cell 0 rfl rfl).trans (congrArg (fun b => some (Value.bool b)) hb54)) rfl ?_
  refine lB S50.k [.o 0] rfl ⟨rfl,⟨⟩⟩ (fun h58 => by exact absurd (k4 hb54) h58) (fun h58 => ?_)
  refine lB S50.k [.o 0] rfl ⟨rfl,⟨⟩⟩ (fun h62 => ?_) fun h62 => ?_
  ·refine lOn 1 S50.k [] rfl ⟨⟩ (V3b rfl rfl rfl ?_)
   have haimT := haim (k5 h62)
   subst haimT
   refine m1a (v := .bool true) rfl rfl ?_
   refine lB S50.k [.o 0] rfl ⟨rfl,⟨⟩⟩ (fun h71 => by exfalso; omega) fun h71 => ?_
   refine lO S50.k [.o 0,.o 2] rfl ⟨rfl,rfl,⟨⟩⟩ (g0a S50 p7a rfl rfl (k6.1 ▸ I2a s.guard M _ _ _ p.cells false (RdE.keep (S50.keep0 M) _ _ hG) (hC.keep (S50.keep0 M)) (hK.keep (S50.keep0 M))) ?_)
   intro w77 S77 X77
   refine lP0 rfl ⟨⟩ ⟨rfl, S77, rfl⟩
  refine lB S50.k [.o 0] rfl ⟨rfl,⟨⟩⟩ (fun h71 => by exfalso; omega) fun h71 => ?_
  refine lO S50.k [.o 0,.o 2] rfl ⟨rfl,rfl,⟨⟩⟩ (g0a S50 p7a rfl rfl (k6.1 ▸ I2a s.guard M _ _ _ p.cells false (RdE.keep (S50.keep0 M) _ _ hG) (hC.keep (S50.keep0 M)) (hK.keep (S50.keep0 M))) ?_)
  intro w77 S77 X77
  refine lP0 rfl ⟨⟩ ⟨rfl, S77, rfl⟩
 rintro D ε w ⟨rfl, S, eZ⟩
 refine wK eZ (wO0 rfl ⟨⟩ ?_)
 refine e4a (k := 3) S rfl ?_
 intro g79 w79 S79 X79 G79 Mp79
 have hg79 : w0.heap.size ≤ g79 := by have := S.size; omega
 refine lC S79.k [.o 0] rfl ⟨rfl,⟨⟩⟩ (wL (fun μk D ε w => D = [] ∧ ∃ k : Nat, (k + μk = (s.set.length)) ∧ (w2a Tryz.prog 3 w g79 (u4a ((s.set.take k).map fun c => .int .i64 c.cell))) ∧ St [] w0 w [(some g7, 90, [.int .i64 s.kind, .int .i64 s.frm, .int .i64 s.to, .int .i64 s.guard.op, .int .i64 s.guard.w, .int .i64 s.guard.n, .slice Ag ng cg, .slice As ns cs', .bool s.release, .int .i64 s.target, .int .i64 s.module_]), (some g6, 86, [.string x.name, .int .i64 x.points, .slice Aa1 na1 ca1, .slice Am1 nm1 cm1, .slice As1 ns1 cs1, .slice Al1 nl1 cl1, .bool x.asleep]), (some g4, 154, [.slice Ac nc cc, .slice Am nm cm, .slice Al nl cl, .slice At nt ct])] ∧ Sl ε [(1, .int .i64 t), (4, .pointer (some ⟨g4, 0, none⟩)), (7, .pointer (some ⟨g7, 0, none⟩)), (10, .map (some g79)), (81, .slice As ns cs'), (82, .int .i64 ns), (83, .int .i64 k)]) (μ := (s.set.length)) ⟨rfl, 0, by omega, (by simpa [u4a] using Mp79), S79, rfl⟩ ?_)
 rintro μk D ε w ⟨rfl, k, _, Mp79, S, eZ⟩
 refine wK eZ (wB0 rfl ⟨⟩ (fun h84 => ?_) fun h84 => ?_)
 ·obtain ⟨a, b85, p85, _, hxa, hA85, _, hl85, hc85, hr85⟩ := RdS.get (hSet) (k) (by omega)
  obtain ⟨_, _, _, rfl, ia85, hE85⟩ := R0a.open_ hr85
  have q1 := hso.set a (c0a hxa)
  have q2 := q1.1
  unfold t2a at q2
  have q3 := q1.2.2
  refine lO (S.k.a hc85) [.x b85 p85,.v 0] rfl ⟨⟨rfl,hl85⟩,⟨hA85,by omega⟩,⟨⟩⟩ (n0a S t2b rfl rfl ?_)
  intro g12 w12 S12 X12 G12
  replace Mp79 := Mp79.keep X12 (List.not_mem_nil)
  refine e0a (kk := 0) (vs := [_, _, _, _, _]) S12 v3b rfl rfl rfl rfl rfl rfl rfl ?_
  intro w18_3 S18_3 X18_3
  dsimp only [k0a, List.set] at S18_3
  replace Mp79 := Mp79.keep X18_3 (fun hh => by rw [List.mem_singleton] at hh; exact Mp79.ne (S12.blk 0 rfl) hh)
  refine lO S18_3.k [.o 0] rfl ⟨rfl,⟨⟩⟩ ?_
  have hk91 := n3c ia85
  have hnew := X3a hdis hxa
  refine B9a (Go.Maps.int_keyed Tryz.underlying3) Tryz.underlying183 v0b Mp79 rfl rfl hk91 rfl (fun v hv => absurd rfl (Q4a hnew _ hv)) (fun _ => ?_)
  refine lO0 rfl ⟨⟩ (n0a S18_3 v0b rfl rfl ?_)
  intro g13 w13 S13 X13 G13
  replace Mp79 := Mp79.keep X13 (List.not_mem_nil)
  refine e0a (kk := 0) (vs := []) S13 a8b rfl rfl rfl rfl rfl rfl rfl ?_
  intro w19_8 S19_8 X19_8
  dsimp only [k0a, List.set] at S19_8
  replace Mp79 := Mp79.keep X19_8 (fun hh => by rw [List.mem_singleton] at hh; exact Mp79.ne (S13.blk 0 rfl) hh)
  refine lO S19_8.k [.o 1,.o 4] rfl ⟨rfl,rfl,⟨⟩⟩ (g0a S19_8 S2a rfl rfl ((show decide (0 ≤ a.cell ∧ a.cell < (nc : Int)) = true from decide_eq_true (by omega)) ▸ f2a _ _ _) ?_)
  intro w102 S102 X102
  replace Mp79 := Mp79.keep X102 (List.not_mem_nil)
  refine lO S102.k [.o 1] rfl ⟨rfl,⟨⟩⟩ (i1a f5b (vs := []) (cs := []) rfl rfl rfl rfl ?_)
  refine e7a (key := .int .i64 a.cell) (v := .agg #[]) S102 (Go.Maps.int_keyed Tryz.underlying3) Tryz.underlying183 Mp79 rfl rfl rfl hk91 (Q4a hnew) (.inl hg79) ?_
  intro wm Sm Xm Mm
  clear Mp79
  have Mp79 := Mm
  refine lC0 rfl ⟨⟩ (D0a b0a [0, 1, 2, 3, 4, 5, 6, 7, 8, 9, 10, 11, 12, 13, 14, 15, 16, 17, 18, 19, 20] [] [] (by kernel_rfl) rfl (Cl _ _ _ _) (Cl.start Sm) ?_)
  obtain ⟨c, b117, p117, _, hxc, hA117, _, _, hc117, hr117⟩ := RdS.get (hC) (a.cell.toNat) (by omega)
  obtain ⟨rfl, _, _, _, _⟩ := Z2a.open_ hr117
  rw [A5a q2.1 hxc] at q3
  refine qB (Sm.q.a hc117) [.o 1,.o 4,.o 1,.x b117 p117,.f 0 1] rfl ⟨rfl,⟨hA117,by omega⟩,rfl,rfl,rfl,⟨⟩⟩ (fun h120 => by exfalso; omega) fun h120 => ?_
  refine qO Sm.q [.o 1,.o 4] rfl ⟨rfl,rfl,⟨⟩⟩ (H2a p7a rfl rfl (fun w1 S1 X1 => q1.2.1 ▸ I2a a.to M _ _ _ p.cells false (RdE.keep (S1.keep0 M) _ _ hE85) (hC.keep (S1.keep0 M)) (hK.keep (S1.keep0 M))) ?_)
  refine qD rfl ⟨⟩ ?_
  rintro wR23 ⟨SR23, XR23⟩
  replace Mp79 := Mp79.keep XR23 (List.not_mem_nil)
  refine lP0 rfl ⟨by omega,⟨⟩⟩ ?_
  refine ⟨μk - 1, by omega, rfl, (k + 1), (by omega), ((by rw [J0a hxa, List.map_append, List.map_singleton, F7a]; exact Mp79)), SR23.tail.tail, rfl⟩
 refine lC0 rfl ⟨⟩ (D0a b0a [0, 1, 2, 3, 4, 5, 6, 7] [] [8, 9] (by kernel_rfl) rfl (Cl _ _ _ _) (Cl.start S) ?_)
 refine H2a r4c rfl rfl (fun w1 S1 X1 => P2c _) ?_
 refine qO S.q [.o 0] rfl ⟨rfl,⟨⟩⟩ (B2c Tryz.underlying205 T7b H1c rfl rfl (by omega) (by omega) (b8b (by omega) (by omega)) rfl ?_)
 refine qN S.q [.w 2,.w 0] rfl ⟨⟨rfl,rfl⟩,⟨rfl,rfl⟩,⟨⟩⟩ (w5a ?_)
 refine o2a ?_
 rintro wR26 ⟨SR26, _⟩
 refine S1b u7b rfl rfl rfl (q5c p t x s M _ _ _ ⟨hP.keep (SR26.keep0 M), m2a.keep (SR26.keep0 M) _ _ hS, hp, hso, hK.keep (SR26.keep0 M), hM' _ SR26.size⟩) ?_
 rintro v139 w139 ⟨rfl, B139⟩
 have S139 := SR26.later B139
 exact lT rfl ⟨⟩ rfl ⟨rfl, S139.fin⟩
theorem m7b (c : Int) (g : Nat) (w0 : World) (Ac Am Al At : Option Addr) (nc cc nm cm nl cl nt ct : Nat) (hg : k1a w0 g 0 [.slice Ac nc cc, .slice Am nm cm, .slice Al nl cl, .slice At nt ct]) :
 M0a Tryz.prog 126 #[.int .i64 c, .pointer (some ⟨g, 0, none⟩)] w0 fun v w' => v = .bool (decide (0 ≤ c ∧ c < (nm : Int))) ∧ Below w0.heap.size w0 w' := by
 have S := St.refl w0
 refine a0a Tryz.func126 rfl Tryz.ntmps126 rfl ?_
 refine wO0 rfl ⟨⟩ (s0a k3c rfl (by first | exact S.old (hg 1 _ rfl)) rfl ?_)
 refine lO0 rfl ⟨⟩ (y0a S S2a rfl rfl (f2a _ _ _) (fun h9 w9 S9 X9 => ?_) (fun h9 w9 S9 X9 => ?_))
 ·refine lR0 rfl ⟨⟩ (r0a rfl (by conv => lhs; whnf) ?_)
  exact ⟨by rw [h9], S9.fin⟩
 refine lR0 rfl ⟨⟩ (r0a rfl (by conv => lhs; whnf) ?_)
 exact ⟨by rw [h9], S9.fin⟩
theorem L6b (c pts hd : Int) (g g' : Nat) (w0 : World) (hg : w0.cell? ⟨g, 1, none⟩ = some (.int .i64 pts)) (hg' : w0.cell? ⟨g', 0, none⟩ = some (.int .i64 hd)) :
 M0a Tryz.prog 129 #[.int .i64 c, .pointer (some ⟨g, 0, none⟩), .pointer (some ⟨g', 0, none⟩)] w0 fun v w' => v = .bool (decide ((0 ≤ c ∧ c < pts) ∧ c ≠ hd)) ∧ Below w0.heap.size w0 w' := by
 have S := St.refl w0
 refine a0a Tryz.func129 rfl Tryz.ntmps129 rfl ?_
 refine wO0 rfl ⟨⟩ (s0a C0a rfl (by exact S.old hg) rfl ?_)
 refine y0a S S2a rfl rfl (f2a _ _ _) (fun h8 w8 S8 X8 => ?_) (fun h8 w8 S8 X8 => ?_)
 ·refine lO0 rfl ⟨⟩ (s0a C0a rfl (by exact S8.old hg') rfl ?_)
  refine lB0 rfl ⟨⟩ (fun h13 => ?_) fun h13 => ?_
  ·refine lT rfl ⟨⟩ rfl ⟨congrArg Value.bool ?_, S8.fin⟩
   exact (decide_eq_true ⟨of_decide_eq_true h8, by omega⟩).symm
  refine lT rfl ⟨⟩ rfl ⟨congrArg Value.bool ?_, S8.fin⟩
  exact (decide_eq_false fun h => by omega).symm
 refine lT rfl ⟨⟩ rfl ⟨congrArg Value.bool ?_, S8.fin⟩
 exact (decide_eq_false fun h => of_decide_eq_false h8 h.1).symm
theorem w0b (M : List Nat) (w0 : World) (v vf : Value) (l : List Int) (q : Int → Bool) (hR : RdI M w0 v l) (hp : i2a Tryz.prog M w0 vf q) (hM : ∀ g ∈ M, g < w0.heap.size) (hq : ∀ c ∈ l, q c = true) :
 M0a Tryz.prog 125 #[v, vf] w0 fun v w' => v = .bool true ∧ Below w0.heap.size w0 w' :=
 (y5a M w0 v vf l q hR hp hM).mono fun v w' h => ⟨by rw [h.1, List.all_eq_true.2 hq], h.2⟩
def U9c (nm : Nat) (c : Int) : Bool := decide (0 ≤ c ∧ c < (nm : Int))
def R6c (pts hd c : Int) : Bool := decide ((0 ≤ c ∧ c < pts) ∧ c ≠ hd)
theorem O2b {g : Nat} {M : List Nat} {w0 : World} {Ac Am Al At : Option Addr} {nc cc nm cm nl cl nt ct : Nat} (hg : k1a w0 g 0 [.slice Ac nc cc, .slice Am nm cm, .slice Al nl cl, .slice At nt ct]) (hM : g ∉ M) :
 i2a Tryz.prog M w0 (.func (.func 126) #[] #[.pointer (some ⟨g, 0, none⟩)]) (U9c nm) :=
 ⟨_, _, _, rfl, P5c, fun w' hk c _ => m7b c g w' Ac Am Al At nc cc nm cm nl cl nt ct (hg.keep hk hM)⟩
theorem y3b {g g' : Nat} {M : List Nat} {w0 : World} {pts hd : Int} (hg : w0.cell? ⟨g, 1, none⟩ = some (.int .i64 pts)) (hg' : w0.cell? ⟨g', 0, none⟩ = some (.int .i64 hd)) (hM : g ∉ M) (hM' : g' ∉ M) :
 i2a Tryz.prog M w0 (.func (.func 129) #[] #[.pointer (some ⟨g, 0, none⟩), .pointer (some ⟨g', 0, none⟩)]) (R6c pts hd) :=
 ⟨_, _, _, rfl, k6c, fun w' hk c _ => L6b c pts hd g g' w' (hk.cell (a := ⟨g, 1, none⟩) hM hg) (hk.cell (a := ⟨g', 0, none⟩) hM' hg')⟩
theorem W6b (p : f0a) (t : Nat) (x : Q0a) (b : Nat) (l : List Value) (M : List Nat) (w0 : World) (cs ts : List Value) (hP : j1a M w0 p cs) (hT : N0a M w0 ts x) (hp : b1a p) (hK : a3a M w0) (hM : ∀ g ∈ M, g < w0.heap.size) (hb : b ∈ M)
 (hx : p.threads[t]? = some x) (hm : w2a Tryz.prog 9 w0 b (u4a l)) (hnew : Value.string x.name ∉ l) :
 M0a Tryz.prog 100 #[.agg cs.toArray, .int .i64 t, .agg ts.toArray, .map (some b)] w0 fun v w' => v = .tuple #[.int .i64 0, .int .i64 (-1)] ∧ v0a [b] w0 w' ∧ w2a Tryz.prog 9 w' b (u4a (l ++ [.string x.name])) := by
 obtain ⟨Ac, nc, cc, Am, nm, cm, Al, nl, cl, At, nt, ct, rfl, hC, _, _, _, _, _, _, _, _, _, _, _⟩ := hP.open_
 obtain ⟨Aa1, na1, ca1, Am1, nm1, cm1, As1, ns1, cs1, Al1, nl1, cl1, rfl, _, hEs1, hMs1, hSt1, hLo1, _, _, _, _, _, _, _, _⟩ := hT.open_
 have S := St.reflM [b] w0
 have hsub : ∀ g ∈ [b], g ∈ M := fun g hg => by rw [List.mem_singleton] at hg; subst hg; exact hb
 have hM' : ∀ w' : World, w0.heap.size ≤ w'.heap.size → ∀ g ∈ M, g < w'.heap.size := fun w' h g hg => by have := hM g hg; omega
 have hto := hp.thread hx
 have k1 := hto.points
 have k2 := hto.asserts
 have k3 := hto.nmod
 have hsz : x.name.size ≤ 140737488355328 := by have := hto.name.2.1; omega
 refine a0a Tryz.func100 rfl Tryz.ntmps100 rfl ?_
 refine wO0 rfl ⟨⟩ (j0a S (by conv => lhs; whnf) rfl ?_)
 intro g4 w4 S4 X4 G4
 replace hm := hm.keep X4 (List.not_mem_nil)
 refine j0a S4 (by conv => lhs; whnf) rfl ?_
 intro g6 w6 S6 X6 G6
 replace hm := hm.keep X6 (List.not_mem_nil)
 refine lO S6.k [.o 0] rfl ⟨rfl,⟨⟩⟩ (g0a S6 J1b rfl rfl (r7a _ _ hto.name) ?_)
 intro w22 S22 X22
 replace hm := hm.keep X22 (List.not_mem_nil)
 refine lO S22.k [.o 0] rfl ⟨rfl,⟨⟩⟩ ?_
 have hG6 : w0.heap.size ≤ g6 := by have := S4.size; omega
 refine e2a z1b rfl rfl (N8a b _ x.name _ hm hsz hnew) ?_
 rintro v28 w28 ⟨rfl, B28, M28⟩
 have S28 := S22.turned hm (.inr (by simp)) B28
 clear hm
 have hm := M28
 refine lB S28.k [.o 0] rfl ⟨rfl,⟨⟩⟩ (fun h32 => by exfalso; omega) fun h32 => ?_
 refine lB S28.k [.o 0,.o 0] rfl ⟨rfl,rfl,⟨⟩⟩ (fun h38 => by exfalso; omega) fun h38 => ?_
 refine lB S28.k [.o 0,.o 0] rfl ⟨rfl,rfl,⟨⟩⟩ (fun h44 => by exfalso; omega) fun h44 => ?_
 refine lO S28.k [.o 0] rfl ⟨rfl,⟨⟩⟩ (E1a rfl rfl ?_)
 refine g0a S28 T7a rfl rfl (w0b M _ _ _ x.modules (U9c nm) (hMs1.keep (S28.keepM.mono hsub)) (O2b (S28.cells 1 rfl) (Y7a hM G4)) (hM' _ S28.size) (fun c hc => decide_eq_true (by have := hto.modules c hc; unfold t2a at this; omega))) ?_
 intro w49 S49 X49
 replace hm := hm.keep X49 (List.not_mem_nil)
 refine lO S49.k [.w 1] rfl ⟨⟨rfl,rfl⟩,⟨⟩⟩ (B0a S49 I4b rfl rfl (A6a p t M _ _ (hP.keep (S49.keepM.mono hsub)) (hM' _ S49.size)) ?_)
 rintro v53 w53 hq S53 X53
 replace hm := hm.keep X53 (List.not_mem_nil)
 obtain ⟨f, first, caps, rfl, _, _⟩ := id hq
 have K53 := w0a.refl [] w53
 refine lC S53.k [.o 0] rfl ⟨rfl,⟨⟩⟩ (wL (fun μk D ε w => D = [] ∧ ∃ k : Nat, (k + μk = (x.asserts.length)) ∧ (w2a Tryz.prog 9 w b (u4a (l ++ [.string x.name]))) ∧ (w0a [] w53 w) ∧ St [b] w0 w [(some g6, 86, [.string x.name, .int .i64 x.points, .slice Aa1 na1 ca1, .slice Am1 nm1 cm1, .slice As1 ns1 cs1, .slice Al1 nl1 cl1, .bool x.asleep]), (some g4, 154, [.slice Ac nc cc, .slice Am nm cm, .slice Al nl cl, .slice At nt ct])] ∧ Sl ε [(1, .int .i64 t), (4, .pointer (some ⟨g4, 0, none⟩)), (6, .pointer (some ⟨g6, 0, none⟩)), (10, .func (.func f) first caps), (55, .slice Aa1 na1 ca1), (56, .int .i64 na1), (57, .int .i64 k)]) (μ := (x.asserts.length)) ⟨rfl, 0, by omega, hm, K53, S53, rfl⟩ ?_)
 rintro μk D ε w ⟨rfl, k, hk, hm, K53, S, eZ⟩
 refine wK eZ (wB0 rfl ⟨⟩ (fun h58 => ?_) fun h58 => ?_)
 ·obtain ⟨e, b59, p59, _, hxe, hA59, hM59, hl59, hc59, hr59⟩ := RdS.get (hEs1) (k) (by omega)
  obtain ⟨_, _, _, rfl, _, _, _, _, _⟩ := RdE.cells hr59
  have q1 := hto.truth e (c0a hxe)
  refine lO (S.k.b (hc59.keep (S.keepM.mono hsub) hM59)) [.x b59 p59,.v 0] rfl ⟨⟨rfl,hl59⟩,⟨hA59,by omega⟩,⟨⟩⟩ (n0a S m7a rfl rfl ?_)
  intro g12 w12 S12 X12 G12
  have GK5312 := Nat.le_trans K53.size G12
  replace K53 := K53.trans X12
  replace hm := hm.keep X12 (List.not_mem_nil)
  refine e0a (kk := 0) (vs := [_, _, _, _]) S12 V5a rfl rfl rfl rfl rfl rfl rfl ?_
  intro w14_3 S14_3 X14_3
  dsimp only [k0a, List.set] at S14_3
  replace K53 := K53.fresh X14_3 (by first | exact GK5312)
  replace hm := hm.keep X14_3 (fun hh => by rw [List.mem_singleton] at hh; exact hm.ne (S12.blk 0 rfl) hh)
  refine lO S14_3.k [.w 2,.w 0] rfl ⟨⟨rfl,by rfl⟩,⟨rfl,rfl⟩,⟨⟩⟩ (g0a S14_3 y9a rfl rfl (r9a p e M _ _ _ false _ (Z1b p t) (hP.keep (S14_3.keepM.mono hsub)) (RdE.keep (S14_3.keepM.mono hsub) _ _ hr59) (hq.keep K53.of_nil) (hK.keep (S14_3.keepM.mono hsub)) (hM' _ S14_3.size) q1.2.1 q1.1 (q1b hp q1.1 q1.2.2)) ?_)
  intro w64 S64 X64
  replace K53 := K53.trans X64
  replace hm := hm.keep X64 (List.not_mem_nil)
  refine lP0 rfl ⟨by omega,⟨⟩⟩ ⟨μk - 1, by omega, rfl, (k + 1), (by omega), (hm), (K53), S64.tail, rfl⟩
 refine lC S.k [.o 0] rfl ⟨rfl,⟨⟩⟩ (wL (fun μk D ε w => D = [] ∧ ∃ k : Nat, (k + μk = (x.steps.length)) ∧ (w2a Tryz.prog 9 w b (u4a (l ++ [.string x.name]))) ∧ (w0a [] w53 w) ∧ St [b] w0 w [(some g6, 86, [.string x.name, .int .i64 x.points, .slice Aa1 na1 ca1, .slice Am1 nm1 cm1, .slice As1 ns1 cs1, .slice Al1 nl1 cl1, .bool x.asleep]), (some g4, 154, [.slice Ac nc cc, .slice Am nm cm, .slice Al nl cl, .slice At nt ct])] ∧ Sl ε [(1, .int .i64 t), (4, .pointer (some ⟨g4, 0, none⟩)), (6, .pointer (some ⟨g6, 0, none⟩)), (10, .func (.func f) first caps), (68, .slice As1 ns1 cs1), (69, .int .i64 ns1), (70, .int .i64 k)]) (μ := (x.steps.length)) ⟨rfl, 0, by omega, hm, K53, S, rfl⟩ ?_)
 rintro μk D ε w ⟨rfl, k, hk, hm, K53, S, eZ⟩
 refine wK eZ (wB0 rfl ⟨⟩ (fun h71 => ?_) fun h71 => ?_)
 ·obtain ⟨s, b73, p73, _, hxs, hA73, hM73, hl73, hc73, hr73⟩ := RdS.get (hSt1) (k) (by omega)
  obtain ⟨_, _, _, _, _, _, rfl, ⟨_, _, _, _, _⟩, _, _, _, _⟩ := m2a.open_ hr73
  refine lO (S.k.b (hc73.keep (S.keepM.mono hsub) hM73)) [.x b73 p73,.v 0] rfl ⟨⟨rfl,hl73⟩,⟨hA73,by omega⟩,⟨⟩⟩ (n0a S T6b rfl rfl ?_)
  intro g14 w14 S14 X14 G14
  have GK5314 := Nat.le_trans K53.size G14
  replace K53 := K53.trans X14
  replace hm := hm.keep X14 (List.not_mem_nil)
  refine lO0 rfl ⟨⟩ (e0a (kk := 0) (vs := [_, _, _, _, _, _, _, _, _, _, _]) S14 y6b rfl rfl rfl rfl rfl rfl rfl ?_)
  intro w20_5 S20_5 X20_5
  dsimp only [k0a, List.set] at S20_5
  replace K53 := K53.fresh X20_5 (by first | exact GK5314)
  replace hm := hm.keep X20_5 (fun hh => by rw [List.mem_singleton] at hh; exact hm.ne (S14.blk 0 rfl) hh)
  refine lO S20_5.k [.w 2,.w 1,.w 0] rfl ⟨⟨rfl,by rfl⟩,⟨rfl,rfl⟩,⟨rfl,rfl⟩,⟨⟩⟩ (g0a S20_5 e6c rfl rfl (w2c p t x s M _ _ _ _ ⟨hP.keep (S20_5.keepM.mono hsub), m2a.keep (S20_5.keepM.mono hsub) _ _ hr73, hp, hto.steps s (c0a hxs), hK.keep (S20_5.keepM.mono hsub), hM' _ S20_5.size⟩ (N0a.keep (S20_5.keepM.mono hsub) _ _ hT) k1.1 k1.2) ?_)
  intro w79 S79 X79
  replace K53 := K53.trans X79
  replace hm := hm.keep X79 (List.not_mem_nil)
  refine lB0 rfl ⟨⟩ (fun h81 => by exfalso; omega) fun h81 => ?_
  refine lP0 rfl ⟨by omega,⟨⟩⟩ ⟨μk - 1, by omega, rfl, (k + 1), (by omega), (hm), (K53), S79.tail, rfl⟩
 refine lC S.k [.o 0] rfl ⟨rfl,⟨⟩⟩ (wL (fun μk D ε w => D = [] ∧ ∃ k : Nat, (k + μk = (x.loops.length)) ∧ (w2a Tryz.prog 9 w b (u4a (l ++ [.string x.name]))) ∧ (w0a [] w53 w) ∧ St [b] w0 w [(some g6, 86, [.string x.name, .int .i64 x.points, .slice Aa1 na1 ca1, .slice Am1 nm1 cm1, .slice As1 ns1 cs1, .slice Al1 nl1 cl1, .bool x.asleep]), (some g4, 154, [.slice Ac nc cc, .slice Am nm cm, .slice Al nl cl, .slice At nt ct])] ∧ Sl ε [(4, .pointer (some ⟨g4, 0, none⟩)), (6, .pointer (some ⟨g6, 0, none⟩)), (10, .func (.func f) first caps), (86, .slice Al1 nl1 cl1), (87, .int .i64 nl1), (88, .int .i64 k)]) (μ := (x.loops.length)) ⟨rfl, 0, by omega, hm, K53, S, rfl⟩ ?_)
 rintro μk D ε w ⟨rfl, k, hk, hm, K53, S, eZ⟩
 refine wK eZ (wB0 rfl ⟨⟩ (fun h89 => ?_) fun h89 => ?_)
 ·obtain ⟨lp, b90, p90, _, hxlp, hA90, hM90, hl90, hc90, hr90⟩ := RdS.get (hLo1) (k) (by omega)
  obtain ⟨_, _, _, _, _, _, rfl, _, hB90, hE90, _, _⟩ := n5a.open_ hr90
  have q1 := hto.loops lp (c0a hxlp)
  have q2 := q1.head
  refine lO (S.k.b (hc90.keep (S.keepM.mono hsub) hM90)) [.x b90 p90,.v 0] rfl ⟨⟨rfl,hl90⟩,⟨hA90,by omega⟩,⟨⟩⟩ (n0a S Y9b rfl rfl ?_)
  intro g17 w17 S17 X17 G17
  have GK5317 := Nat.le_trans K53.size G17
  replace K53 := K53.trans X17
  replace hm := hm.keep X17 (List.not_mem_nil)
  refine e0a (kk := 0) (vs := [_, _, _, _, _, _]) S17 r0c rfl rfl rfl rfl rfl rfl rfl ?_
  intro w27_3 S27_3 X27_3
  dsimp only [k0a, List.set] at S27_3
  replace K53 := K53.fresh X27_3 (by first | exact GK5317)
  replace hm := hm.keep X27_3 (fun hh => by rw [List.mem_singleton] at hh; exact hm.ne (S17.blk 0 rfl) hh)
  refine lO0 rfl ⟨⟩ (E1a rfl rfl ?_)
  refine lO S27_3.k [.o 0,.o 1] rfl ⟨rfl,rfl,⟨⟩⟩ (g0a S27_3 S2a rfl rfl ((show decide (0 ≤ lp.head ∧ lp.head < x.points) = true from decide_eq_true (by omega)) ▸ f2a _ _ _) ?_)
  intro w98 S98 X98
  replace K53 := K53.trans X98
  replace hm := hm.keep X98 (List.not_mem_nil)
  refine lO S98.k [.o 0] rfl ⟨rfl,⟨⟩⟩ (g0a S98 F4b rfl rfl (k5a M _ _ _ (hB90.keep (S98.keepM.mono hsub)) q1.up) ?_)
  intro w102 S102 X102
  replace K53 := K53.trans X102
  replace hm := hm.keep X102 (List.not_mem_nil)
  refine lO S102.k [.o 0] rfl ⟨rfl,⟨⟩⟩ ?_
  have hG17 : w0.heap.size ≤ g17 := by have := S.size; omega
  refine g0a S102 T7a rfl rfl (w0b M _ _ _ lp.body (R6c x.points lp.head) (hB90.keep (S102.keepM.mono hsub)) (y3b (S102.cell 1 rfl rfl) (S102.cell 0 rfl rfl) (Y7a hM hG6) (Y7a hM hG17)) (hM' _ S102.size) (fun c hc => decide_eq_true (by have := q1.body c hc; omega))) ?_
  intro w107 S107 X107
  replace K53 := K53.trans X107
  replace hm := hm.keep X107 (List.not_mem_nil)
  refine lO S107.k [.o 0,.o 2] rfl ⟨rfl,rfl,⟨⟩⟩ (g0a S107 p7a rfl rfl (q1.variant.1 ▸ I2a lp.variant M _ _ _ p.cells false (RdE.keep (S107.keepM.mono hsub) _ _ hE90) (hC.keep (S107.keepM.mono hsub)) (hK.keep (S107.keepM.mono hsub))) ?_)
  intro w115 S115 X115
  replace K53 := K53.trans X115
  replace hm := hm.keep X115 (List.not_mem_nil)
  refine lO S115.k [.o 0] rfl ⟨rfl,⟨⟩⟩ (g0a S115 b8a rfl rfl ((q1b hp q1.variant.1 q1.variant.2) ▸ e6a lp.variant M _ _ _ (Z1b p t) (RdE.keep (S115.keepM.mono hsub) _ _ hE90) (hq.keep K53.of_nil) (hK.keep (S115.keepM.mono hsub)) (hM' _ S115.size)) ?_)
  intro w120 S120 X120
  replace K53 := K53.trans X120
  replace hm := hm.keep X120 (List.not_mem_nil)
  refine lP0 rfl ⟨by omega,⟨⟩⟩ ⟨μk - 1, by omega, rfl, (k + 1), (by omega), (hm), (K53), S120.tail, rfl⟩
 exact lT2 rfl ⟨⟩ rfl ⟨rfl, S.below, hm⟩
def G1b (k : Nat) : Nat := if k = 0 then 97 else if k = 1 then 98 else 99
def h4b (cs : Array Value) : Array Value := #[.func (.func 97) #[.agg cs] #[], .func (.func 98) #[.agg cs] #[], .func (.func 99) #[.agg cs] #[]]
theorem r7b {cs : Array Value} {k : Nat} (h : k < 3) : (h4b cs)[(k : Int).toNat]? = some (.func (.func (G1b k)) #[.agg cs] #[]) := by
 rcases (show k = 0 ∨ k = 1 ∨ k = 2 by omega) with e | e | e <;> subst e <;> rfl
theorem P4b {k : Nat} : Has Tryz.prog (G1b k) := by
 unfold G1b
 repeat' split
 ·exact G7c
 ·exact V6c
 ·exact o8c
theorem m1c (k : Nat) (hk : k < 3) (p : f0a) (M : List Nat) (w0 : World) (cs : List Value) (hP : j1a M w0 p cs) (hp : b1a p) (hK : a3a M w0) (hM : ∀ g ∈ M, g < w0.heap.size) :
 M0a Tryz.prog (G1b k) #[.agg cs.toArray] w0 fun v w' => v = .int .i64 0 ∧ Below w0.heap.size w0 w' := by
 rcases (show k = 0 ∨ k = 1 ∨ k = 2 by omega) with e | e | e <;> subst e
 ·exact s9b p M w0 cs hP hp
 ·exact N4b p M w0 cs hP hp hK hM
 ·exact W8b p M w0 cs hP hp hK hM
theorem k9a (p : f0a) (M : List Nat) (w0 : World) (cs : List Value) (hP : j1a M w0 p cs) (hp : b1a p) (hK : a3a M w0) (hM : ∀ g ∈ M, g < w0.heap.size) :
 M0a Tryz.prog 68 #[.agg cs.toArray] w0 fun v w' => v = .tuple #[.int .i64 0, .int .i64 (-1), .int .i64 (-1)] ∧ Below w0.heap.size w0 w' := by
 obtain ⟨Ac, nc, cc, Am, nm, cm, Al, nl, cl, At, nt, ct, rfl, _, _, _, hTh, _, _, _, _, _, _, _, _⟩ := hP.open_
 have S := St.refl w0
 have hM' : ∀ w' : World, w0.heap.size ≤ w'.heap.size → ∀ g ∈ M, g < w'.heap.size := fun w' h g hg => by have := hM g hg; omega
 have hdis : p.threads.Pairwise fun a b => Value.string a.name ≠ .string b.name := hp.threadNames.imp fun h e => h (by injection e)
 refine a0a Tryz.func68 rfl Tryz.ntmps68 rfl ?_
 refine wO0 rfl ⟨⟩ (j0a S (by conv => lhs; whnf) rfl ?_)
 intro g1 w1 S1 X1 G1
 refine lO S1.k [.w 0] rfl ⟨⟨rfl,rfl⟩,⟨⟩⟩ (i1a M5c (vs := [(0, .agg _)]) (cs := [_, _, _, _]) rfl rfl rfl rfl ?_)
 refine n0a S1 t8c rfl rfl ?_
 intro g5 w5 S5 X5 G5
 refine e0a (kk := 0) (vs := [_, _, _, _]) S5 K6c rfl rfl rfl rfl rfl rfl rfl ?_
 intro w1_3 S1_3 X1_3
 dsimp only [k0a, List.set] at S1_3
 refine lO S1_3.k [.w 0] rfl ⟨⟨rfl,rfl⟩,⟨⟩⟩ (g0a S1_3 g8c rfl rfl (P6b p M _ _ (hP.keep (S1_3.keep0 M)) hp) ?_)
 intro w20 S20 X20
 refine lB0 rfl ⟨⟩ (fun h24 => by exfalso; omega) fun h24 => ?_
 refine lO S20.k [.w 0] rfl ⟨⟨rfl,rfl⟩,⟨⟩⟩ (g2a rfl rfl rfl ?_)
 refine lO S20.k [.w 0] rfl ⟨⟨rfl,rfl⟩,⟨⟩⟩ (g2a rfl rfl rfl ?_)
 refine lO S20.k [.w 0] rfl ⟨⟨rfl,rfl⟩,⟨⟩⟩ (g2a rfl rfl rfl ?_)
 refine c1a (v := .agg (h4b #[.slice Ac nc cc, .slice Am nm cm, .slice Al nl cl, .slice At nt ct])) (w' := w20) rfl rfl rfl (by simp) (by kernel_rfl) ?_
 refine lC0 rfl ⟨⟩ (wL (fun μk D ε w => D = [] ∧ ∃ k : Nat, (k + μk = (3)) ∧ St [] w0 w [(some g5, 154, [.slice Ac nc cc, .slice Am nm cm, .slice Al nl cl, .slice At nt ct]), (some g1, 27, [.slice Ac nc cc, .slice Am nm cm, .slice Al nl cl, .slice At nt ct])] ∧ Sl ε [(1, .pointer (some ⟨g1, 0, none⟩)), (5, .pointer (some ⟨g5, 0, none⟩)), (33, .agg (h4b #[.slice Ac nc cc, .slice Am nm cm, .slice Al nl cl, .slice At nt ct])), (34, .int .i64 k)]) (μ := (3)) ⟨rfl, 0, by omega, S20, rfl⟩ ?_)
 rintro μk D ε w ⟨rfl, k, hk, S, eZ⟩
 refine wK eZ (wB0 rfl ⟨⟩ (fun h35 => ?_) fun h35 => ?_)
 ·refine lO0 rfl ⟨⟩ (L4b Z4c rfl rfl (by omega) (by omega) (r7b (by omega)) rfl ?_)
  refine lO0 rfl ⟨⟩ (w4a (vs := [.agg #[.slice Ac nc cc, .slice Am nm cm, .slice Al nl cl, .slice At nt ct]]) P4b rfl rfl rfl (m1c k (by omega) p M _ _ (hP.keep (S.keep0 M)) hp (hK.keep (S.keep0 M)) (hM' _ S.size)) ?_)
  rintro v38 w38 ⟨rfl, B38⟩
  have S38 := S.later B38
  refine lB0 rfl ⟨⟩ (fun h40 => by exfalso; omega) fun h40 => ?_
  refine lP0 rfl ⟨by omega,⟨⟩⟩ ⟨μk - 1, by omega, rfl, (k + 1), (by omega), S38, rfl⟩
 refine lO0 rfl ⟨⟩ (e4a (k := 9) S rfl ?_)
 intro g43 w43 S43 X43 G43 Mp43
 have hg43 : w0.heap.size ≤ g43 := by have := S.size; omega
 refine lC S43.k [.o 1] rfl ⟨rfl,⟨⟩⟩ (wL (fun μk D ε w => D = [] ∧ ∃ k : Nat, (k + μk = (p.threads.length)) ∧ (w2a Tryz.prog 9 w g43 (u4a ((p.threads.take k).map fun c => .string c.name))) ∧ St [] w0 w [(some g5, 154, [.slice Ac nc cc, .slice Am nm cm, .slice Al nl cl, .slice At nt ct]), (some g1, 27, [.slice Ac nc cc, .slice Am nm cm, .slice Al nl cl, .slice At nt ct])] ∧ Sl ε [(5, .pointer (some ⟨g5, 0, none⟩)), (11, .map (some g43)), (45, .slice At nt ct), (46, .int .i64 nt), (47, .int .i64 k)]) (μ := (p.threads.length)) ⟨rfl, 0, by omega, (by simpa [u4a] using Mp43), S43, rfl⟩ ?_)
 rintro μk D ε w ⟨rfl, k, hk, Mp43, S, eZ⟩
 refine wK eZ (wB0 rfl ⟨⟩ (fun h48 => ?_) fun h48 => ?_)
 ·obtain ⟨x, b50, p50, _, hxx, hA50, _, hl50, hc50, hr50⟩ := RdS.get (hTh) (k) (by omega)
  obtain ⟨_, _, _, _, _, _, _, _, _, _, _, _, rfl, _, _, _, _, _, _, _, _, _, _, _, _, _⟩ := N0a.open_ hr50
  refine lO (S.k.a hc50) [.x b50 p50,.v 0] rfl ⟨⟨rfl,hl50⟩,⟨hA50,by omega⟩,⟨⟩⟩ (n0a S b3b rfl rfl ?_)
  intro g13 w13 S13 X13 G13
  replace Mp43 := Mp43.keep X13 (List.not_mem_nil)
  refine lO0 rfl ⟨⟩ (e0a (kk := 0) (vs := [_, _, _, _, _, _, _]) S13 H2b rfl rfl rfl rfl rfl rfl rfl ?_)
  intro w15_5 S15_5 X15_5
  dsimp only [k0a, List.set] at S15_5
  replace Mp43 := Mp43.keep X15_5 (fun hh => by rw [List.mem_singleton] at hh; exact Mp43.ne (S13.blk 0 rfl) hh)
  refine lO S15_5.k [.w 1,.w 0] rfl ⟨⟨rfl,by rfl⟩,⟨rfl,rfl⟩,⟨⟩⟩ ?_
  have hnew := X3a hdis hxx
  have hmore : ∀ g ∈ g43 :: M, g ∈ M ∨ w0.heap.size ≤ g := fun g hg => by exact (List.mem_cons.1 hg).elim (fun h => .inr (by omega)) .inl
  have hlt : ∀ g ∈ g43 :: M, g < w15_5.heap.size := fun g hg => by exact (List.mem_cons.1 hg).elim (fun h => h ▸ Mp43.lt) (hM' _ S15_5.size g)
  refine e2a L5c rfl rfl (W6b p k x g43 _ (g43 :: M) _ _ _ ((hP.more hmore).keep (S15_5.keep0 _)) (N0a.keep (S15_5.keep0 _) _ _ (N0a.more hmore _ _ hr50)) hp ((hK.more hmore).keep (S15_5.keep0 _)) hlt (by simp) hxx Mp43 hnew) ?_
  rintro v57 w57 ⟨rfl, B57, M57⟩
  have S57 := S15_5.turned Mp43 (.inl hg43) B57
  refine lB0 rfl ⟨⟩ (fun h61 => by exfalso; omega) fun h61 => ?_
  refine lP0 rfl ⟨by omega,⟨⟩⟩ ?_
  refine ⟨μk - 1, by omega, rfl, (k + 1), (by omega), ((by rw [J0a hxx, List.map_append]; exact M57)), S57.tail, rfl⟩
 refine lR0 rfl ⟨⟩ (G4b rfl (by conv => lhs; whnf) (by conv => lhs; whnf) (by conv => lhs; whnf) ?_)
 exact ⟨rfl, S.fin⟩
def X0a (p : f0a) : q0a := ⟨p.cells.map d2a.init, p.threads.map (fun t => if t.asleep then -1 else 0), p.threads.map (fun _ => [])⟩
def g3a (mem : List Int) (e : G0a) : List Int := (e.cells.zip e.values).foldl (fun m x => m.set x.1.toNat x.2) mem
def B1a (c : q0a) (t : Nat) : List Int := (c.buf.getD t []).foldl g3a c.mem
def C7a (s : List F1a) (v mem : List Int) : List Int := s.foldl (fun m a => m.set a.cell.toNat (a.to.evl v v)) mem
def j7a (p : f0a) (s : List F1a) (v : List Int) : G0a := ⟨(s.filter fun a => y1a p.cells a.cell = -1).map F1a.cell, (s.filter fun a => y1a p.cells a.cell = -1).map fun a => a.to.evl v v⟩
def L0a (p : f0a) (model : Int) (c : q0a) (t : Nat) (s : t1a) : Bool :=
 decide (c.at_.getD t 0 = s.frm) && (decide (s.guard.evl (B1a c t) (B1a c t) = 1) &&
  (if s.kind = 3 then decide (model = 0 ∨ ((c.buf.getD t []).length < 3 ∧ (s.release = true → c.buf.getD t [] = [])))
   else if s.kind = 6 then decide (c.buf.getD t [] = [] ∧ c.at_.getD s.target.toNat 0 = -1)
   else if s.kind = 7 then decide (c.buf.getD t [] = [] ∧ c.at_.getD s.target.toNat 0 = (p.threads.getD s.target.toNat ⟨ByteArray.empty, 0, [], [], [], [], false⟩).points - 1 ∧ c.buf.getD s.target.toNat [] = [])
   else if s.kind = 1 ∨ s.kind = 2 then true else decide (c.buf.getD t [] = [])))
def Z2b (a b : G0a) : Bool := a.cells.any fun x => b.cells.contains x
def W2a (model : Int) (l : List G0a) (i : Nat) : Bool := decide (i = 0) || (decide (model = 2) && (List.range i).all fun k => match l[k]?, l[i]? with | some a, some b => !Z2b a b | _, _ => true)
def V2a (p : f0a) (t : Nat) : List t1a := (p.threads.getD t ⟨ByteArray.empty, 0, [], [], [], [], false⟩).steps
def c6a (p : f0a) (model : Int) (c : q0a) (t : Nat) : List A0a :=
 ((List.range (V2a p t).length).filter fun i => match (V2a p t)[i]? with | some s => L0a p model c t s | none => false).map (fun (i : Nat) => (⟨t, i, 0⟩ : A0a)) ++
 ((List.range (c.buf.getD t []).length).filter (W2a model (c.buf.getD t []))).map (fun (i : Nat) => (⟨t, -1, ((c.buf.getD t []).getD i ⟨[], []⟩).cells.getD 0 0⟩ : A0a))
def H0a (p : f0a) (model : Int) (c : q0a) : List A0a := (List.range p.threads.length).flatMap (c6a p model c)
def atC (c : q0a) (t : Nat) (s : t1a) : List Int := if s.kind = 6 then (c.at_.set t s.to).set s.target.toNat 0 else c.at_.set t s.to
def m3a (p : f0a) (model : Int) (c : q0a) (t : Nat) (s : t1a) : q0a :=
 if s.kind = 3 ∧ model ≠ 0 then ⟨C7a (s.set.filter fun a => y1a p.cells a.cell ≠ -1) (B1a c t) c.mem, atC c t s, c.buf.set t (c.buf.getD t [] ++ [j7a p s.set (B1a c t)])⟩
 else ⟨C7a s.set (B1a c t) c.mem, atC c t s, c.buf⟩
def v4a (c : q0a) (t i : Nat) : q0a := ⟨g3a c.mem ((c.buf.getD t []).getD i ⟨[], []⟩), c.at_, c.buf.set t ((c.buf.getD t []).eraseIdx i)⟩
def doC (p : f0a) (model : Int) (c : q0a) (x : A0a) : q0a :=
 if x.step = -1 then v4a c x.thread.toNat (((c.buf.getD x.thread.toNat []).findIdx? fun e => e.cells.getD 0 0 = x.cell).getD 0)
 else match (V2a p x.thread.toNat)[x.step.toNat]? with | some s => m3a p model c x.thread.toNat s | none => c
def E5a (p : f0a) (model : Int) (c : q0a) : List q0a := (H0a p model c).map (doC p model c)
section
variable {α : Type} [DecidableEq α]
def F0c (l ds : List α) : List α := ds.foldl (fun l d => if d ∈ l then l else l ++ [d]) l
def bfs (succ : α → List α) (a : α) : Nat → List α
 | 0 => [a]
 | n + 1 => match (bfs succ a n)[n]? with
   | some c => F0c (bfs succ a n) (succ c)
   | none => bfs succ a n
theorem S6a (l : List α) (d : α) (ds : List α) : F0c l (d :: ds) = F0c (if d ∈ l then l else l ++ [d]) ds := rfl
theorem Q1b : ∀ (ds l : List α), ∃ m, F0c l ds = l ++ m
 | [], l => ⟨[], by simp [F0c]⟩
 | d :: ds, l => by
   rw [S6a]
   obtain ⟨m, h⟩ := Q1b ds (if d ∈ l then l else l ++ [d])
   rw [h]
   by_cases hd : d ∈ l
   ·exact ⟨m, by rw [if_pos hd]⟩
   ·exact ⟨d :: m, by rw [if_neg hd]; simp⟩
theorem b2b : ∀ (ds l : List α) (x : α), x ∈ F0c l ds ↔ x ∈ l ∨ x ∈ ds
 | [], l, x => by simp [F0c]
 | d :: ds, l, x => by
   rw [S6a, b2b ds]
   by_cases hd : d ∈ l
   ·rw [if_pos hd]
    constructor
    ·rintro (h | h)
     ·exact .inl h
     ·exact .inr (by simp [h])
    ·rintro (h | h)
     ·exact .inl h
     ·rcases List.mem_cons.1 h with rfl | h
      ·exact .inl hd
      ·exact .inr h
   ·rw [if_neg hd]; simp [or_assoc]
theorem u0b : ∀ (ds l : List α), l.Nodup → (F0c l ds).Nodup
 | [], l, h => by simpa [F0c] using h
 | d :: ds, l, h => by
   rw [S6a]
   refine u0b ds _ ?_
   by_cases hd : d ∈ l
   ·rw [if_pos hd]; exact h
   ·rw [if_neg hd]
    rw [List.nodup_append]
    exact ⟨h, by simp, fun a ha b hb => by rw [List.mem_singleton.1 hb]; exact fun e => hd (e ▸ ha)⟩
variable (succ : α → List α) (a : α)
theorem c6b (n : Nat) : ∃ m, bfs succ a (n + 1) = bfs succ a n ++ m := by
 rw [bfs]
 split
 ·exact Q1b _ _
 ·exact ⟨[], by simp⟩
theorem W5b (n : Nat) : ∀ k, ∃ m, bfs succ a (n + k) = bfs succ a n ++ m
 | 0 => ⟨[], by simp⟩
 | k + 1 => by
   obtain ⟨m, h⟩ := W5b n k
   obtain ⟨m', h'⟩ := c6b succ a (n + k)
   exact ⟨m ++ m', by rw [← Nat.add_assoc, h', h, List.append_assoc]⟩
theorem Z8a : ∀ n, (bfs succ a n).Nodup
 | 0 => by simp [bfs]
 | n + 1 => by
   rw [bfs]
   split
   ·exact u0b _ _ (Z8a n)
   ·exact Z8a n
theorem I6b (n i : Nat) (hi : i < n) (c : α) (hc : (bfs succ a n)[i]? = some c) (d : α) (hd : d ∈ succ c) : d ∈ bfs succ a n := by
 induction n with
 | zero => omega
 | succ n ih =>
   obtain ⟨_, hm⟩ := c6b succ a n
   by_cases hin : i = n
   ·subst hin
    rw [bfs]
    rw [bfs] at hc
    split at hc
    ·rename_i c' hc'
     obtain ⟨_, hm'⟩ := Q1b (succ c') (bfs succ a i)
     have hlt : i < (bfs succ a i).length := (List.getElem?_eq_some_iff.1 hc').1
     rw [hm', List.getElem?_append_left hlt, hc'] at hc
     cases hc
     exact (b2b _ _ _).2 (.inr hd)
    ·rename_i hn
     rw [hn] at hc; cases hc
   ·by_cases hlt : i < (bfs succ a n).length
    ·rw [hm, List.getElem?_append_left hlt] at hc
     rw [hm]; exact List.mem_append_left _ (ih (by omega) hc)
    ·exfalso
     rw [bfs] at hc
     split at hc
     ·rename_i c' hc'
      have := (List.getElem?_eq_some_iff.1 hc').1
      omega
     ·have := (List.getElem?_eq_some_iff.1 hc).1
      omega
end
section
variable {α : Type} [DecidableEq α] (succ : α → List α) (a : α)
theorem F5c {n m i : Nat} (h : n ≤ m) (hi : i < (bfs succ a n).length) : (bfs succ a m)[i]? = (bfs succ a n)[i]? := by
 obtain ⟨k, rfl⟩ := Nat.exists_eq_add_of_le h
 obtain ⟨_, hl⟩ := W5b succ a n k
 rw [hl, List.getElem?_append_left hi]
theorem m2c (n : Nat) : (bfs succ a n)[0]? = some a := by
 rw [F5c succ a (Nat.zero_le n) (by simp [bfs])]; rfl
inductive L3a (succ : α → List α) (a : α) : α → Prop
 | start : L3a succ a a
 | next {c d : α} (h : L3a succ a c) (hd : d ∈ succ c) : L3a succ a d
theorem L5a : ∀ (n : Nat) (x : α), x ∈ bfs succ a n → L3a succ a x
 | 0, x, h => by simp [bfs] at h; subst h; exact .start
 | n + 1, x, h => by
   rw [bfs] at h
   split at h
   ·rename_i c hc
    rcases (b2b _ _ _).1 h with h | h
    ·exact L5a n x h
    ·exact .next (L5a n c (List.mem_of_getElem? hc)) h
   ·exact L5a n x h
theorem i9b {n : Nat} (h : (bfs succ a n).length ≤ n) {x : α} (hx : L3a succ a x) : x ∈ bfs succ a n := by
 induction hx with
 | start => exact List.mem_of_getElem? (m2c succ a n)
 | next _ hd ih =>
   obtain ⟨i, hi, he⟩ := List.getElem_of_mem ih
   exact I6b succ a n i (by omega) _ (by rw [List.getElem?_eq_getElem hi, he]) _ hd
end
theorem o1a {p : f0a} {m : Int} {c : q0a} {x : A0a} : x ∈ H0a p m c ↔ ∃ t, t < p.threads.length ∧
 ((∃ (i : Nat) (s : t1a), (V2a p t)[i]? = some s ∧ L0a p m c t s = true ∧ x = ⟨t, i, 0⟩) ∨
  (∃ i : Nat, i < (c.buf.getD t []).length ∧ W2a m (c.buf.getD t []) i = true ∧ x = ⟨t, -1, ((c.buf.getD t []).getD i ⟨[], []⟩).cells.getD 0 0⟩)) := by
 unfold H0a
 rw [List.mem_flatMap]
 constructor
 ·rintro ⟨t, ht, h⟩
  refine ⟨t, List.mem_range.1 ht, ?_⟩
  unfold c6a at h
  rcases List.mem_append.1 h with h | h
  ·obtain ⟨i, hi, rfl⟩ := List.mem_map.1 h
   obtain ⟨hi, he⟩ := List.mem_filter.1 hi
   split at he
   ·rename_i s hs
    exact .inl ⟨i, s, hs, he, rfl⟩
   ·cases he
  ·obtain ⟨i, hi, rfl⟩ := List.mem_map.1 h
   obtain ⟨hi, he⟩ := List.mem_filter.1 hi
   exact .inr ⟨i, List.mem_range.1 hi, he, rfl⟩
 ·rintro ⟨t, ht, h⟩
  refine ⟨t, List.mem_range.2 ht, ?_⟩
  unfold c6a
  rw [List.mem_append]
  rcases h with ⟨i, s, hs, he, rfl⟩ | ⟨i, hi, he, rfl⟩
  ·refine .inl (List.mem_map.2 ⟨i, List.mem_filter.2 ⟨List.mem_range.2 (List.getElem?_eq_some_iff.1 hs).1, ?_⟩, rfl⟩)
   simp only [hs]; exact he
  ·exact .inr (List.mem_map.2 ⟨i, List.mem_filter.2 ⟨List.mem_range.2 hi, he⟩, rfl⟩)
theorem L3a.to {α : Type} {succ succ' : α → List α} {a x : α} (hx : L3a succ a x) (h : ∀ c d, L3a succ a c → L3a succ' a c → d ∈ succ c → L3a succ' a d) : L3a succ' a x := by
 induction hx with
 | start => exact .start
 | next hc hd ih => exact h _ _ hc ih hd
theorem o7b (p : f0a) (c : q0a) (t : Nat) (s : t1a) : L0a p 1 c t s = L0a p 2 c t s := by unfold L0a; simp
theorem w4c (p : f0a) (c : q0a) (t : Nat) (s : t1a) : m3a p 1 c t s = m3a p 2 c t s := by unfold m3a; simp
theorem b9c (p : f0a) (c : q0a) (x : A0a) : doC p 1 c x = doC p 2 c x := by
 unfold doC
 split
 ·rfl
 ·split
  ·rw [w4c]
  ·rfl
theorem S6b {p : f0a} {c : q0a} {x : A0a} (h : x ∈ H0a p 1 c) : x ∈ H0a p 2 c := by
 obtain ⟨t, ht, h⟩ := o1a.1 h
 refine o1a.2 ⟨t, ht, ?_⟩
 rcases h with ⟨i, s, hs, he, hx⟩ | ⟨i, hi, he, hx⟩
 ·exact .inl ⟨i, s, hs, by rw [← o7b]; exact he, hx⟩
 ·refine .inr ⟨i, hi, ?_, hx⟩
  unfold W2a at he ⊢
  simp at he
  simp [he]
theorem z1c {p : f0a} {c : q0a} (h : L3a (E5a p 1) (X0a p) c) : L3a (E5a p 2) (X0a p) c := by
 refine h.to fun c d _ h2 hd => ?_
 obtain ⟨x, hx, rfl⟩ := List.mem_map.1 hd
 exact .next h2 (List.mem_map.2 ⟨x, S6b hx, (b9c p c x).symm⟩)
def K5a (l : List (Nat × Int)) (m : List Int) : List Int := l.foldl (fun m x => m.set x.1 x.2) m
theorem T0b : ∀ (l : List (Nat × Int)) (m : List Int) (k : Nat) (v : Int), (∀ x ∈ l, x.1 ≠ k) → K5a l (m.set k v) = (K5a l m).set k v
 | [], _, _, _, _ => rfl
 | x :: l, m, k, v, h => by
   have h1 : x.1 ≠ k := h x (by simp)
   show K5a l ((m.set k v).set x.1 x.2) = (K5a l (m.set x.1 x.2)).set k v
   rw [List.set_comm _ _ (Ne.symm h1)]
   exact T0b l _ k v fun y hy => h y (by simp [hy])
theorem t5b (s : List F1a) (v m : List Int) : C7a s v m = K5a (s.map fun a => (a.cell.toNat, a.to.evl v v)) m := by
 unfold C7a K5a; rw [List.foldl_map]
theorem z6b (p : f0a) (s : List F1a) (v m : List Int) : g3a m (j7a p s v) = K5a ((s.filter fun a => y1a p.cells a.cell = -1).map fun a => (a.cell.toNat, a.to.evl v v)) m := by
 unfold g3a j7a K5a
 simp only
 rw [List.zip_map', List.foldl_map, List.foldl_map]
theorem j5b (p : f0a) (v m : List Int) (s : List F1a) (h : s.Pairwise fun a b => a.cell.toNat ≠ b.cell.toNat) :
 g3a (C7a (s.filter fun a => y1a p.cells a.cell ≠ -1) v m) (j7a p s v) = C7a s v m := by
 rw [z6b, t5b, t5b]
 induction s generalizing m with
 | nil => rfl
 | cons a s ih =>
   obtain ⟨h1, h2⟩ := List.pairwise_cons.1 h
   by_cases hq : y1a p.cells a.cell = -1
   ·rw [List.filter_cons_of_pos (by simp [hq]), List.filter_cons_of_neg (by simp [hq])]
    show K5a (List.map _ _) ((K5a _ m).set _ _) = K5a _ (m.set _ _)
    rw [← T0b _ _ _ _ (fun y hy => ?_)]
    ·exact ih _ h2
    ·obtain ⟨b, hb, rfl⟩ := List.mem_map.1 hy
     exact Ne.symm (h1 b (List.mem_filter.1 hb).1)
   ·rw [List.filter_cons_of_neg (by simp [hq]), List.filter_cons_of_pos (by simp [hq])]
    exact ih _ h2
theorem u2b {α β : Type} (l : List α) (t : Nat) : (l.map fun _ => ([] : List β)).getD t [] = [] := by
 rw [List.getD_eq_getElem?_getD, List.getElem?_map]
 cases l[t]? <;> rfl
theorem X8b {p : f0a} {c : q0a} (h : L3a (E5a p 0) (X0a p) c) : c.buf.length = p.threads.length ∧ ∀ t, c.buf.getD t [] = [] := by
 induction h with
 | start => exact ⟨by simp [X0a], fun t => u2b _ _⟩
 | next _ hd ih =>
   obtain ⟨_, hx, rfl⟩ := List.mem_map.1 hd
   obtain ⟨t, _, h | h⟩ := o1a.1 hx
   ·obtain ⟨i, _, hs, _, rfl⟩ := h
    unfold doC
    rw [if_neg (by simp)]
    simp only [Int.toNat_natCast, hs]
    unfold m3a
    rw [if_neg (by simp)]
    exact ih
   ·obtain ⟨i, hi, _⟩ := h
    rw [ih.2 t] at hi; simp at hi
theorem x1b {p : f0a} {m : Int} {c : q0a} {t i : Nat} {s : t1a} (hs : (V2a p t)[i]? = some s) : doC p m c ⟨t, i, 0⟩ = m3a p m c t s := by
 unfold doC
 rw [if_neg (by simp)]
 simp only [Int.toNat_natCast, hs]
theorem M5b {p : f0a} (hp : b1a p) {t i : Nat} {s : t1a} (ht : t < p.threads.length) (hs : (V2a p t)[i]? = some s) : U6a p t (p.threads[t]).points s := by
 have := (hp.threads t ht).steps s
 unfold V2a at hs
 rw [List.getD_eq_getElem?_getD, List.getElem?_eq_getElem ht] at hs
 exact this (List.mem_of_getElem? hs)
theorem w1c {p : f0a} (hp : b1a p) {c : q0a} (h : L3a (E5a p 0) (X0a p) c) : L3a (E5a p 1) (X0a p) c := by
 refine h.to fun c d hc h2 hd => ?_
 obtain ⟨hlen, hq⟩ := X8b hc
 obtain ⟨_, hx, rfl⟩ := List.mem_map.1 hd
 obtain ⟨t, ht, h | h⟩ := o1a.1 hx
 ·obtain ⟨i, s, hs, he, rfl⟩ := h
  rw [x1b hs]
  have hen : L0a p 1 c t s = true := by
   unfold L0a at he ⊢
   simp only [Bool.and_eq_true] at he ⊢
   refine ⟨he.1, he.2.1, ?_⟩
   have h3 := he.2.2
   split
   ·simp only [hq t, List.length_nil]; simp
   ·rename_i hk
    rw [if_neg hk] at h3; exact h3
  have hstep : m3a p 1 c t s ∈ E5a p 1 c := List.mem_map.2 ⟨⟨t, i, 0⟩, o1a.2 ⟨t, ht, .inl ⟨i, s, hs, hen, rfl⟩⟩, x1b hs⟩
  by_cases hk : s.kind = 3
  ·have hok := M5b hp ht hs
   have e1 : m3a p 1 c t s = ⟨C7a (s.set.filter fun a => y1a p.cells a.cell ≠ -1) (B1a c t) c.mem, atC c t s, c.buf.set t [j7a p s.set (B1a c t)]⟩ := by
    unfold m3a; rw [if_pos ⟨hk, by decide⟩, hq t]; rfl
   have hb : (m3a p 1 c t s).buf.getD t [] = [j7a p s.set (B1a c t)] := by
    rw [e1]; simp [List.getD_eq_getElem?_getD, hlen, ht]
   have e2 : m3a p 0 c t s = v4a (m3a p 1 c t s) t 0 := by
    have e3 : m3a p 0 c t s = ⟨C7a s.set (B1a c t) c.mem, atC c t s, c.buf⟩ := by unfold m3a; rw [if_neg (by simp)]
    unfold v4a
    rw [hb, e3, e1]
    simp only [List.getD_cons_zero, List.eraseIdx_cons_zero]
    rw [j5b p _ _ _ (hok.once.imp_of_mem fun {a b} ha hb hne => ?_)]
    ·congr 1
     rw [List.set_set]
     refine (List.ext_getElem? fun j => ?_)
     rw [List.getElem?_set]
     split
     ·rename_i hj
      subst hj
      have := hq t
      rw [List.getD_eq_getElem?_getD] at this
      have hlt : t < c.buf.length := by omega
      rw [List.getElem?_eq_getElem hlt] at this ⊢
      simp at this
      simp [this, hlt]
     ·rfl
    ·have ha := (hok.set a ha).1.1
     have hb := (hok.set b hb).1.1
     omega
   refine .next (.next h2 hstep) (List.mem_map.2 ⟨⟨t, -1, (j7a p s.set (B1a c t)).cells.getD 0 0⟩, o1a.2 ⟨t, ht, .inr ⟨0, by rw [hb]; simp, by rw [hb]; simp [W2a], by rw [hb]; rfl⟩⟩, ?_⟩)
   rw [e2]
   unfold doC
   rw [if_pos rfl]
   simp only [Int.toNat_natCast]
   rw [hb]
   simp [List.findIdx?_cons]
  ·have e1 : m3a p 0 c t s = m3a p 1 c t s := by unfold m3a; simp [hk]
   rw [e1]; exact .next h2 hstep
 ·obtain ⟨i, hi, _⟩ := h
  rw [hq t] at hi; simp at hi
def z4a (e : G0a) : List Int := (e.cells.length : Int) :: (e.cells.zip e.values).flatMap fun x => [x.1, x.2]
def E2a (b : List G0a) : List Int := (b.length : Int) :: b.flatMap z4a
def j5a (c : q0a) : List Int := c.mem ++ (c.at_ ++ c.buf.flatMap E2a)
theorem I8a {α β : Type} (G : α → Prop) (f : α → List β) (hf : ∀ a b r r', G a → G b → f a ++ r = f b ++ r' → a = b ∧ r = r') :
 ∀ (l l' : List α) (r r' : List β), (∀ a ∈ l, G a) → (∀ a ∈ l', G a) → l.length = l'.length → l.flatMap f ++ r = l'.flatMap f ++ r' → l = l' ∧ r = r'
 | [], [], r, r', _, _, _, h => ⟨rfl, by simpa using h⟩
 | [], b :: l', _, _, _, _, h, _ => by simp at h
 | a :: l, [], _, _, _, _, h, _ => by simp at h
 | a :: l, b :: l', r, r', h1, h2, h3, h => by
   rw [List.flatMap_cons, List.flatMap_cons, List.append_assoc, List.append_assoc] at h
   obtain ⟨rfl, h4⟩ := hf a b _ _ (h1 a (by simp)) (h2 b (by simp)) h
   obtain ⟨rfl, h5⟩ := I8a G f hf l l' r r' (fun x hx => h1 x (by simp [hx])) (fun x hx => h2 x (by simp [hx])) (by simpa using h3) h4
   exact ⟨rfl, h5⟩
def G0a.even (e : G0a) : Prop := e.values.length = e.cells.length
theorem v8b : ∀ (a b c d : List Int), a.length = b.length → c.length = d.length → a.zip b = c.zip d → a = c ∧ b = d
 | [], [], [], [], _, _, _ => ⟨rfl, rfl⟩
 | [], [], c :: zs, [], _, h, _ => by simp at h
 | [], [], [], d :: us, _, h, _ => by simp at h
 | [], [], c :: zs, d :: us, _, _, h => by simp at h
 | a :: xs, [], _, _, h, _, _ => by simp at h
 | [], b :: ys, _, _, h, _, _ => by simp at h
 | a :: xs, b :: ys, [], [], _, _, h => by simp at h
 | a :: xs, b :: ys, c :: zs, [], _, h, _ => by simp at h
 | a :: xs, b :: ys, [], d :: us, _, h, _ => by simp at h
 | a :: xs, b :: ys, c :: zs, d :: us, h1, h2, h => by
   simp only [List.zip_cons_cons, List.cons.injEq, Prod.mk.injEq] at h
   obtain ⟨⟨rfl, rfl⟩, h⟩ := h
   obtain ⟨rfl, rfl⟩ := v8b xs ys zs us (by simpa using h1) (by simpa using h2) h
   exact ⟨rfl, rfl⟩
theorem x5c (e f : G0a) (r r' : List Int) (he : e.even) (hf : f.even) (h : z4a e ++ r = z4a f ++ r') : e = f ∧ r = r' := by
 unfold z4a at h
 simp only [List.cons_append, List.cons.injEq] at h
 obtain ⟨_, h2⟩ := h
 have hl : (e.cells.zip e.values).length = (f.cells.zip f.values).length := by
  rw [List.length_zip, List.length_zip, he, hf]; omega
 obtain ⟨h3, h4⟩ := I8a (fun _ => True) (fun x : Int × Int => [x.1, x.2]) (fun a b r r' _ _ h => by
  obtain ⟨_, _⟩ := a
  obtain ⟨_, _⟩ := b
  simp only [List.cons_append, List.nil_append, List.cons.injEq] at h
  obtain ⟨rfl, rfl, h⟩ := h
  exact ⟨rfl, h⟩) _ _ r r' (fun _ _ => trivial) (fun _ _ => trivial) hl h2
 obtain ⟨h5, h6⟩ := v8b _ _ _ _ he.symm hf.symm h3
 cases e; cases f
 simp only at h5 h6
 subst h5; subst h6
 exact ⟨rfl, h4⟩
theorem z4c (b b' : List G0a) (r r' : List Int) (h1 : ∀ e ∈ b, e.even) (h2 : ∀ e ∈ b', e.even) (h : E2a b ++ r = E2a b' ++ r') : b = b' ∧ r = r' := by
 unfold E2a at h
 simp only [List.cons_append, List.cons.injEq] at h
 exact I8a G0a.even z4a x5c b b' r r' h1 h2 (by omega) h.2
structure q0a.Shape (c : q0a) (n t : Nat) : Prop where
 mem : c.mem.length = n
 at_ : c.at_.length = t
 buf : c.buf.length = t
 even : ∀ b ∈ c.buf, ∀ e ∈ b, e.even
theorem u5b {c d : q0a} {n t : Nat} (hc : c.Shape n t) (hd : d.Shape n t) (h : j5a c = j5a d) : c = d := by
 unfold j5a at h
 obtain ⟨h1, h2⟩ := List.append_inj h (hc.mem.trans hd.mem.symm)
 obtain ⟨h3, h4⟩ := List.append_inj h2 (hc.at_.trans hd.at_.symm)
 obtain ⟨h5, _⟩ := I8a (fun b : List G0a => ∀ e ∈ b, e.even) E2a z4c c.buf d.buf [] [] hc.even hd.even (hc.buf.trans hd.buf.symm) (by simpa using h4)
 cases c; cases d
 simp only at h1 h3 h5
 subst h1; subst h3; subst h5
 rfl
theorem u8b {e : E} {lim : Int} (h : e.good lim = true) (old now : List Int) : 0 ≤ e.val old now ∧ e.val old now < N4a e.w.toNat := by
 obtain ⟨hsh, _⟩ := W7a h
 have hw : e.w ≤ 8 := hsh.2.1
 have hb : ∀ a, 0 ≤ D4b a (N4a e.w.toNat - 1) ∧ D4b a (N4a e.w.toNat - 1) < N4a e.w.toNat := fun a => by
  rw [v9a _ _ (by omega)]
  have := Y0b e.w.toNat
  exact ⟨Int.emod_nonneg _ (by omega), Int.emod_lt_of_pos _ this⟩
 rw [E.val_def]
 by_cases o1 : e.op = 1
 ·rw [if_pos o1]; have := (p4b o1).1 hsh; omega
 ·rw [if_neg o1]
  split
  ·exact hb _
  ·split
   ·exact hb _
   ·exact hb _
theorem i9a {cells : List d2a} {pair : Bool} {e : E} (h : e.valid cells pair = true) (old now : List Int) : 0 ≤ e.evl old now ∧ e.evl old now < N4a e.w.toNat := by
 obtain ⟨h1, h2, _⟩ := c5a h
 unfold E.evl
 rw [if_pos h1]
 exact u8b h2 old now
structure X4a (p : f0a) (m : List Int) : Prop where
 len : m.length = p.cells.length
 vals : ∀ (i : Nat) (v : Int), m[i]? = some v → 0 ≤ v ∧ v < N4a (wAt p.cells i).toNat
theorem X4a.set {p : f0a} {m : List Int} (h : X4a p m) {k : Nat} {v : Int} (hv : 0 ≤ v ∧ v < N4a (wAt p.cells k).toNat) : X4a p (m.set k v) := by
 refine ⟨by rw [List.length_set]; exact h.len, fun i x hi => ?_⟩
 rw [List.getElem?_set] at hi
 split at hi
 ·rename_i hk
  subst hk
  split at hi
  ·cases hi; exact hv
  ·cases hi
 ·exact h.vals i x hi
structure U9a (p : f0a) (e : G0a) : Prop where
 some_ : e.cells ≠ []
 even : e.even
 cells : ∀ (i : Nat) (n : Int), e.cells[i]? = some n → t2a n p.cells.length ∧ y1a p.cells n = -1 ∧ Q0b p.cells n = decide (0 < i)
 vals : ∀ x ∈ e.cells.zip e.values, 0 ≤ x.2 ∧ x.2 < N4a (wAt p.cells x.1).toNat
 once : e.cells.Nodup
theorem X4a.write {p : f0a} {m : List Int} (h : X4a p m) {e : G0a} (he : U9a p e) : X4a p (g3a m e) := by
 unfold g3a
 have key : ∀ (l : List (Int × Int)) (m : List Int), X4a p m → (∀ x ∈ l, 0 ≤ x.1 ∧ 0 ≤ x.2 ∧ x.2 < N4a (wAt p.cells x.1).toNat) → X4a p (l.foldl (fun m x => m.set x.1.toNat x.2) m) := by
  intro l
  induction l with
  | nil => intro m h _; exact h
  | cons x l ih =>
    intro m h hl
    rw [List.foldl_cons]
    obtain ⟨h0, h1⟩ := hl x (by simp)
    exact ih _ (h.set (by rw [Int.toNat_of_nonneg h0]; exact h1)) fun y hy => hl y (by simp [hy])
 refine key _ m h fun x hx => ?_
 have hx1 := List.of_mem_zip (a := x.1) (b := x.2) hx
 obtain ⟨i, hi, hie⟩ := List.getElem_of_mem hx1.1
 have := he.cells i x.1 (by rw [List.getElem?_eq_getElem hi, hie])
 exact ⟨this.1.1, he.vals x hx⟩
theorem U6c {p : f0a} {t : Nat} {n : Int} {s : t1a} (hs : U6a p t n s) (hk : s.kind = 3) (v : List Int) : U9a p (j7a p s.set v) := by
 obtain ⟨a, l, hset, ha1, ha2, hl⟩ := hs.row.k3 hk
 have hf : (s.set.filter fun a => y1a p.cells a.cell = -1) = a :: l.filter fun a => y1a p.cells a.cell = -1 := by
  rw [hset, List.filter_cons_of_pos (by simp [ha1])]
 have hmem : ∀ b ∈ s.set.filter fun a => y1a p.cells a.cell = -1, b ∈ s.set ∧ y1a p.cells b.cell = -1 := fun b hb => by
  obtain ⟨h1, h2⟩ := List.mem_filter.1 hb
  exact ⟨h1, by simpa using h2⟩
 refine ⟨?_, ?_, fun i x hi => ?_, fun x hx => ?_, ?_⟩
 ·unfold j7a; rw [hf]; simp
 ·unfold j7a G0a.even; simp
 ·unfold j7a at hi
  simp only [List.getElem?_map, Option.map_eq_some_iff] at hi
  obtain ⟨b, hb, rfl⟩ := hi
  obtain ⟨h1, h2⟩ := hmem b (List.mem_of_getElem? hb)
  refine ⟨(hs.set b h1).1, h2, ?_⟩
  rw [hf] at hb
  cases i with
  | zero => simp at hb; subst hb; simpa using ha2
  | succ i =>
    rw [List.getElem?_cons_succ] at hb
    have := hl b (List.mem_filter.1 (List.mem_of_getElem? hb)).1
    rw [this]; simp
 ·unfold j7a at hx
  simp only [List.zip_map'] at hx
  obtain ⟨b, hb, rfl⟩ := List.mem_map.1 hx
  obtain ⟨h1, h2⟩ := hmem b hb
  obtain ⟨_, h3, h4⟩ := hs.set b h1
  have := i9a h3 v v
  rw [h4] at this
  exact this
 ·unfold j7a List.Nodup
  simp only
  rw [List.pairwise_map]
  exact hs.once.filter _
theorem X4a.sets {p : f0a} {v : List Int} : ∀ (l : List F1a) (m : List Int), X4a p m → (∀ a ∈ l, t2a a.cell p.cells.length ∧ a.to.valid p.cells false = true ∧ a.to.w = wAt p.cells a.cell) → X4a p (C7a l v m)
 | [], _, h, _ => h
 | a :: l, m, h, hl => by
   obtain ⟨h1, h2, h3⟩ := hl a (by simp)
   have hr := i9a h2 v v
   rw [h3] at hr
   exact X4a.sets l _ (h.set (by rw [Int.toNat_of_nonneg h1.1]; exact hr)) fun b hb => hl b (by simp [hb])
structure D3a (p : f0a) (c : q0a) : Prop where
 mem : X4a p c.mem
 nat : c.at_.length = p.threads.length
 atr : ∀ (t : Nat) (x : Int), c.at_[t]? = some x → ∀ th, p.threads[t]? = some th → -1 ≤ x ∧ x < th.points ∧ (x = -1 → th.asleep = true)
 nbuf : c.buf.length = p.threads.length
 bufs : ∀ (t : Nat) (b : List G0a), c.buf[t]? = some b → b.length ≤ 3 ∧ (∀ e ∈ b, U9a p e) ∧ (c.at_[t]? = some (-1) → b = [])
theorem U5a {p : f0a} (hp : b1a p) : D3a p (X0a p) := by
 refine ⟨⟨by simp [X0a], fun i v hi => ?_⟩, by simp [X0a], fun t x hx th hth => ?_, by simp [X0a], fun t b hb => ?_⟩
 ·simp only [X0a, List.getElem?_map, Option.map_eq_some_iff] at hi
  obtain ⟨c, hc, rfl⟩ := hi
  have h := (hp.cells c (List.mem_of_getElem? hc)).init
  have hw : wAt p.cells i = c.w := by unfold wAt; simp [hc]
  rw [hw]; exact h
 ·simp only [X0a, List.getElem?_map, hth, Option.map_some, Option.some.injEq] at hx
  have hlt := (List.getElem?_eq_some_iff.1 hth).1
  have he := (List.getElem?_eq_some_iff.1 hth).2
  have h := (hp.threads t hlt).points
  rw [he] at h
  subst hx
  cases ha : th.asleep with
  | true => simp; omega
  | false => simp; omega
 ·simp only [X0a, List.getElem?_map, Option.map_eq_some_iff] at hb
  obtain ⟨_, _, rfl⟩ := hb
  simp
theorem T3b {c : q0a} {t : Nat} {s : t1a} {u : Nat} {x : Int} (h : (atC c t s)[u]? = some x) : (u ≠ t ∧ c.at_[u]? = some x) ∨ (u = t ∧ x = s.to) ∨ (s.kind = 6 ∧ u = s.target.toNat ∧ x = 0) := by
 have key : ∀ x, (c.at_.set t s.to)[u]? = some x → (u ≠ t ∧ c.at_[u]? = some x) ∨ (u = t ∧ x = s.to) := fun x h => by
  rw [List.getElem?_set] at h
  split at h
  ·rename_i hh
   split at h
   ·cases h; exact .inr ⟨hh.symm, rfl⟩
   ·cases h
  ·rename_i hh
   exact .inl ⟨fun e => hh e.symm, h⟩
 unfold atC at h
 split at h
 ·rename_i hk
  rw [List.getElem?_set] at h
  split at h
  ·rename_i hh
   split at h
   ·cases h; exact .inr (.inr ⟨hk, hh.symm, rfl⟩)
   ·cases h
  ·rcases key x h with h | h
   ·exact .inl h
   ·exact .inr (.inl h)
 ·rcases key x h with h | h
  ·exact .inl h
  ·exact .inr (.inl h)
theorem T5a (c : q0a) (t : Nat) (s : t1a) : (atC c t s).length = c.at_.length := by
 unfold atC; split <;> simp
theorem X0b {p : f0a} (hp : b1a p) {t : Nat} {th : Q0a} (h : p.threads[t]? = some th) : 1 ≤ th.points := by
 obtain ⟨hlt, rfl⟩ := List.getElem?_eq_some_iff.1 h
 exact (hp.threads t hlt).points.1
theorem r3c {p : f0a} (hp : b1a p) {c : q0a} (hf : D3a p c) {t : Nat} {s : t1a} (ht : t < p.threads.length) (hs : U6a p t (p.threads[t]).points s) :
 ∀ (u : Nat) (x : Int), (atC c t s)[u]? = some x → ∀ th, p.threads[u]? = some th → -1 ≤ x ∧ x < th.points ∧ (x = -1 → th.asleep = true) := by
 intro u x hx th hth
 rcases T3b hx with ⟨_, h⟩ | ⟨rfl, rfl⟩ | ⟨_, _, rfl⟩
 ·exact hf.atr u x h th hth
 ·obtain ⟨_, rfl⟩ := List.getElem?_eq_some_iff.1 hth
  have := hs.to
  omega
 ·have := X0b hp hth
  omega
theorem v1c {p : f0a} (hp : b1a p) {m : Int} {c : q0a} (hf : D3a p c) {t i : Nat} {s : t1a} (ht : t < p.threads.length) (hs : (V2a p t)[i]? = some s) (he : L0a p m c t s = true) : D3a p (m3a p m c t s) := by
 have hok := M5b hp ht hs
 have hsleep : ∀ u b, c.buf[u]? = some b → (atC c t s)[u]? = some (-1) → b = [] := fun u b hb hu => by
  rcases T3b hu with ⟨_, h⟩ | ⟨rfl, h⟩ | ⟨_, _, h⟩
  ·exact (hf.bufs u b hb).2.2 h
  ·have := hok.to; omega
  ·omega
 unfold m3a
 split
 ·rename_i hk
  have hlen : (c.buf.getD t []).length < 3 := by
   unfold L0a at he
   simp only [Bool.and_eq_true, if_pos hk.1, decide_eq_true_eq] at he
   rcases he.2.2 with h | h
   ·exact absurd h hk.2
   ·exact h.1
  have hlt : t < c.buf.length := by rw [hf.nbuf]; exact ht
  have hb := hf.bufs t (c.buf.getD t []) (by rw [List.getD_eq_getElem?_getD, List.getElem?_eq_getElem hlt]; rfl)
  refine ⟨X4a.sets _ _ hf.mem (fun a ha => hok.set a (List.mem_filter.1 ha).1), by simp only [T5a]; exact hf.nat, r3c hp hf ht hok, by simp only [List.length_set]; exact hf.nbuf, fun u b hu => ?_⟩
  simp only [List.getElem?_set] at hu
  split at hu
  ·rename_i htu
   subst htu
   cases hu
   refine ⟨by rw [List.length_append, List.length_singleton]; omega, fun e he' => ?_, fun hu => ?_⟩
   ·rcases List.mem_append.1 he' with h | h
    ·exact hb.2.1 e h
    ·rw [List.mem_singleton.1 h]; exact U6c hok hk.1 _
   ·exfalso
    rcases T3b hu with ⟨h, _⟩ | ⟨_, h⟩ | ⟨_, _, h⟩
    ·exact h rfl
    ·have := hok.to; omega
    ·omega
  ·exact ⟨(hf.bufs u b hu).1, (hf.bufs u b hu).2.1, hsleep u b hu⟩
 ·exact ⟨X4a.sets _ _ hf.mem (fun a ha => hok.set a ha), by simp only [T5a]; exact hf.nat, r3c hp hf ht hok, hf.nbuf, fun u b hu => ⟨(hf.bufs u b hu).1, (hf.bufs u b hu).2.1, hsleep u b hu⟩⟩
theorem i0b {p : f0a} {c : q0a} (hf : D3a p c) (t i : Nat) : D3a p (v4a c t i) := by
 unfold v4a
 refine ⟨?_, hf.nat, hf.atr, by simp only [List.length_set]; exact hf.nbuf, fun u b hu => ?_⟩
 ·by_cases hlt : t < c.buf.length
  ·have hb := hf.bufs t (c.buf.getD t []) (by rw [List.getD_eq_getElem?_getD, List.getElem?_eq_getElem hlt]; rfl)
   by_cases hi : i < (c.buf.getD t []).length
   ·rw [List.getD_eq_getElem?_getD (i := i), List.getElem?_eq_getElem hi]
    exact hf.mem.write (hb.2.1 _ (List.getElem_mem hi))
   ·rw [List.getD_eq_getElem?_getD (i := i), List.getElem?_eq_none (by omega)]
    exact hf.mem
  ·have h0 : c.buf.getD t [] = [] := by rw [List.getD_eq_getElem?_getD, List.getElem?_eq_none (by omega)]; rfl
   rw [h0]
   exact hf.mem
 ·simp only [List.getElem?_set] at hu
  split at hu
  ·rename_i htu
   subst htu
   split at hu
   ·rename_i hlt
    cases hu
    have hb := hf.bufs t (c.buf.getD t []) (by rw [List.getD_eq_getElem?_getD, List.getElem?_eq_getElem hlt]; rfl)
    refine ⟨Nat.le_trans (List.length_eraseIdx_le _ _) hb.1, fun e he => hb.2.1 e (List.mem_of_mem_eraseIdx he), fun h => ?_⟩
    rw [hb.2.2 h]; rfl
   ·cases hu
  ·exact hf.bufs u b hu
theorem U5b {p : f0a} (hp : b1a p) {m : Int} {c : q0a} (hf : D3a p c) {x : A0a} (hx : x ∈ H0a p m c) : D3a p (doC p m c x) := by
 obtain ⟨_, ht, h | h⟩ := o1a.1 hx
 ·obtain ⟨i, _, hs, he, rfl⟩ := h
  rw [x1b hs]; exact v1c hp hf ht hs he
 ·obtain ⟨i, _, he, rfl⟩ := h
  unfold doC
  rw [if_pos rfl]
  exact i0b hf _ _
theorem i4a {p : f0a} (hp : b1a p) {m : Int} {c : q0a} (h : L3a (E5a p m) (X0a p) c) : D3a p c := by
 induction h with
 | start => exact U5a hp
 | next _ hd ih =>
   obtain ⟨_, hx, rfl⟩ := List.mem_map.1 hd
   exact U5b hp ih hx
theorem D3a.shape {p : f0a} {c : q0a} (hf : D3a p c) : c.Shape p.cells.length p.threads.length :=
 ⟨hf.mem.len, hf.nat, hf.nbuf, fun b hb e he => by
  obtain ⟨t, ht, rfl⟩ := List.getElem_of_mem hb
  exact ((hf.bufs t _ (List.getElem?_eq_getElem ht)).2.1 e he).even⟩
theorem q7a : ∀ (n : Nat) (l : List Int), l.Nodup → (∀ x ∈ l, 0 ≤ x ∧ x < n) → l.length ≤ n
 | 0, l, _, h => by
   cases l with
   | nil => simp
   | cons x l => have := h x (by simp); omega
 | n + 1, l, hd, h => by
   by_cases hn : (n : Int) ∈ l
   ·have h1 := q7a n (l.erase (n : Int)) (hd.erase _) (fun x hx => by
     obtain ⟨_, h3⟩ := (hd.mem_erase_iff).1 hx
     have := h x h3
     omega)
    rw [List.length_erase_of_mem hn] at h1
    omega
   ·have h1 := q7a n l hd (fun x hx => by
     have := h x hx
     have : x ≠ (n : Int) := fun e => hn (e ▸ hx)
     omega)
    omega
theorem U9a.len {p : f0a} {e : G0a} (h : U9a p e) : e.cells.length ≤ p.cells.length :=
 q7a _ _ h.once fun x hx => by
  obtain ⟨i, hi, rfl⟩ := List.getElem_of_mem hx
  exact (h.cells i _ (List.getElem?_eq_getElem hi)).1
theorem c8c {p : f0a} (hp : b1a p) (x : Int) : wAt p.cells x ≤ 8 := by
 unfold wAt
 split
 ·cases h : p.cells[x.toNat]? with
  | none => simp
  | some c => simpa using (hp.cells c (List.mem_of_getElem? h)).w.2
 ·omega
theorem A5b {p : f0a} (hp : b1a p) (x : Int) : N4a (wAt p.cells x).toNat ≤ 256 := by
 have h := c8c hp x
 have h2 : (2 : Nat) ^ (wAt p.cells x).toNat ≤ 2 ^ 8 := Nat.pow_le_pow_right (by omega) (by omega)
 rw [Y4a]
 omega
theorem i6a {p : f0a} (hp : b1a p) {c : q0a} (hf : D3a p c) : (∀ x ∈ c.mem, 0 ≤ x ∧ x ≤ 255) ∧ (∀ x ∈ c.at_, -1 ≤ x ∧ x ≤ 47) ∧ ∀ x ∈ c.buf.flatMap E2a, 0 ≤ x ∧ x ≤ 255 := by
 refine ⟨fun x hx => ?_, fun x hx => ?_, fun x hx => ?_⟩
 ·obtain ⟨i, hi, rfl⟩ := List.getElem_of_mem hx
  have := hf.mem.vals i _ (List.getElem?_eq_getElem hi)
  have := A5b hp i
  omega
 ·obtain ⟨t, ht, rfl⟩ := List.getElem_of_mem hx
  have hlt : t < p.threads.length := by rw [← hf.nat]; exact ht
  have h1 := hf.atr t _ (List.getElem?_eq_getElem ht) _ (List.getElem?_eq_getElem hlt)
  have h2 := (hp.threads t hlt).points
  omega
 ·obtain ⟨b, hb, hx⟩ := List.mem_flatMap.1 hx
  obtain ⟨t, ht, rfl⟩ := List.getElem_of_mem hb
  obtain ⟨h1, h2, _⟩ := hf.bufs t _ (List.getElem?_eq_getElem ht)
  unfold E2a at hx
  rcases List.mem_cons.1 hx with rfl | hx
  ·omega
  ·obtain ⟨e, he, hx⟩ := List.mem_flatMap.1 hx
   have hE := h2 e he
   unfold z4a at hx
   rcases List.mem_cons.1 hx with rfl | hx
   ·have := hE.len
    have := hp.ncells
    omega
   ·obtain ⟨y, hy, hx⟩ := List.mem_flatMap.1 hx
    have h3 := hE.vals y hy
    have h4 := A5b hp y.1
    obtain ⟨i, hi, hie⟩ := List.getElem_of_mem (List.of_mem_zip (a := y.1) (b := y.2) hy).1
    have h5 := (hE.cells i y.1 (by rw [List.getElem?_eq_getElem hi, hie])).1
    have h6 := hp.ncells
    obtain ⟨_, _⟩ := h5
    simp only [List.mem_cons, List.not_mem_nil, or_false] at hx
    rcases hx with rfl | rfl <;> omega
section
variable {M : List Nat} {w : World}
theorem t0a.open_ {c : q0a} {cs : List Value} (h : t0a M w c cs) : ∃ Am nm cm Aa na ca Ab nb cb, cs = [.slice Am nm cm, .slice Aa na ca, .slice Ab nb cb] ∧
 RdI M w (.slice Am nm cm) c.mem ∧ RdI M w (.slice Aa na ca) c.at_ ∧ G8c M w (.slice Ab nb cb) c.buf ∧
 nm = c.mem.length ∧ na = c.at_.length ∧ nb = c.buf.length ∧ nm ≤ 140737488355328 ∧ na ≤ 140737488355328 ∧ nb ≤ 140737488355328 := by
 obtain ⟨_, _, _, rfl, h1, h2, h3⟩ := h
 obtain ⟨Am, nm, cm, rfl⟩ := h1.form
 obtain ⟨Aa, na, ca, rfl⟩ := h2.form
 obtain ⟨Ab, nb, cb, rfl⟩ := h3.form
 exact ⟨_, _, _, _, _, _, _, _, _, rfl, h1, h2, h3, h1.len.1, h2.len.1, h3.len.1, h1.len.2.2, h2.len.2.2, h3.len.2.2⟩
theorem s5a.open_ {b : List G0a} {cs : List Value} (h : s5a M w cs b) : ∃ A n c, cs = [.slice A n c] ∧ S6c M w (.slice A n c) b ∧ n = b.length ∧ n ≤ 140737488355328 := by
 obtain ⟨_, rfl, h1⟩ := h
 obtain ⟨A, n, c, rfl⟩ := h1.form
 exact ⟨_, _, _, rfl, h1, h1.len.1, h1.len.2.2⟩
theorem V0a.open_ {e : G0a} {cs : List Value} (h : V0a M w cs e) : ∃ Ac nc cc Av nv cv, cs = [.slice Ac nc cc, .slice Av nv cv] ∧ RdI M w (.slice Ac nc cc) e.cells ∧ RdI M w (.slice Av nv cv) e.values ∧ nc = e.cells.length ∧ nv = e.values.length ∧ nc ≤ 140737488355328 ∧ nv ≤ 140737488355328 := by
 obtain ⟨_, _, rfl, h1, h2⟩ := h
 obtain ⟨Ac, nc, cc, rfl⟩ := h1.form
 obtain ⟨Av, nv, cv, rfl⟩ := h2.form
 exact ⟨_, _, _, _, _, _, rfl, h1, h2, h1.len.1, h2.len.1, h1.len.2.2, h2.len.2.2⟩
end
theorem W9c {cells : List d2a} {k : Nat} {c : d2a} (h : cells[k]? = some c) : wAt cells (k : Int) = c.w := A5a (by omega) (by simpa using h)
structure InP (p : f0a) (M : List Nat) (w : World) (cs : List Value) : Prop where
 rd : j1a M w p cs
 ok : b1a p
 msk : a3a M w
 lt : ∀ g ∈ M, g < w.heap.size
theorem InP.keep {p : f0a} {M : List Nat} {w w' : World} {cs : List Value} (h : InP p M w cs) (hk : w0a M w w') : InP p M w' cs :=
 ⟨h.rd.keep hk, h.ok, h.msk.keep hk, fun g hg => Nat.lt_of_lt_of_le (h.lt g hg) hk.size⟩
theorem u1b {w0 w : World} {L : List Ent} {g t k : Nat} {cs : List Value} {M : List Nat} (S : St [] w0 w L) (hk : L[k]? = some (some g, t, cs)) : ∀ x ∈ g :: M, x ∈ M ∨ w0.heap.size ≤ x := fun x hx => by
 rcases List.mem_cons.1 hx with rfl | h
 ·rcases S.new k hk with h | h
  ·exact .inr h
  ·cases h
 ·exact .inl h
theorem InP.add {p : f0a} {M : List Nat} {w0 w : World} {cs : List Value} (h : InP p M w0 cs) {L : List Ent} {g t k : Nat} {cs' : List Value} (S : St [] w0 w L) (hk : L[k]? = some (some g, t, cs')) : InP p (g :: M) w cs :=
 ⟨(h.rd.more (u1b S hk)).keep (S.keep0 _), h.ok, (h.msk.more (u1b S hk)).keep (S.keep0 _), fun x hx => by
   rcases List.mem_cons.1 hx with rfl | hx
   ·exact S.lt k hk
   ·exact Nat.lt_of_lt_of_le (h.lt x hx) S.size⟩
theorem t0a.add {c : q0a} {M : List Nat} {w0 w : World} {cs : List Value} (h : t0a M w0 c cs) {L : List Ent} {g t k : Nat} {cs' : List Value} (S : St [] w0 w L) (hk : L[k]? = some (some g, t, cs')) : t0a (g :: M) w c cs :=
 (h.more (u1b S hk)).keep (S.keep0 _)
section
variable {H : Type} {enc : TypeId × Value → H} {P : Program} {W : World} {base : Nat} {sp : Nat → Bool} {held : Bool}
def t3a (P : Program) (t : TypeId) (d : DataW H) : Prop := ∀ m ∈ d.weights P t, m ≤ reachBytes
theorem q3a {n : Int} (h : (Lit.int .i64 n).wf = true) : i64 n := by
 simp [Lit.wf, IntKind.min, IntKind.max, IntKind.signed, IntKind.bits] at h; exact h
theorem W7b {a : Addr} {v : Value} (h : W.cell? a = some v) : a = ⟨a.block, a.off, none⟩ := by
 obtain ⟨_, _, s⟩ := a
 cases s with
 | none => rfl
 | some x => unfold World.cell? at h; split at h <;> simp at h
theorem c3b {e : TypeId} {l : List (DataW H)} {i : Nat} {d : DataW H} (hi : l[i]? = some d) : ∀ m ∈ d.weights P e, m ∈ DataW.weightsAll P e l := by
 induction l generalizing i with
 | nil => simp at hi
 | cons x xs ih =>
   intro m hm
   rw [DataW.weightsAll]
   cases i with
   | zero => simp at hi; subst hi; exact List.mem_append_left _ hm
   | succ i => exact List.mem_append_right _ (ih (by simpa using hi) m hm)
theorem O2a {α : Type} {size t e : Nat} {fuel : Nat} {R : List Value → α → Prop} {v : Value} {x : DataW H × List MemPlace} (ht : P.underlying t = some (.slice e)) (hc : P.cellsOf e = size) (hs : 0 < size) (hby : 1 ≤ P.bytesOf e)
 (hel : ∀ (n : Nat) (cs : List Value) (y : DataW H × List MemPlace), n < fuel → cs.length = size → DataW.trod enc P W base sp held n e cs = some y → t3a P e y.1 → ∃ a, R cs a)
 (h : DataW.trod enc P W base sp held fuel t [v] = some x) (hw : t3a P t x.1) : ∃ l, RdS [] W size R v l := by
 rcases DataW.trod_slice ht h with ⟨h1, h2⟩ | ⟨a, len, cap, elems, rest, n, hf, h1, h2, hb, hl, hm, hlen, hget, -, -⟩
 ·cases h1
  exact ⟨[], none, 0, 0, rfl, rfl, Nat.le_refl _, by unfold maxLen; omega, by omega, fun h => absurd h (by omega)⟩
 ·cases h1
  have hwx : t3a P t (.slice (elems.map (·.1)) (rest.map (·.1))) := by rw [h2] at hw; exact hw
  have hlen2 : len ≤ 140737488355328 := by
   have := hwx ((elems.length + rest.length) * P.bytesOf e) (by rw [DataW.weights, ht]; simp)
   have h3 : len * 1 ≤ (elems.length + rest.length) * P.bytesOf e := Nat.mul_le_mul (by omega) hby
   unfold reachBytes at this; omega
  have each : ∀ i, i < len → ∃ cs q, cs.length = size ∧ R cs q ∧ ∀ j, j < size → W.cell? ((a.add (i * size)).add j) = cs[j]? := by
   intro i hi
   have hg := hget i hi
   have hie : i < elems.length := by omega
   rw [List.getElem?_eq_getElem hie, Option.bind_eq_some_iff] at hg
   obtain ⟨cs, hcs, htr⟩ := hg
   rw [hc] at hcs
   obtain ⟨-, hcl, hcell⟩ := World.cells?_some hcs
   obtain ⟨q, hq⟩ := hel n cs _ (by omega) hcl htr (fun m hm' => by
    refine hwx m ?_
    rw [DataW.weights, ht]
    refine List.mem_cons_of_mem _ (List.mem_append_left _ (c3b (i := i) ?_ m hm'))
    rw [List.getElem?_map, List.getElem?_eq_getElem hie]; rfl)
   exact ⟨cs, q, hcl, hq, hcell⟩
  by_cases h0 : len = 0
  ·subst h0
   exact ⟨[], some a, 0, cap, rfl, rfl, hl, hm, by omega, fun h => absurd h (by omega)⟩
  ·have ha : a = ⟨a.block, a.off, none⟩ := by
    obtain ⟨cs, q, hcl, _, hcell⟩ := each 0 (by omega)
    have := hcell 0 (by omega)
    rw [List.getElem?_eq_getElem (by omega)] at this
    simp only [Nat.zero_mul, Addr.add_zero'] at this
    exact W7b this
   let f : Fin len → α := fun i => Classical.choose (Classical.choose_spec (each i.1 i.2))
   have hf' : ∀ i : Fin len, ∃ cs : List Value, cs.length = size ∧ R cs (f i) ∧ ∀ j, j < size → W.cell? ((a.add (i.1 * size)).add j) = cs[j]? := fun i =>
    ⟨Classical.choose (each i.1 i.2), Classical.choose_spec (Classical.choose_spec (each i.1 i.2))⟩
   refine ⟨List.ofFn f, some a, len, cap, rfl, by simp, hl, hm, hlen2, fun _ => ⟨a.block, a.off, by rw [← ha], by simp, fun i x hx => ?_⟩⟩
   have hi : i < len := by have := (List.getElem?_eq_some_iff.1 hx).1; simpa using this
   have hx' : x = f ⟨i, hi⟩ := by
    rw [List.getElem?_eq_getElem (by simpa using hi)] at hx
    simp at hx; exact hx.symm
   obtain ⟨cs, hcl, hR, hcell⟩ := hf' ⟨i, hi⟩
   refine ⟨cs, hcl, fun j u hj => ?_, by rw [hx']; exact hR⟩
   have hjs : j < size := by have := (List.getElem?_eq_some_iff.1 hj).1; omega
   have := hcell j hjs
   rw [hj] at this
   rw [ha] at this
   rw [Addr.add_lit, Addr.add_lit] at this
   exact this
theorem f2b {t : TypeId} {fs : Array Field} {xs : List (DataW H × List MemPlace)} {i : Nat} {f : Field} {y : DataW H × List MemPlace} (ht : P.underlying t = some (.struct fs)) (hw : t3a P t (.agg (xs.map (·.1)))) (hf : fs[i]? = some f) (hy : xs[i]? = some y) : t3a P f.type y.1 := fun m hm => by
 refine hw m ?_
 rw [DataW.weights, ht]
 refine DataW.weights_mem_each (j := i) (t := f.type) (d := y.1) ?_ ?_ m hm
 ·rw [List.getElem?_map]; simp [hf]
 ·rw [List.getElem?_map, hy]; rfl
theorem V9c {l : List Value} (h : l.length = 4) : ∃ a0 a1 a2 a3, l = [a0, a1, a2, a3] := by
 match l, h with
 | [a0, a1, a2, a3], _ => exact ⟨a0, a1, a2, a3, rfl⟩
theorem h0d {l : List Value} (h : l.length = 5) : ∃ a0 a1 a2 a3 a4, l = [a0, a1, a2, a3, a4] := by
 match l, h with
 | [a0, a1, a2, a3, a4], _ => exact ⟨a0, a1, a2, a3, a4, rfl⟩
theorem s9c {l : List Value} (h : l.length = 6) : ∃ a0 a1 a2 a3 a4 a5, l = [a0, a1, a2, a3, a4, a5] := by
 match l, h with
 | [a0, a1, a2, a3, a4, a5], _ => exact ⟨a0, a1, a2, a3, a4, a5, rfl⟩
theorem f0d {l : List Value} (h : l.length = 7) : ∃ a0 a1 a2 a3 a4 a5 a6, l = [a0, a1, a2, a3, a4, a5, a6] := by
 match l, h with
 | [a0, a1, a2, a3, a4, a5, a6], _ => exact ⟨a0, a1, a2, a3, a4, a5, a6, rfl⟩
theorem r8c {l : List Value} (h : l.length = 11) : ∃ a0 a1 a2 a3 a4 a5 a6 a7 a8 a9 a10, l = [a0, a1, a2, a3, a4, a5, a6, a7, a8, a9, a10] := by
 match l, h with
 | [a0, a1, a2, a3, a4, a5, a6, a7, a8, a9, a10], _ => exact ⟨a0, a1, a2, a3, a4, a5, a6, a7, a8, a9, a10, rfl⟩
theorem K0a {t : TypeId} {fs : Array Field} {cs : List Value} {xs : List (DataW H × List MemPlace)} {n : Nat} (i ty off : Nat) (hlen : xs.length = fs.size) (hget : ∀ (i : Nat) (f : Field), fs[i]? = some f → DataW.trod enc P W base sp held n f.type ((cs.drop f.offset).take (P.cellsOf f.type)) = xs[i]?) (ht : P.underlying t = some (.struct fs)) (hw : t3a P t (.agg (xs.map (·.1)))) (hf : (fs[i]?).map (fun f => (f.type, f.offset)) = some (ty, off)) :
 ∃ y, DataW.trod enc P W base sp held n ty ((cs.drop off).take (P.cellsOf ty)) = some y ∧ t3a P ty y.1 := by
 cases hfi : fs[i]? with
 | none => rw [hfi] at hf; cases hf
 | some f =>
   rw [hfi] at hf
   simp only [Option.map_some, Option.some.injEq, Prod.mk.injEq] at hf
   obtain ⟨rfl, rfl⟩ := hf
   have hi : i < xs.length := by rw [hlen]; exact (Array.getElem?_eq_some_iff.1 hfi).1
   exact ⟨xs[i], by rw [hget i f hfi, List.getElem?_eq_getElem hi], f2b ht hw hfi (List.getElem?_eq_getElem hi)⟩
end
section
variable {H : Type} {enc : TypeId × Value → H} {W : World} {base : Nat} {sp : Nat → Bool} {held : Bool}
theorem L5b {t : TypeId} {s : ByteArray} {y : DataW H × List MemPlace} (hx : y = (.lit (.string s.data.toList), [])) (hw : t3a Tryz.prog t y.1) : s.size ≤ 140737488355328 := by
 have h := hw s.data.toList.length (by rw [hx]; exact List.mem_singleton.2 rfl)
 have e : s.data.toList.length = s.size := Array.length_toList
 unfold reachBytes at h; omega
theorem W3b {α : Type} {M : List Nat} {w : World} {size : Nat} {R : List Value → α → Prop} {Q : α → Prop} {v : Value} {l : List α} (h : RdS M w size R v l) (hq : ∀ cs x, R cs x → Q x) : ∀ x ∈ l, Q x := fun x hx => by
 obtain ⟨_, _, _, rfl⟩ := h.form
 obtain ⟨i, hi⟩ := List.mem_iff_getElem?.1 hx
 obtain ⟨_, _, _, cs, h1, -, -, -, -, h2⟩ := RdS.get h i (List.getElem?_eq_some_iff.1 hi).1
 rw [hi] at h1; cases h1
 exact hq _ _ h2
theorem d0b : Tryz.prog.cellsOf 3 = 1 := by kernel_rfl
theorem m4b : Tryz.prog.cellsOf 4 = 1 := by kernel_rfl
theorem P9a : Tryz.prog.cellsOf 9 = 1 := by kernel_rfl
theorem c3 : Tryz.prog.cellsOf 3 = 1 := by kernel_rfl
theorem X7c : Tryz.prog.cellsOf 51 = 1 := by kernel_rfl
theorem V3c : Tryz.prog.cellsOf 53 = 4 := by kernel_rfl
theorem e7c : 1 ≤ Tryz.prog.bytesOf 53 := of_decide_eq_true (by kernel_rfl)
theorem d0d : 1 ≤ Tryz.prog.bytesOf 3 := of_decide_eq_true (by kernel_rfl)
theorem f4a : ∀ (fuel : Nat) (cs : List Value) (x : DataW H × List MemPlace), DataW.trod enc Tryz.prog W base sp held fuel 53 cs = some x → t3a Tryz.prog 53 x.1 → ∃ e, RdE [] W e cs := by
 intro fuel
 induction fuel using Nat.strongRecOn with
 | _ fuel ih =>
 intro cs x h hw
 obtain ⟨_, _, _, hx, hl, hlen, hget⟩ := DataW.trod_struct Tryz.underlying53 h
 rw [hx] at hw
 rw [V3c] at hl
 obtain ⟨_, t0, -⟩ := K0a 0 3 0 hlen hget Tryz.underlying53 hw rfl
 obtain ⟨_, t1, -⟩ := K0a 1 3 1 hlen hget Tryz.underlying53 hw rfl
 obtain ⟨_, t2, -⟩ := K0a 2 3 2 hlen hget Tryz.underlying53 hw rfl
 obtain ⟨_, t3, w3⟩ := K0a 3 51 3 hlen hget Tryz.underlying53 hw rfl
 simp only [c3, X7c] at t0 t1 t2 t3
 obtain ⟨_, _, _, _, rfl⟩ := V9c hl
 simp only [List.drop_succ_cons, List.drop_zero, List.take_succ_cons, List.take_zero] at t0 t1 t2 t3
 obtain ⟨m0, e0, -, f0⟩ := DataW.trod_int Tryz.underlying3 t0
 obtain ⟨m1, e1, -, f1⟩ := DataW.trod_int Tryz.underlying3 t1
 obtain ⟨m2, e2, -, f2⟩ := DataW.trod_int Tryz.underlying3 t2
 cases e0; cases e1; cases e2
 obtain ⟨ks, hks⟩ := O2a (R := fun cs e => RdE [] W e cs) Tryz.underlying51 V3c (by omega) e7c (fun k cs y hk _ hy hl => ih k (by omega) cs y hy hl) t3 w3
 obtain ⟨A, k, c, rfl, hk, hkc, hcm, hbig, hel⟩ := hks
 refine ⟨⟨m0, m1, m2, ks⟩, ?_⟩
 rw [RdE]
 refine ⟨A, k, c, rfl, q3a f0, q3a f1, q3a f2, hk, hkc, hcm, hbig, fun h0 => ?_⟩
 obtain ⟨b, o, hA, hb, hel⟩ := hel h0
 refine ⟨b, o, hA, hb, fun i hi => ?_⟩
 obtain ⟨cs', -, hc, hr⟩ := hel i ks[i] (List.getElem?_eq_getElem hi)
 exact ⟨cs', hc, hr⟩
theorem z7a {fuel : Nat} {v : Value} {x : DataW H × List MemPlace} (h : DataW.trod enc Tryz.prog W base sp held fuel 35 [v] = some x) (hw : t3a Tryz.prog 35 x.1) : ∃ l, RdI [] W v l :=
 O2a Tryz.underlying35 c3 (by omega) d0d (fun n cs y _ _ hy _ => by
  obtain ⟨m, e, -, f⟩ := DataW.trod_int Tryz.underlying3 hy
  exact ⟨m, e, q3a f⟩) h hw
theorem E7b {fuel : Nat} {v : Value} {x : DataW H × List MemPlace} (h : DataW.trod enc Tryz.prog W base sp held fuel 51 [v] = some x) (hw : t3a Tryz.prog 51 x.1) : ∃ l, w7c [] W v l :=
 O2a Tryz.underlying51 V3c (by omega) e7c (fun n cs y _ _ hy hl => f4a n cs y hy hl) h hw
theorem h4a : Tryz.prog.cellsOf 101 = 6 := by kernel_rfl
theorem h0c {fuel : Nat} {cs : List Value} {x : DataW H × List MemPlace} (h : DataW.trod enc Tryz.prog W base sp held fuel 101 cs = some x) (hw : t3a Tryz.prog 101 x.1) : ∃ c, Z2a cs c ∧ c.name.size ≤ 140737488355328 := by
 obtain ⟨_, _, _, hx, hl, hlen, hget⟩ := DataW.trod_struct Tryz.underlying101 h
 rw [hx] at hw
 rw [h4a] at hl
 obtain ⟨_, t0, w0⟩ := K0a 0 9 0 hlen hget Tryz.underlying101 hw rfl
 obtain ⟨_, t1, -⟩ := K0a 1 3 1 hlen hget Tryz.underlying101 hw rfl
 obtain ⟨_, t2, -⟩ := K0a 2 3 2 hlen hget Tryz.underlying101 hw rfl
 obtain ⟨_, t3, -⟩ := K0a 3 3 3 hlen hget Tryz.underlying101 hw rfl
 obtain ⟨_, t4, -⟩ := K0a 4 4 4 hlen hget Tryz.underlying101 hw rfl
 obtain ⟨_, t5, -⟩ := K0a 5 3 5 hlen hget Tryz.underlying101 hw rfl
 simp only [P9a, d0b, m4b] at t0 t1 t2 t3 t4 t5
 obtain ⟨_, _, _, _, _, _, rfl⟩ := s9c hl
 simp only [List.drop_succ_cons, List.drop_zero, List.take_succ_cons, List.take_zero] at t0 t1 t2 t3 t4 t5
 obtain ⟨m0, e0, s0, -⟩ := DataW.trod_string Tryz.underlying9 t0
 obtain ⟨m1, e1, -, f1⟩ := DataW.trod_int Tryz.underlying3 t1
 obtain ⟨m2, e2, -, f2⟩ := DataW.trod_int Tryz.underlying3 t2
 obtain ⟨m3, e3, -, f3⟩ := DataW.trod_int Tryz.underlying3 t3
 obtain ⟨m4, e4, -⟩ := DataW.trod_bool Tryz.underlying4 t4
 obtain ⟨m5, e5, -, f5⟩ := DataW.trod_int Tryz.underlying3 t5
 cases e0; cases e1; cases e2; cases e3; cases e4; cases e5
 exact ⟨⟨m0, m1, m2, m3, m4, m5⟩, ⟨rfl, q3a f1, q3a f2, q3a f3, q3a f5⟩, L5b s0 w0⟩
theorem L9c : 1 ≤ Tryz.prog.bytesOf 101 := of_decide_eq_true (by kernel_rfl)
theorem Q6b {fuel : Nat} {v : Value} {x : DataW H × List MemPlace} (h : DataW.trod enc Tryz.prog W base sp held fuel 22 [v] = some x) (hw : t3a Tryz.prog 22 x.1) : ∃ l, W4c [] W v l ∧ ∀ c ∈ l, c.name.size ≤ 140737488355328 := by
 obtain ⟨l, hl⟩ := O2a Tryz.underlying22 h4a (by omega) L9c (fun n cs y _ _ hy hl => h0c hy hl) h hw
 exact ⟨l, hl.mono (fun _ _ h => h.1), W3b hl (fun _ _ h => h.2)⟩
theorem P1a : Tryz.prog.cellsOf 53 = 4 := by kernel_rfl
theorem A3a : Tryz.prog.cellsOf 98 = 5 := by kernel_rfl
theorem B4b {fuel : Nat} {cs : List Value} {x : DataW H × List MemPlace} (h : DataW.trod enc Tryz.prog W base sp held fuel 98 cs = some x) (hw : t3a Tryz.prog 98 x.1) : ∃ c, R0a [] W cs c := by
 obtain ⟨_, _, _, hx, hl, hlen, hget⟩ := DataW.trod_struct Tryz.underlying98 h
 rw [hx] at hw
 rw [A3a] at hl
 obtain ⟨_, t0, -⟩ := K0a 0 3 0 hlen hget Tryz.underlying98 hw rfl
 obtain ⟨_, t1, w1⟩ := K0a 1 53 1 hlen hget Tryz.underlying98 hw rfl
 simp only [d0b, P1a] at t0 t1
 obtain ⟨_, _, _, _, _, rfl⟩ := h0d hl
 simp only [List.drop_succ_cons, List.drop_zero, List.take_succ_cons, List.take_zero] at t0 t1
 obtain ⟨m0, e0, -, f0⟩ := DataW.trod_int Tryz.underlying3 t0
 obtain ⟨x1, h1⟩ := f4a _ _ _ t1 w1
 cases e0
 exact ⟨⟨m0, x1⟩, _, rfl, q3a f0, h1⟩
theorem Z3c : 1 ≤ Tryz.prog.bytesOf 98 := of_decide_eq_true (by kernel_rfl)
theorem A2b {fuel : Nat} {v : Value} {x : DataW H × List MemPlace} (h : DataW.trod enc Tryz.prog W base sp held fuel 88 [v] = some x) (hw : t3a Tryz.prog 88 x.1) : ∃ l, a4c [] W v l :=
 O2a Tryz.underlying88 A3a (by omega) Z3c (fun n cs y _ _ hy hl => B4b hy hl) h hw
theorem t1b : Tryz.prog.cellsOf 88 = 1 := by kernel_rfl
theorem a4a : Tryz.prog.cellsOf 90 = 11 := by kernel_rfl
theorem g8b {fuel : Nat} {cs : List Value} {x : DataW H × List MemPlace} (h : DataW.trod enc Tryz.prog W base sp held fuel 90 cs = some x) (hw : t3a Tryz.prog 90 x.1) : ∃ c, m2a [] W cs c := by
 obtain ⟨_, _, _, hx, hl, hlen, hget⟩ := DataW.trod_struct Tryz.underlying90 h
 rw [hx] at hw
 rw [a4a] at hl
 obtain ⟨_, t0, -⟩ := K0a 0 3 0 hlen hget Tryz.underlying90 hw rfl
 obtain ⟨_, t1, -⟩ := K0a 1 3 1 hlen hget Tryz.underlying90 hw rfl
 obtain ⟨_, t2, -⟩ := K0a 2 3 2 hlen hget Tryz.underlying90 hw rfl
 obtain ⟨_, t3, w3⟩ := K0a 3 53 3 hlen hget Tryz.underlying90 hw rfl
 obtain ⟨_, t4, w4⟩ := K0a 4 88 7 hlen hget Tryz.underlying90 hw rfl
 obtain ⟨_, t5, -⟩ := K0a 5 4 8 hlen hget Tryz.underlying90 hw rfl
 obtain ⟨_, t6, -⟩ := K0a 6 3 9 hlen hget Tryz.underlying90 hw rfl
 obtain ⟨_, t7, -⟩ := K0a 7 3 10 hlen hget Tryz.underlying90 hw rfl
 simp only [d0b, P1a, t1b, m4b] at t0 t1 t2 t3 t4 t5 t6 t7
 obtain ⟨_, _, _, _, _, _, _, _, _, _, _, rfl⟩ := r8c hl
 simp only [List.drop_succ_cons, List.drop_zero, List.take_succ_cons, List.take_zero] at t0 t1 t2 t3 t4 t5 t6 t7
 obtain ⟨m0, e0, -, f0⟩ := DataW.trod_int Tryz.underlying3 t0
 obtain ⟨m1, e1, -, f1⟩ := DataW.trod_int Tryz.underlying3 t1
 obtain ⟨m2, e2, -, f2⟩ := DataW.trod_int Tryz.underlying3 t2
 obtain ⟨x3, h3⟩ := f4a _ _ _ t3 w3
 obtain ⟨x4, h4⟩ := A2b t4 w4
 obtain ⟨m5, e5, -⟩ := DataW.trod_bool Tryz.underlying4 t5
 obtain ⟨m6, e6, -, f6⟩ := DataW.trod_int Tryz.underlying3 t6
 obtain ⟨m7, e7, -, f7⟩ := DataW.trod_int Tryz.underlying3 t7
 cases e0; cases e1; cases e2; cases e5; cases e6; cases e7
 exact ⟨⟨m0, m1, m2, x3, x4, m5, m6, m7⟩, _, _, _, _, _, rfl, q3a f0, q3a f1, q3a f2, q3a f6, q3a f7, h3, h4⟩
theorem u9c : 1 ≤ Tryz.prog.bytesOf 90 := of_decide_eq_true (by kernel_rfl)
theorem q7b {fuel : Nat} {v : Value} {x : DataW H × List MemPlace} (h : DataW.trod enc Tryz.prog W base sp held fuel 83 [v] = some x) (hw : t3a Tryz.prog 83 x.1) : ∃ l, I8c [] W v l :=
 O2a Tryz.underlying83 a4a (by omega) u9c (fun n cs y _ _ hy hl => g8b hy hl) h hw
theorem K4b : Tryz.prog.cellsOf 35 = 1 := by kernel_rfl
theorem c4a : Tryz.prog.cellsOf 117 = 6 := by kernel_rfl
theorem w9b {fuel : Nat} {cs : List Value} {x : DataW H × List MemPlace} (h : DataW.trod enc Tryz.prog W base sp held fuel 117 cs = some x) (hw : t3a Tryz.prog 117 x.1) : ∃ c, n5a [] W cs c := by
 obtain ⟨_, _, _, hx, hl, hlen, hget⟩ := DataW.trod_struct Tryz.underlying117 h
 rw [hx] at hw
 rw [c4a] at hl
 obtain ⟨_, t0, -⟩ := K0a 0 3 0 hlen hget Tryz.underlying117 hw rfl
 obtain ⟨_, t1, w1⟩ := K0a 1 35 1 hlen hget Tryz.underlying117 hw rfl
 obtain ⟨_, t2, w2⟩ := K0a 2 53 2 hlen hget Tryz.underlying117 hw rfl
 simp only [d0b, K4b, P1a] at t0 t1 t2
 obtain ⟨_, _, _, _, _, _, rfl⟩ := s9c hl
 simp only [List.drop_succ_cons, List.drop_zero, List.take_succ_cons, List.take_zero] at t0 t1 t2
 obtain ⟨m0, e0, -, f0⟩ := DataW.trod_int Tryz.underlying3 t0
 obtain ⟨x1, h1⟩ := z7a t1 w1
 obtain ⟨x2, h2⟩ := f4a _ _ _ t2 w2
 cases e0
 exact ⟨⟨m0, x1, x2⟩, _, _, _, _, _, rfl, q3a f0, h1, h2⟩
theorem q9c : 1 ≤ Tryz.prog.bytesOf 117 := of_decide_eq_true (by kernel_rfl)
theorem R6b {fuel : Nat} {v : Value} {x : DataW H × List MemPlace} (h : DataW.trod enc Tryz.prog W base sp held fuel 84 [v] = some x) (hw : t3a Tryz.prog 84 x.1) : ∃ l, y9c [] W v l :=
 O2a Tryz.underlying84 c4a (by omega) q9c (fun n cs y _ _ hy hl => w9b hy hl) h hw
theorem E4b : Tryz.prog.cellsOf 51 = 1 := by kernel_rfl
theorem R3b : Tryz.prog.cellsOf 83 = 1 := by kernel_rfl
theorem w4b : Tryz.prog.cellsOf 84 = 1 := by kernel_rfl
theorem w3a : Tryz.prog.cellsOf 86 = 7 := by kernel_rfl
theorem s4b {fuel : Nat} {cs : List Value} {x : DataW H × List MemPlace} (h : DataW.trod enc Tryz.prog W base sp held fuel 86 cs = some x) (hw : t3a Tryz.prog 86 x.1) : ∃ c, N0a [] W cs c ∧ c.name.size ≤ 140737488355328 := by
 obtain ⟨_, _, _, hx, hl, hlen, hget⟩ := DataW.trod_struct Tryz.underlying86 h
 rw [hx] at hw
 rw [w3a] at hl
 obtain ⟨_, t0, w0⟩ := K0a 0 9 0 hlen hget Tryz.underlying86 hw rfl
 obtain ⟨_, t1, -⟩ := K0a 1 3 1 hlen hget Tryz.underlying86 hw rfl
 obtain ⟨_, t2, w2⟩ := K0a 2 51 2 hlen hget Tryz.underlying86 hw rfl
 obtain ⟨_, t3, w3⟩ := K0a 3 35 3 hlen hget Tryz.underlying86 hw rfl
 obtain ⟨_, t4, w4⟩ := K0a 4 83 4 hlen hget Tryz.underlying86 hw rfl
 obtain ⟨_, t5, w5⟩ := K0a 5 84 5 hlen hget Tryz.underlying86 hw rfl
 obtain ⟨_, t6, -⟩ := K0a 6 4 6 hlen hget Tryz.underlying86 hw rfl
 simp only [P9a, d0b, E4b, K4b, R3b, w4b, m4b] at t0 t1 t2 t3 t4 t5 t6
 obtain ⟨_, _, _, _, _, _, _, rfl⟩ := f0d hl
 simp only [List.drop_succ_cons, List.drop_zero, List.take_succ_cons, List.take_zero] at t0 t1 t2 t3 t4 t5 t6
 obtain ⟨m0, e0, s0, -⟩ := DataW.trod_string Tryz.underlying9 t0
 obtain ⟨m1, e1, -, f1⟩ := DataW.trod_int Tryz.underlying3 t1
 obtain ⟨x2, h2⟩ := E7b t2 w2
 obtain ⟨x3, h3⟩ := z7a t3 w3
 obtain ⟨x4, h4⟩ := q7b t4 w4
 obtain ⟨x5, h5⟩ := R6b t5 w5
 obtain ⟨m6, e6, -⟩ := DataW.trod_bool Tryz.underlying4 t6
 cases e0; cases e1; cases e6
 exact ⟨⟨m0, m1, x2, x3, x4, x5, m6⟩, ⟨_, _, _, _, rfl, q3a f1, h2, h3, h4, h5⟩, L5b s0 w0⟩
theorem o5c : 1 ≤ Tryz.prog.bytesOf 86 := of_decide_eq_true (by kernel_rfl)
theorem i3b {fuel : Nat} {v : Value} {x : DataW H × List MemPlace} (h : DataW.trod enc Tryz.prog W base sp held fuel 25 [v] = some x) (hw : t3a Tryz.prog 25 x.1) : ∃ l, Y8c [] W v l ∧ ∀ c ∈ l, c.name.size ≤ 140737488355328 := by
 obtain ⟨l, hl⟩ := O2a Tryz.underlying25 w3a (by omega) o5c (fun n cs y _ _ hy hl => s4b hy hl) h hw
 exact ⟨l, hl.mono (fun _ _ h => h.1), W3b hl (fun _ _ h => h.2)⟩
theorem i3a : Tryz.prog.cellsOf 111 = 11 := by kernel_rfl
theorem V1b {fuel : Nat} {cs : List Value} {x : DataW H × List MemPlace} (h : DataW.trod enc Tryz.prog W base sp held fuel 111 cs = some x) (hw : t3a Tryz.prog 111 x.1) : ∃ c, v1a [] W cs c ∧ c.name.size ≤ 140737488355328 ∧ c.owner.size ≤ 140737488355328 := by
 obtain ⟨_, _, _, hx, hl, hlen, hget⟩ := DataW.trod_struct Tryz.underlying111 h
 rw [hx] at hw
 rw [i3a] at hl
 obtain ⟨_, t0, w0⟩ := K0a 0 9 0 hlen hget Tryz.underlying111 hw rfl
 obtain ⟨_, t1, w1⟩ := K0a 1 9 1 hlen hget Tryz.underlying111 hw rfl
 obtain ⟨_, t2, w2⟩ := K0a 2 53 2 hlen hget Tryz.underlying111 hw rfl
 obtain ⟨_, t3, w3⟩ := K0a 3 53 6 hlen hget Tryz.underlying111 hw rfl
 obtain ⟨_, t4, w4⟩ := K0a 4 35 10 hlen hget Tryz.underlying111 hw rfl
 simp only [P9a, P1a, K4b] at t0 t1 t2 t3 t4
 obtain ⟨_, _, _, _, _, _, _, _, _, _, _, rfl⟩ := r8c hl
 simp only [List.drop_succ_cons, List.drop_zero, List.take_succ_cons, List.take_zero] at t0 t1 t2 t3 t4
 obtain ⟨m0, e0, s0, -⟩ := DataW.trod_string Tryz.underlying9 t0
 obtain ⟨m1, e1, s1, -⟩ := DataW.trod_string Tryz.underlying9 t1
 obtain ⟨x2, h2⟩ := f4a _ _ _ t2 w2
 obtain ⟨x3, h3⟩ := f4a _ _ _ t3 w3
 obtain ⟨x4, h4⟩ := z7a t4 w4
 cases e0; cases e1
 exact ⟨⟨m0, m1, x2, x3, x4⟩, ⟨_, _, _, _, _, _, _, _, _, rfl, h2, h3, h4⟩, L5b s0 w0, L5b s1 w1⟩
theorem E8b : 1 ≤ Tryz.prog.bytesOf 111 := of_decide_eq_true (by kernel_rfl)
theorem b0b {fuel : Nat} {v : Value} {x : DataW H × List MemPlace} (h : DataW.trod enc Tryz.prog W base sp held fuel 23 [v] = some x) (hw : t3a Tryz.prog 23 x.1) : ∃ l, E9c [] W v l ∧ ∀ c ∈ l, c.name.size ≤ 140737488355328 ∧ c.owner.size ≤ 140737488355328 := by
 obtain ⟨l, hl⟩ := O2a Tryz.underlying23 i3a (by omega) E8b (fun n cs y _ _ hy hl => V1b hy hl) h hw
 exact ⟨l, hl.mono (fun _ _ h => h.1), W3b hl (fun _ _ h => h.2)⟩
theorem g4a : Tryz.prog.cellsOf 115 = 6 := by kernel_rfl
theorem S9b {fuel : Nat} {cs : List Value} {x : DataW H × List MemPlace} (h : DataW.trod enc Tryz.prog W base sp held fuel 115 cs = some x) (hw : t3a Tryz.prog 115 x.1) : ∃ c, G4a [] W cs c := by
 obtain ⟨_, _, _, hx, hl, hlen, hget⟩ := DataW.trod_struct Tryz.underlying115 h
 rw [hx] at hw
 rw [g4a] at hl
 obtain ⟨_, t0, -⟩ := K0a 0 3 0 hlen hget Tryz.underlying115 hw rfl
 obtain ⟨_, t1, w1⟩ := K0a 1 53 1 hlen hget Tryz.underlying115 hw rfl
 obtain ⟨_, t2, -⟩ := K0a 2 3 5 hlen hget Tryz.underlying115 hw rfl
 simp only [d0b, P1a] at t0 t1 t2
 obtain ⟨_, _, _, _, _, _, rfl⟩ := s9c hl
 simp only [List.drop_succ_cons, List.drop_zero, List.take_succ_cons, List.take_zero] at t0 t1 t2
 obtain ⟨m0, e0, -, f0⟩ := DataW.trod_int Tryz.underlying3 t0
 obtain ⟨x1, h1⟩ := f4a _ _ _ t1 w1
 obtain ⟨m2, e2, -, f2⟩ := DataW.trod_int Tryz.underlying3 t2
 cases e0; cases e2
 exact ⟨⟨m0, x1, m2⟩, _, _, _, _, rfl, q3a f0, q3a f2, h1⟩
theorem A9c : 1 ≤ Tryz.prog.bytesOf 115 := of_decide_eq_true (by kernel_rfl)
theorem G6b {fuel : Nat} {v : Value} {x : DataW H × List MemPlace} (h : DataW.trod enc Tryz.prog W base sp held fuel 24 [v] = some x) (hw : t3a Tryz.prog 24 x.1) : ∃ l, S8c [] W v l :=
 O2a Tryz.underlying24 g4a (by omega) A9c (fun n cs y _ _ hy hl => S9b hy hl) h hw
theorem j4b : Tryz.prog.cellsOf 22 = 1 := by kernel_rfl
theorem f9a : Tryz.prog.cellsOf 23 = 1 := by kernel_rfl
theorem a4b : Tryz.prog.cellsOf 24 = 1 := by kernel_rfl
theorem a1b : Tryz.prog.cellsOf 25 = 1 := by kernel_rfl
theorem u5a : Tryz.prog.cellsOf 27 = 4 := by kernel_rfl
theorem q3b {fuel : Nat} {cs : List Value} {x : DataW H × List MemPlace} (h : DataW.trod enc Tryz.prog W base sp held fuel 27 cs = some x) (hw : t3a Tryz.prog 27 x.1) : ∃ c, j1a [] W c cs ∧ X2b c := by
 obtain ⟨_, _, _, hx, hl, hlen, hget⟩ := DataW.trod_struct Tryz.underlying27 h
 rw [hx] at hw
 rw [u5a] at hl
 obtain ⟨_, t0, w0⟩ := K0a 0 22 0 hlen hget Tryz.underlying27 hw rfl
 obtain ⟨_, t1, w1⟩ := K0a 1 23 1 hlen hget Tryz.underlying27 hw rfl
 obtain ⟨_, t2, w2⟩ := K0a 2 24 2 hlen hget Tryz.underlying27 hw rfl
 obtain ⟨_, t3, w3⟩ := K0a 3 25 3 hlen hget Tryz.underlying27 hw rfl
 simp only [j4b, f9a, a4b, a1b] at t0 t1 t2 t3
 obtain ⟨_, _, _, _, rfl⟩ := V9c hl
 simp only [List.drop_succ_cons, List.drop_zero, List.take_succ_cons, List.take_zero] at t0 t1 t2 t3
 obtain ⟨x0, h0⟩ := Q6b t0 w0
 obtain ⟨x1, h1⟩ := b0b t1 w1
 obtain ⟨x2, h2⟩ := G6b t2 w2
 obtain ⟨x3, h3⟩ := i3b t3 w3
 exact ⟨⟨x0, x1, x2, x3⟩, ⟨_, _, _, _, rfl, h0.1, h1.1, h2, h3.1⟩, ⟨h0.2, h1.2, h3.2⟩⟩
theorem K8b {W : World} : ∀ {l : List (String × DataW Unit)} {ps : List MemPlace}, DataW.LaidVars Tryz.prog W l ps → ∀ {i : Nat} {x : String × DataW Unit}, l[i]? = some x →
 ∃ g t cs fuel p, Tryz.prog.globalNamed x.1 = some g ∧ (Tryz.prog.globals[g]?).map (·.type) = some t ∧ W.var? Tryz.prog x.1 = some cs ∧ DataW.trod (fun _ => ()) Tryz.prog W 0 (fun _ => true) false fuel t cs.toList = some (x.2, p)
 | [], _, _, _, _, hi => by simp at hi
 | y :: l, ps, h, 0, x, hi => by
   obtain ⟨g0, t0, cs0, f0, p0, q0, hg0, ht0, hv0, hd0, -⟩ := h
   cases hi
   exact ⟨g0, t0, cs0, f0, p0, hg0, ht0, hv0, hd0⟩
 | y :: l, ps, h, i + 1, x, hi => by
   obtain ⟨g0, t0, cs0, f0, p0, q0, hg0, ht0, hv0, hd0, hr, -⟩ := h
   exact K8b hr (by simpa using hi)
theorem b8c : Tryz.prog.globalNamed ((Rows.exploreClosureRow.laid[0]?.map (·.1)).getD "") = some 0 := by kernel_rfl
theorem B7c : (Tryz.prog.globals[0]?).map (·.type) = some 177 := by kernel_rfl
theorem Q6c : Tryz.prog.cellsOf 177 = 9 := by kernel_rfl
theorem d2b {W : World} (h : laidMetH Tryz.prog Rows.exploreClosureRow.laid W) : a3a [] W := by
 rw [MakeChecks.laidMetH_plain _ _ _ (by kernel_rfl)] at h
 obtain ⟨_, hall, -⟩ := h
 obtain ⟨_, _, cs0, _, _, hg0, ht0, hv0, hd0⟩ := K8b hall (i := 0) rfl
 obtain rfl := Option.some.inj (b8c.symm.trans hg0)
 obtain rfl := Option.some.inj (B7c.symm.trans ht0)
 obtain ⟨xs, _, rfl, hx1, hlen, _, hel⟩ := DataW.trod_array Tryz.underlying177 hd0
 rw [Q6c] at hlen
 simp only [c3, Nat.mul_one] at hel
 refine ⟨by simp, fun i hi => ?_⟩
 have hcell := World.var?_cell hg0 hv0 i
 have hi9 : i < xs.length := by omega
 have he := hel i (by omega)
 rw [List.getElem?_eq_getElem hi9] at he
 obtain ⟨k, e1, e2, -⟩ := DataW.trod_int Tryz.underlying3 he
 have hil : i < cs0.toList.length := by omega
 have e1' : cs0.toList[i]? = some (.int .i64 k) := by
  have h1 : ((cs0.toList.drop i).take 1)[0]? = some (Value.int .i64 k) := by rw [e1]; rfl
  rw [List.getElem?_take, if_pos (by omega), List.getElem?_drop] at h1
  simpa using h1
 rw [hcell]
 have e3 : cs0[i]? = some (.int .i64 k) := by simpa using e1'
 rw [e3]
 have hx1 : (DataW.agg _ = DataW.agg _ ∧ _) := Prod.mk.inj hx1
 have hx1 := DataW.agg.inj hx1.1
 have e4 : (xs.map (·.1))[i]? = some (.lit (.int .i64 k)) := by rw [List.getElem?_map, List.getElem?_eq_getElem hi9, e2]; rfl
 rw [← hx1] at e4
 rcases (show i = 0 ∨ i = 1 ∨ i = 2 ∨ i = 3 ∨ i = 4 ∨ i = 5 ∨ i = 6 ∨ i = 7 ∨ i = 8 by omega) with rfl | rfl | rfl | rfl | rfl | rfl | rfl | rfl | rfl <;> (cases e4; rfl)
end
theorem own : ownKnob Tryz.prog.godebug = none := by kernel_rfl
theorem h5c : laidOutB Tryz.prog = true := by kernel_rfl
abbrev c7a : List (String × DataW Unit) := Rows.exploreClosureRow.laid
theorem i2c (os : Os) (args : Array Value) : laidMetH Tryz.prog c7a ((World.doorLaid Tryz.prog 400 os).forCall (fun _ _ => 0) ⟨#[], args, []⟩).memory :=
 laidMetH_of_parts3 (fuel := 8) (laidMet_of_run' 8 (by kernel_rfl) (by kernel_rfl)) (by kernel_rfl) (by kernel_rfl)
theorem p9b {H : Type} {enc : TypeId × Value → H} {W W' : World} (hb : Below W.heap.size W W') : ∀ (ts : List TypeId), (∀ t ∈ ts, Tryz.prog.readableRec t = true ∧ t < Tryz.prog.types.size) → ∀ (vs : List Value) (ds : List (DataW H)) (p : List MemPlace),
 (∀ x ∈ p, x.block < W.heap.size) → DataW.TrodAll enc Tryz.prog W 0 (fun _ => true) true ts vs ds p → DataW.TrodAll enc Tryz.prog W' 0 (fun b => decide (b < W.heap.size)) true ts vs ds p := by
 intro ts
 induction ts with
 | nil =>
   intro _ vs ds p _ h
   cases vs <;> cases ds <;> exact h
 | cons t ts ih =>
   intro ht vs ds p hp h
   cases vs with
   | nil => exact h.elim
   | cons v vs =>
     cases ds with
     | nil => exact h.elim
     | cons d ds =>
       obtain ⟨q, r, h1, h2, rfl⟩ := h
       obtain ⟨r1, r2⟩ := ht t (by simp)
       exact ⟨q, r, Below.trod h5c r1 r2 h1 hb (fun x hx => hp x (List.mem_append_left _ hx)), ih (fun t ht' => ht t (by simp [ht'])) vs ds r (fun x hx => hp x (List.mem_append_right _ hx)) h2, rfl⟩
theorem A9b {H : Type} {enc : TypeId × Value → H} {fn : Func} {s : ChangeSpec} {W W' : World} {args : Array Value} {ds : List (DataW H)} {before : List MemPlace} (hs : s.vars = []) (hr : fn.resultTypes = #[4])
 (hts : ∀ t ∈ fn.params.toList, Tryz.prog.readableRec t = true ∧ t < Tryz.prog.types.size) (hW : DataW.Whole enc Tryz.prog fn.params.toList s.vars false W args.toList ds [] before)
 (e1 : (s.fn H (ds ++ [])).results = [.lit (.bool true)]) (e2 : (s.fn H (ds ++ [])).args = ds) (e3 : (s.fn H (ds ++ [])).vars = []) (hb : Below W.heap.size W W') :
 s.post enc Tryz.prog fn false true false false W args (.bool true) W' := by
 have hlt := hW.lt
 obtain ⟨_, _, hA, hV, hpq, _, _⟩ := id hW
 rw [hs] at hV
 obtain ⟨-, rfl⟩ := trodVars_none hV
 rw [List.append_nil] at hpq
 subst hpq
 refine ⟨ds, [], before, [], before, [], hW, ?_, ?_, ?_, hb.frame _, fun h => by cases h⟩
 ·rw [e1, hr]; exact trodAll_mk1 (shut_bool Tryz.underlying4 true)
 ·rw [e2]; exact p9b hb _ hts _ _ _ hlt hA
 ·rw [e3, hs]; rfl
theorem K1c {H : Type} {ts : List TypeId} {ds : List (DataW H)} (h : (DataW.weightsEach Tryz.prog ts ds).all (· ≤ reachBytes) = true) {j : Nat} {t : TypeId} {d : DataW H} (ht : ts[j]? = some t) (hd : ds[j]? = some d) : t3a Tryz.prog t d := fun m hm => by
 have := List.all_eq_true.1 h m (DataW.weights_mem_each ht hd m hm)
 simpa using this
theorem I1b {f : FuncId} {args : Array Value} {W : World} {R : Value → World → Prop} {Q : Ending → World → Prop} (h : M0a Tryz.prog f args W R) (hQ : ∀ v W', R v W' → Q (.returned v) W') : Calls Tryz.prog f args W Q :=
 Calls.mono h fun _ _ ⟨v, he, hv⟩ => he ▸ hQ v _ hv
theorem T2c {size : Nat} : ∀ (css : List (List Value)) (i : Nat) (c : List Value), (∀ x ∈ css, x.length = size) → css[i]? = some c → ∀ (j : Nat) (u : Value), c[j]? = some u → css.flatten[i * size + j]? = some u := by
 intro css
 induction css with
 | nil => intro i c _ h; simp at h
 | cons x xs ih =>
   intro i c h4 hi j u hj
   have hx := h4 x (by simp)
   cases i with
   | zero =>
     simp at hi; subst hi
     have hjl : j < x.length := (List.getElem?_eq_some_iff.1 hj).1
     rw [List.flatten_cons, Nat.zero_mul, Nat.zero_add, List.getElem?_append_left hjl]; exact hj
   | succ i =>
     have := ih i c (fun y hy => h4 y (by simp [hy])) (by simpa using hi) j u hj
     have e : (i + 1) * size + j = x.length + (i * size + j) := by rw [hx, Nat.add_mul]; omega
     rw [List.flatten_cons, e, List.getElem?_append_right (by omega)]
     rw [show x.length + (i * size + j) - x.length = i * size + j by omega]; exact this
theorem x3a {size : Nat} (css : List (List Value)) (h4 : ∀ x ∈ css, x.length = size) : css.flatten.length = css.length * size := by
 induction css with
 | nil => simp
 | cons x xs ih => rw [List.flatten_cons, List.length_append, ih (fun y hy => h4 y (by simp [hy])), h4 x (by simp), List.length_cons, Nat.add_mul]; omega
structure a5a {α : Type} (R : List Nat → World → List Value → α → Prop) (size : Nat) : Prop where
 len : ∀ {M w cs x}, R M w cs x → cs.length = size
 one : ∀ {M w cs x}, R M w cs x → ∀ u ∈ cs, u.oneCell' = true
 keep : ∀ {M w w' cs x}, w0a M w w' → R M w cs x → R M w' cs x
 more : ∀ {M M' w cs x}, (∀ g ∈ M', g ∈ M ∨ w.heap.size ≤ g) → R M w cs x → R M' w cs x
section
variable {α : Type} {R : List Nat → World → List Value → α → Prop} {size : Nat}
def Q1a (R : List Nat → World → List Value → α → Prop) (size : Nat) (M : List Nat) (w : World) (G : Option Nat) (cs : List Value) (v : Value) (l : List α) : Prop :=
 ∃ css : List (List Value), css.length = l.length ∧ (∀ x ∈ css, x.length = size) ∧ C3a G size l.length cs v css.flatten ∧ ∀ (i : Nat) (x : α), l[i]? = some x → ∃ c, css[i]? = some c ∧ R (G.toList ++ M) w c x
theorem Q1a.keep (hL : a5a R size) {M : List Nat} {w w' : World} {G : Option Nat} {cs : List Value} {v : Value} {l : List α} (h : Q1a R size M w G cs v l) (hk : w0a (G.toList ++ M) w w') : Q1a R size M w' G cs v l := by
 obtain ⟨css, h1, h2, h3, h4⟩ := h
 refine ⟨css, h1, h2, h3, fun i x hi => ?_⟩
 obtain ⟨c, h5, h6⟩ := h4 i x hi
 exact ⟨c, h5, hL.keep hk h6⟩
theorem Q1a.nil {M : List Nat} {w : World} : Q1a R size M w none [] (.slice none 0 0) [] := ⟨[], rfl, by simp, C3a.nil size, fun i x hi => by simp at hi⟩
theorem Q1a.new {M : List Nat} {w : World} {g : Nat} : Q1a R size M w (some g) [] (.slice (some ⟨g, 0, none⟩) 0 0) [] :=
 ⟨[], rfl, by simp, ⟨by simp, .inr ⟨g, 0, rfl, rfl, Nat.le_refl _, by unfold maxLen; omega, by simp, by simp⟩⟩, fun i x hi => by simp at hi⟩
theorem Q1a.form {M : List Nat} {w : World} {G : Option Nat} {cs : List Value} {v : Value} {l : List α} (h : Q1a R size M w G cs v l) : ∃ A c, v = .slice A l.length c := by
 obtain ⟨_, _, _, ⟨_, hr⟩, _⟩ := h
 rcases hr with ⟨_, rfl, h0⟩ | ⟨g, cap, _, rfl, _⟩
 ·exact ⟨_, _, by rw [h0]⟩
 ·exact ⟨_, _, rfl⟩
theorem Q1a.rd (hL : a5a R size) {M M' : List Nat} {w0 w : World} {L : List Ent} {k el : Nat} {G : Option Nat} {cs : List Value} {v : Value} {l : List α} (h : Q1a R size M w G cs v l) (S : St M' w0 w L) (hk : L[k]? = some (G, el, cs)) (hM : ∀ g, G = some g → g ∉ M) (hl : l.length ≤ 1000000) : RdS M w size (R M w) v l := by
 obtain ⟨css, h1, h2, ⟨_, hr⟩, h4⟩ := h
 rcases hr with ⟨rfl, rfl, h0⟩ | ⟨g, cap, rfl, rfl, q1, q2, q3, q4⟩
 ·exact ⟨none, 0, 0, rfl, by omega, by omega, by unfold maxLen; omega, by omega, fun h => absurd h (by omega)⟩
 ·refine ⟨_, _, _, rfl, rfl, q1, q2, by omega, fun _ => ⟨g, 0, rfl, hM g rfl, fun i x hi => ?_⟩⟩
  obtain ⟨c, h5, h6⟩ := h4 i x hi
  refine ⟨c, h2 c (List.mem_of_getElem? h5), fun j u hj => ?_, hL.more (fun x hx => .inl (by simp [hx])) h6⟩
  have hf := T2c css i c h2 h5 j u hj
  have hlt : i * size + j < l.length * size := by
   have := (List.getElem?_eq_some_iff.1 hf).1
   rw [x3a css h2, h1] at this; exact this
  rw [← q4, List.getElem?_take, if_pos hlt] at hf
  have := S.cell k hk hf
  simpa using this
theorem Q1a.get {M M' : List Nat} {w0 w : World} {L : List Ent} {k el : Nat} {G : Option Nat} {cs : List Value} {v : Value} {l : List α} (h : Q1a R size M w G cs v l) (S : St M' w0 w L) (hk : L[k]? = some (G, el, cs)) {i : Nat} {x : α} (hi : l[i]? = some x) :
 ∃ g cap c, G = some g ∧ v = .slice (some ⟨g, 0, none⟩) l.length cap ∧ c.length = size ∧ k1a w g (0 + i * size) c ∧ R (G.toList ++ M) w c x := by
 obtain ⟨css, h1, h2, ⟨_, hr⟩, h4⟩ := h
 have hil := (List.getElem?_eq_some_iff.1 hi).1
 rcases hr with ⟨rfl, rfl, h0⟩ | ⟨g, cap, rfl, rfl, q1, q2, q3, q4⟩
 ·omega
 ·obtain ⟨c, h5, h6⟩ := h4 i x hi
  refine ⟨g, cap, c, rfl, rfl, h2 c (List.mem_of_getElem? h5), fun j u hj => ?_, h6⟩
  have hf := T2c css i c h2 h5 j u hj
  have hlt : i * size + j < l.length * size := by
   have := (List.getElem?_eq_some_iff.1 hf).1
   rw [x3a css h2, h1] at this; exact this
  rw [← q4, List.getElem?_take, if_pos hlt] at hf
  have := S.cell k hk hf
  simpa using this
variable {P : Program} {r : Option Nat} {N : Nat} {D : List Deferred} {e : Env} {w w0 : World} {ops : Array Oper} {rest : List Oper} {K : List Deferred → Env → World → Prop} {L : List Ent} {M : List Nat}
variable {d : Nat} {t : TypeId} {p : String} {af : Array Edge} {x y : Operand}
theorem t9a (hL : a5a R size) {M2 : List Nat} {ty el bytes k c b o m : Nat} {z v : Value} {G : Option Nat} {cs : List Value} {cs2 : List (List Value)} {l l2 : List α} (S : St M w0 w L) (hS : SlZ P ty el size z bytes) (hby : bytes ≤ 1000) (hk : L[k]? = some (G, el, cs)) (hR : Q1a R size M2 w G cs v l)
 (hx : ev e x = v) (hy : ev e y = .slice (some ⟨b, o, none⟩) m c) (hm : m = l2.length) (hl2 : cs2.length = l2.length) (hnews : k1a w b o cs2.flatten) (he : ∀ (i : Nat) (x : α), l2[i]? = some x → ∃ c, cs2[i]? = some c ∧ R (G.toList ++ M2) w c x) (hll : l.length + l2.length ≤ 1000000) (hd : Nat.ble (d + 1) N = true)
 (h : ∀ v' G' cs' w1, St M w0 w1 (L.set k (G', el, cs')) → Q1a R size M2 w1 G' cs' v' (l ++ l2) → w0a G.toList w w1 → (∀ g ∈ G'.toList, g ∈ G.toList ∨ w.heap.size ≤ g) → WL P r N ops rest K D (upd e d v') w1) :
 WL P r N ops (⟨some d, .call { callee := .builtin .append, args := #[x, y], argTypes := #[ty, ty] }, t, p, af, none⟩ :: rest) K D e w := by
 subst hm
 obtain ⟨css, c1, c2, c3, c4⟩ := hR
 have hat : ∀ x ∈ cs2, ∃ a, R (G.toList ++ M2) w x a := fun x hx => by
  obtain ⟨i, hi, rfl⟩ := List.getElem_of_mem hx
  obtain ⟨c, h5, h6⟩ := he i l2[i] (List.getElem?_eq_getElem (by omega))
  rw [List.getElem?_eq_getElem hi] at h5; cases h5
  exact ⟨_, h6⟩
 have hlen : ∀ x ∈ cs2, x.length = size := fun x hx => let ⟨_, ha⟩ := hat x hx; hL.len ha
 have hone : ∀ u ∈ cs2.flatten, u.oneCell' = true := fun u hu => by
  obtain ⟨x, hx, hu⟩ := List.mem_flatten.1 hu
  obtain ⟨_, ha⟩ := hat x hx
  exact hL.one ha u hu
 obtain ⟨i, hi, hz, hsz, hbb⟩ := hS.parts
 obtain ⟨hown, hG⟩ := c3.own S hk
 have hb2 : (l.length + l2.length) * bytes ≤ 140737488355328 := by
  have : (l.length + l2.length) * bytes ≤ 1000000 * 1000 := Nat.mul_le_mul (by omega) hby
  omega
 obtain ⟨v', w1, hrun, hown', hgrow, _, hblk⟩ := run_append_own_at (P := P) w 0 ty t el i z size bytes hS.und hi hz hsz hbb hS.zs hS.pos v l.length css.flatten hown ⟨b, o, none⟩ l2.length c cs2.flatten (by rw [x3a cs2 hlen, hl2])
  (fun j u hj => by rw [Addr.add_lit]; exact hnews j u hj) hone (by unfold maxLen; omega) hb2 (Nat.zero_le _)
 obtain ⟨G', cs', hR', hG', hnew⟩ := J7a hown'
 have hsame : ∀ q, q < w.heap.size → G ≠ some q → w1.heap[q]? = w.heap[q]? := fun q hq hne => hgrow.block q hq (fun hh => hne (by rw [← hG, ← hh]))
 have hbelow : v0a M w0 w1 := ⟨hgrow.os.trans S.below.os, hgrow.tape.trans S.below.tape, hgrow.output.trans S.below.output, Nat.le_trans S.size hgrow.size, fun q hq hm =>
  (hsame q (Nat.lt_of_lt_of_le hq S.size) (fun hh => by
    subst hh
    rcases S.new k hk with h' | h'
    ·omega
    ·exact hm h')).trans (S.below.block q hq hm)⟩
 have hkeep : w0a G.toList w w1 := ⟨hgrow.size, fun q hq hm => hsame q hq (fun hh => hm (by rw [hh]; simp))⟩
 have hfresh : ∀ g ∈ G'.toList, g ∈ G.toList ∨ w.heap.size ≤ g := by
  intro g hg
  have hg' : G' = some g := by cases G' with
   | none => simp at hg
   | some q => simp at hg; rw [hg]
  rcases hblk with hb | hb
  ·left; have hGg : G = some g := by rw [← hG, ← hb, hG']; exact hg'
   rw [hGg]; simp
  ·rw [hG', hg'] at hb; cases hb; exact .inr (Nat.le_refl _)
 refine c1a (v := v') (w' := w1) rfl rfl hd (by simp) ?_ (h v' G' cs' w1 (S.replace k hk hbelow hsame (fun g hg => ?_)) ?_ hkeep hfresh)
 ·simp [execOp, resolve, invoke, builtin, hx, hy, hrun]
 ·obtain ⟨_, h3⟩ := hnew g hg
  rcases hblk with hb | hb
  ·have hGg : G = some g := by rw [← hG, ← hb, hG']; exact hg
   subst hGg
   exact ⟨S.new k hk, h3, .inl rfl⟩
  ·have hg2 : G' = some g := hg
   rw [hG', hg2] at hb; cases hb
   exact ⟨.inl S.size, h3, .inr (Nat.le_refl _)⟩
 ·have hmv : ∀ (e2 : α) (c : List Value), R (G.toList ++ M2) w c e2 → R (G'.toList ++ M2) w1 c e2 := by
   intro e2 c hr
   have h5 : R (G.toList ++ (G'.toList ++ M2)) w c e2 := hL.more (fun g hg => by
    rcases List.mem_append.1 hg with hg | hg
    ·exact .inl (List.mem_append_left _ hg)
    ·rcases List.mem_append.1 hg with hg | hg
     ·rcases hfresh g hg with h | h
      ·exact .inl (List.mem_append_left _ h)
      ·exact .inr h
     ·exact .inl (List.mem_append_right _ hg)) hr
   exact hL.more (fun g hg => .inl (List.mem_append_right _ hg)) (hL.keep (hkeep.mono (fun g hg => List.mem_append_left _ hg)) h5)
  refine ⟨css ++ cs2, by simp [c1, hl2], fun x hx => ?_, ?_, fun i x hi => ?_⟩
  ·rcases List.mem_append.1 hx with hx | hx
   ·exact c2 x hx
   ·exact hlen x hx
  ·have e1 : (l ++ l2).length = l.length + l2.length := by simp
   rw [e1, List.flatten_append]; exact hR'
  ·by_cases hil : i < l.length
   ·rw [List.getElem?_append_left hil] at hi
    obtain ⟨c, h5, h6⟩ := c4 i x hi
    exact ⟨c, by rw [List.getElem?_append_left (by omega)]; exact h5, hmv _ _ h6⟩
   ·rw [List.getElem?_append_right (by omega)] at hi
    obtain ⟨c, h5, h6⟩ := he _ x hi
    exact ⟨c, by rw [List.getElem?_append_right (by omega), c1]; exact h5, hmv _ _ h6⟩
theorem C1a (hL : a5a R size) {M2 : List Nat} {ty el bytes k c b o : Nat} {z v : Value} {G : Option Nat} {cs news : List Value} {l : List α} {e1 : α} (S : St M w0 w L) (hS : SlZ P ty el size z bytes) (hby : bytes ≤ 1000) (hk : L[k]? = some (G, el, cs)) (hR : Q1a R size M2 w G cs v l)
 (hx : ev e x = v) (hy : ev e y = .slice (some ⟨b, o, none⟩) 1 c) (hnews : k1a w b o news) (he : R (G.toList ++ M2) w news e1) (hll : l.length + 1 ≤ 1000000) (hd : Nat.ble (d + 1) N = true)
 (h : ∀ v' G' cs' w1, St M w0 w1 (L.set k (G', el, cs')) → Q1a R size M2 w1 G' cs' v' (l ++ [e1]) → w0a G.toList w w1 → (∀ g ∈ G'.toList, g ∈ G.toList ∨ w.heap.size ≤ g) → WL P r N ops rest K D (upd e d v') w1) :
 WL P r N ops (⟨some d, .call { callee := .builtin .append, args := #[x, y], argTypes := #[ty, ty] }, t, p, af, none⟩ :: rest) K D e w :=
 t9a hL (cs2 := [news]) (l2 := [e1]) S hS hby hk hR hx hy rfl rfl (by simpa using hnews) (fun i x hi => by
  cases i with
  | zero => simp at hi; subst hi; exact ⟨news, rfl, he⟩
  | succ i => simp at hi) (by simpa using hll) hd h
end
theorem RdS.all {α : Type} {M : List Nat} {w : World} {size : Nat} {R : List Value → α → Prop} {A : Option Addr} {n c b o : Nat} {l : List α} (h : RdS M w size R (.slice A n c) l) (hA : A = some ⟨b, o, none⟩) (h0 : 0 < l.length) :
 ∃ css : List (List Value), css.length = l.length ∧ k1a w b o css.flatten ∧ ∀ (i : Nat) (x : α), l[i]? = some x → ∃ c, css[i]? = some c ∧ R c x := by
 obtain ⟨h1, _, _, _, h5⟩ := h.at
 obtain ⟨_, _, hA', _, hel⟩ := h5 (by omega)
 rw [hA] at hA'; cases hA'
 have key : ∀ (l2 : List α) (q : Nat), (∀ i x, l2[i]? = some x → ∃ cs, cs.length = size ∧ k1a w b (q + i * size) cs ∧ R cs x) → ∃ css : List (List Value), css.length = l2.length ∧ k1a w b q css.flatten ∧ ∀ (i : Nat) (x : α), l2[i]? = some x → ∃ c, css[i]? = some c ∧ R c x := by
  intro l2
  induction l2 with
  | nil => intro q _; exact ⟨[], rfl, fun j v hj => by simp at hj, fun i x hi => by simp at hi⟩
  | cons a l2 ih =>
    intro q hq
    obtain ⟨cs, _, k2, k3⟩ := hq 0 a rfl
    obtain ⟨css, m1, m2, m3⟩ := ih (q + size) (fun i x hi => by
     obtain ⟨cs, n1, n2, n3⟩ := hq (i + 1) x (by simpa using hi)
     exact ⟨cs, n1, by rw [show q + size + i * size = q + (i + 1) * size by rw [Nat.add_mul]; omega]; exact n2, n3⟩)
    refine ⟨cs :: css, by simp [m1], fun j v hj => ?_, fun i x hi => ?_⟩
    ·rw [List.flatten_cons] at hj
     by_cases hjl : j < cs.length
     ·rw [List.getElem?_append_left hjl] at hj
      have := k2 j v hj
      simpa using this
     ·rw [List.getElem?_append_right (by omega)] at hj
      have := m2 (j - cs.length) v hj
      rw [show q + size + (j - cs.length) = q + j by omega] at this
      exact this
    ·cases i with
     | zero => simp at hi; subst hi; exact ⟨cs, rfl, k3⟩
     | succ i =>
       obtain ⟨c, h1, h2⟩ := m3 i x (by simpa using hi)
       exact ⟨c, by simpa using h1, h2⟩
 exact key l o hel
section
variable {α : Type} {R : List Nat → World → List Value → α → Prop} {size : Nat}
variable {P : Program} {r : Option Nat} {N : Nat} {D : List Deferred} {e : Env} {w w0 : World} {ops : Array Oper} {rest : List Oper} {K : List Deferred → Env → World → Prop} {L : List Ent} {M : List Nat}
variable {d : Nat} {t : TypeId} {p : String} {af : Array Edge} {x y : Operand}
theorem V8a (hL : a5a R size) {M2 : List Nat} {ty el bytes k c b o : Nat} {z v : Value} {G : Option Nat} {cs news1 news2 : List Value} {l : List α} {e1 e2 : α} (S : St M w0 w L) (hS : SlZ P ty el size z bytes) (hby : bytes ≤ 1000) (hk : L[k]? = some (G, el, cs)) (hR : Q1a R size M2 w G cs v l)
 (hx : ev e x = v) (hy : ev e y = .slice (some ⟨b, o, none⟩) 2 c) (hnews : k1a w b o (news1 ++ news2)) (h1 : R (G.toList ++ M2) w news1 e1) (h2 : R (G.toList ++ M2) w news2 e2) (hll : l.length + 2 ≤ 1000000) (hd : Nat.ble (d + 1) N = true)
 (h : ∀ v' G' cs' w1, St M w0 w1 (L.set k (G', el, cs')) → Q1a R size M2 w1 G' cs' v' (l ++ [e1, e2]) → w0a G.toList w w1 → (∀ g ∈ G'.toList, g ∈ G.toList ∨ w.heap.size ≤ g) → WL P r N ops rest K D (upd e d v') w1) :
 WL P r N ops (⟨some d, .call { callee := .builtin .append, args := #[x, y], argTypes := #[ty, ty] }, t, p, af, none⟩ :: rest) K D e w :=
 t9a hL (cs2 := [news1, news2]) (l2 := [e1, e2]) S hS hby hk hR hx hy rfl rfl (by simpa using hnews) (fun i x hi => by
  match i, hi with
  | 0, hi => simp at hi; subst hi; exact ⟨news1, rfl, h1⟩
  | 1, hi => simp at hi; subst hi; exact ⟨news2, rfl, h2⟩
  | i + 2, hi => simp at hi) (by simpa using hll) hd h
end
def Q3c (M : List Nat) (w0 : World) (cs : List Value) (e : E) : Prop := RdE M w0 e cs
theorem H6a (M : List Nat) (w0 : World) : a5a (fun (_ : List Nat) (_ : World) => Q3c M w0) 4 where
 len h := RdE.length h
 one h u hu := by
  obtain ⟨_, _, _, rfl, -⟩ := RdE.open_ h
  simp at hu; rcases hu with rfl | rfl | rfl | rfl <;> rfl
 keep _ h := h
 more _ h := h
section
variable {P : Program} {r : Option Nat} {N : Nat} {D : List Deferred} {e : Env} {w w0 : World} {ops : Array Oper} {rest : List Oper} {K : List Deferred → Env → World → Prop} {L : List Ent} {M : List Nat}
variable {d : Nat} {t : TypeId} {p : String} {af : Array Edge} {f : FuncId} {args : Array Operand} {at_ : Array TypeId} {vs : List Value} {x : Operand}
theorem a1c {α : Type} {l : List α} {k : Nat} {x : α} (h : l[k]? = some x) : l.set k x = l := by
 obtain ⟨hlt, he⟩ := List.getElem?_eq_some_iff.1 h
 rw [← he]; exact List.set_getElem_self hlt
theorem e9b {α : Type} {R0 : List Value → α → Prop} {size : Nat} (hL : a5a (fun (_ : List Nat) (_ : World) => R0) size) {M2 M3 : List Nat} {ty el bytes k c m : Nat} {A2 : Option Addr} {y : Operand} {z v : Value} {G : Option Nat} {cs : List Value} {l l2 : List α} (S : St M w0 w L) (hS : SlZ P ty el size z bytes) (hby : bytes ≤ 1000) (hk : L[k]? = some (G, el, cs)) (hR : Q1a (fun _ _ => R0) size M2 w G cs v l)
 (hx : ev e x = v) (hy : ev e y = .slice A2 m c) (h2 : RdS M3 w size R0 (.slice A2 m c) l2) (hll : l.length + l2.length ≤ 1000000) (hd : Nat.ble (d + 1) N = true)
 (h : ∀ v' G' cs' w1, St M w0 w1 (L.set k (G', el, cs')) → Q1a (fun _ _ => R0) size M2 w1 G' cs' v' (l ++ l2) → w0a G.toList w w1 → (∀ g ∈ G'.toList, g ∈ G.toList ∨ w.heap.size ≤ g) → WL P r N ops rest K D (upd e d v') w1) :
 WL P r N ops (⟨some d, .call { callee := .builtin .append, args := #[x, y], argTypes := #[ty, ty] }, t, p, af, none⟩ :: rest) K D e w := by
 obtain ⟨hm, -, -⟩ := h2.len
 by_cases h0 : l2 = []
 ·subst h0
  obtain ⟨A, c', rfl⟩ := hR.form
  have hm0 : m = 0 := by simpa using hm
  subst hm0
  have hnc : l.length ≤ c' := by
   obtain ⟨css, _, _, q3, _⟩ := hR
   rcases q3.2 with ⟨-, q5, q6⟩ | ⟨g, cap, -, q5, q6, -⟩
   ·simp only [Value.slice.injEq] at q5; omega
   ·simp only [Value.slice.injEq] at q5; omega
  refine W2b hS hx hnc hy hd ?_
  have := h (.slice A l.length c') G cs w (by rw [a1c hk]; exact S) (by rw [List.append_nil]; exact hR) (w0a.refl _ _) (fun g hg => .inl hg)
  exact this
 ·have hpos : 0 < l2.length := List.length_pos_iff.2 h0
  obtain ⟨b, o, hA⟩ : ∃ b o, A2 = some ⟨b, o, none⟩ := by
   obtain ⟨_, _, _, _, h5⟩ := h2.at
   obtain ⟨b', o', hA', -⟩ := h5 (by omega)
   exact ⟨b', o', hA'⟩
  obtain ⟨css, c1, c2, c3⟩ := RdS.all h2 hA hpos
  subst hA
  exact t9a hL S hS hby hk hR hx hy hm c1 c2 c3 hll hd h
end
theorem F6b (p : f0a) (M : List Nat) (w0 : World) (cs : List Value) (hP : j1a M w0 p cs) :
 M0a Tryz.prog 22 #[.agg cs.toArray] w0 fun v w' => (∃ b, v = .bool b ∧ (b = true → True)) ∧ Below w0.heap.size w0 w' := by
 obtain ⟨Ac, nc, cc, Am, nm, cm, Al, nl, cl, At, nt, ct, rfl, _, hMo, hLk, hTh, _, _, _, _, _, _, _, _⟩ := hP.open_
 have S := (St.refl w0).nilEnt 53
 refine a0a Tryz.func22 rfl Tryz.ntmps22 rfl ?_
 refine wO0 rfl ⟨⟩ (j0a S (by conv => lhs; whnf) rfl ?_)
 intro g1 w1 S1 X1 G1
 refine lB S1.k [.o 0] rfl ⟨rfl,⟨⟩⟩ (fun h21 => ?_) fun h21 => ?_
 ·exact lT rfl ⟨⟩ rfl ⟨⟨_, rfl, fun _ => trivial⟩, S1.fin⟩
 refine lB S1.k [.o 0] rfl ⟨rfl,⟨⟩⟩ (fun h26 => ?_) fun h26 => ?_
 ·exact lT rfl ⟨⟩ rfl ⟨⟨_, rfl, fun _ => trivial⟩, S1.fin⟩
 refine lB S1.k [.o 0] rfl ⟨rfl,⟨⟩⟩ (fun h32 => ?_) fun h32 => ?_
 ·exact lT rfl ⟨⟩ rfl ⟨⟨_, rfl, fun _ => trivial⟩, S1.fin⟩
 refine lB S1.k [.o 0] rfl ⟨rfl,⟨⟩⟩ (fun h38 => ?_) fun h38 => ?_
 ·exact lT rfl ⟨⟩ rfl ⟨⟨_, rfl, fun _ => trivial⟩, S1.fin⟩
 refine lC S1.k [.o 0] rfl ⟨rfl,⟨⟩⟩ (wL (fun μk D ε w => D = [] ∧ ∃ k : Nat, ∃ G : Option Nat, ∃ cs' : List Value, ∃ v : Value, ∃ l : List E, (k + μk = (p.modules.length)) ∧ (l.length ≤ 2 * k) ∧ (Q1a (fun _ _ => Q3c M w0) 4 [] w0 G cs' v l) ∧ St [] w0 w [(some g1, 27, [.slice Ac nc cc, .slice Am nm cm, .slice Al nl cl, .slice At nt ct]), (G, 53, cs')] ∧ Sl ε [(1, .pointer (some ⟨g1, 0, none⟩)), (3, v), (41, .slice Am nm cm), (42, .int .i64 nm), (43, .int .i64 k)]) (μ := (p.modules.length)) ⟨rfl, 0, none, [], .slice none 0 0, [], by omega, by simp, Q1a.nil, S1, rfl⟩ ?_)
 rintro μk D ε w ⟨rfl, k, G, cs', v, l, hk, hl, hrow, S, eZ⟩
 refine wK eZ (wB0 rfl ⟨⟩ (fun h44 => ?_) fun h44 => ?_)
 ·obtain ⟨mo, b45, p45, _, _, hA45, _, hl45, hc45, hr45⟩ := RdS.get (hMo) (k) (by omega)
  obtain ⟨_, _, _, _, _, _, _, _, _, rfl, hR45, hG45, _, _, _⟩ := v1a.open_ hr45
  refine lO (S.k.a hc45) [.x b45 p45,.v 0] rfl ⟨⟨rfl,hl45⟩,⟨hA45,by omega⟩,⟨⟩⟩ (n0a S r8b rfl rfl ?_)
  intro g5 w5 S5 X5 G5
  refine e0a (kk := 0) (vs := [_, _, _, _, _, _, _, _, _, _, _]) S5 b9b rfl rfl rfl rfl rfl rfl rfl ?_
  intro w6_3 S6_3 X6_3
  dsimp only [k0a, List.set] at S6_3
  refine lOn 3 S6_3.k [] rfl ⟨⟩ (m1a (by conv => lhs; whnf) rfl ?_)
  refine lO S6_3.k [.o 0,.o 0] rfl ⟨rfl,rfl,⟨⟩⟩ (E0a S6_3 a1a (vs := [.agg _, .agg _]) (cs := [_, _, _, _, _, _, _, _]) (by rfl) rfl rfl rfl rfl rfl rfl ?_)
  intro g52 w52 S52 X52 G52
  refine V8a (H6a M w0) (k := 3) (M2 := []) (e1 := mo.rely) (e2 := mo.guar) S52 a1a (by decide) rfl hrow rfl rfl (S52.cells 0 rfl) hR45 hG45 (by omega) rfl ?_
  intro v53 G53 cs53 w53 S53 hrow53 X53 F53
  refine T0a (by conv => lhs; whnf) rfl ?_
  refine lP0 rfl ⟨by omega,⟨⟩⟩ ?_
  refine ⟨μk - 1, by omega, rfl, (k + 1), (_), (_), (_), (l ++ [mo.rely, mo.guar]), (by omega), (by simp; omega), (hrow53), S53.tail.tail, rfl⟩
 refine lC S.k [.o 0] rfl ⟨rfl,⟨⟩⟩ (wL (fun μk D ε w => D = [] ∧ ∃ k : Nat, ∃ G : Option Nat, ∃ cs' : List Value, ∃ v : Value, ∃ l : List E, (k + μk = (p.locks.length)) ∧ (l.length ≤ 8 + k) ∧ (Q1a (fun _ _ => Q3c M w0) 4 [] w0 G cs' v l) ∧ St [] w0 w [(some g1, 27, [.slice Ac nc cc, .slice Am nm cm, .slice Al nl cl, .slice At nt ct]), (G, 53, cs')] ∧ Sl ε [(1, .pointer (some ⟨g1, 0, none⟩)), (3, v), (56, .slice Al nl cl), (57, .int .i64 nl), (58, .int .i64 k)]) (μ := (p.locks.length)) ⟨rfl, 0, G, cs', v, l, by omega, by omega, hrow, S, rfl⟩ ?_)
 rintro μk D ε w ⟨rfl, k, G, cs', v, l, hk, hl, hrow, S, eZ⟩
 refine wK eZ (wB0 rfl ⟨⟩ (fun h59 => ?_) fun h59 => ?_)
 ·obtain ⟨lk, b60, p60, _, _, hA60, _, hl60, hc60, hr60⟩ := RdS.get (hLk) (k) (by omega)
  obtain ⟨_, _, _, rfl, _, _, hE60⟩ := G4a.open_ hr60
  refine lO (S.k.a hc60) [.x b60 p60,.v 0] rfl ⟨⟨rfl,hl60⟩,⟨hA60,by omega⟩,⟨⟩⟩ (n0a S h8b rfl rfl ?_)
  intro g7 w7 S7 X7 G7
  refine e0a (kk := 0) (vs := [_, _, _, _, _, _]) S7 V7b rfl rfl rfl rfl rfl rfl rfl ?_
  intro w11_3 S11_3 X11_3
  dsimp only [k0a, List.set] at S11_3
  refine lOn 3 S11_3.k [] rfl ⟨⟩ (m1a (by conv => lhs; whnf) rfl ?_)
  refine lO S11_3.k [.o 0] rfl ⟨rfl,⟨⟩⟩ (E0a S11_3 a1a (vs := [.agg _]) (cs := [_, _, _, _]) (by rfl) rfl rfl rfl rfl rfl rfl ?_)
  intro g65 w65 S65 X65 G65
  refine C1a (H6a M w0) (k := 3) (M2 := []) (e1 := lk.inv) S65 a1a (by decide) rfl hrow rfl rfl (S65.cells 0 rfl) hE60 (by omega) rfl ?_
  intro v66 G66 cs66 w66 S66 hrow66 X66 F66
  refine T0a (by conv => lhs; whnf) rfl ?_
  refine lP0 rfl ⟨by omega,⟨⟩⟩ ?_
  refine ⟨μk - 1, by omega, rfl, (k + 1), (_), (_), (_), (l ++ [lk.inv]), (by omega), (by simp; omega), (hrow66), S66.tail.tail, rfl⟩
 refine lC S.k [.o 0] rfl ⟨rfl,⟨⟩⟩ (wL (fun μk D ε w => D = [] ∧ ∃ k : Nat, ∃ G : Option Nat, ∃ cs' : List Value, ∃ v : Value, ∃ l : List E, (k + μk = (p.threads.length)) ∧ (l.length ≤ 11 + 100 * k) ∧ (Q1a (fun _ _ => Q3c M w0) 4 [] w0 G cs' v l) ∧ St [] w0 w [(some g1, 27, [.slice Ac nc cc, .slice Am nm cm, .slice Al nl cl, .slice At nt ct]), (G, 53, cs')] ∧ Sl ε [(3, v), (69, .slice At nt ct), (70, .int .i64 nt), (71, .int .i64 k)]) (μ := (p.threads.length)) ⟨rfl, 0, G, cs', v, l, by omega, by omega, hrow, S, rfl⟩ ?_)
 rintro μk D ε w ⟨rfl, k, G, cs', v, l, hk, hl, hrow, S, eZ⟩
 refine wK eZ (wB0 rfl ⟨⟩ (fun h72 => ?_) fun h72 => ?_)
 ·obtain ⟨th, b73, p73, _, _, hA73, _, hl73, hc73, hr73⟩ := RdS.get (hTh) (k) (by omega)
  obtain ⟨Aa73, na73, ca73, Am73, nm73, cm73, As73, ns73, cs73, Al73, nl73, cl73, rfl, _, hEs73, _, hSt73, hLo73, _, _, _, _, _, _, _, _⟩ := N0a.open_ hr73
  refine lO (S.k.a hc73) [.x b73 p73,.v 0] rfl ⟨⟨rfl,hl73⟩,⟨hA73,by omega⟩,⟨⟩⟩ (n0a S b3b rfl rfl ?_)
  intro g9 w9 S9 X9 G9
  refine e0a (kk := 0) (vs := [_, _, _, _, _, _, _]) S9 H2b rfl rfl rfl rfl rfl rfl rfl ?_
  intro w16_3 S16_3 X16_3
  dsimp only [k0a, List.set] at S16_3
  refine lB S16_3.k [.o 0] rfl ⟨rfl,⟨⟩⟩ (fun h78 => ?_) fun h78 => ?_
  ·exact lT rfl ⟨⟩ rfl ⟨⟨_, rfl, fun _ => trivial⟩, S16_3.fin⟩
  refine lB S16_3.k [.o 0] rfl ⟨rfl,⟨⟩⟩ (fun h83 => ?_) fun h83 => ?_
  ·exact lT rfl ⟨⟩ rfl ⟨⟨_, rfl, fun _ => trivial⟩, S16_3.fin⟩
  refine lB S16_3.k [.o 0] rfl ⟨rfl,⟨⟩⟩ (fun h89 => ?_) fun h89 => ?_
  ·exact lT rfl ⟨⟩ rfl ⟨⟨_, rfl, fun _ => trivial⟩, S16_3.fin⟩
  refine lOn 8 S16_3.k [] rfl ⟨⟩ (m1a (by conv => lhs; whnf) rfl ?_)
  refine lO S16_3.k [.o 0] rfl ⟨rfl,⟨⟩⟩ (e9b (H6a M w0) (k := 2) (M2 := []) S16_3 a1a (by decide) rfl hrow rfl rfl (RdS.keepW hEs73 (S16_3.keep0 M) (fun _ _ h => h)) (by omega) rfl ?_)
  intro v94 G94 cs94 w94 S94 hrow94 X94 F94
  refine T0a (by conv => lhs; whnf) rfl ?_
  refine lC S94.k [.o 0] rfl ⟨rfl,⟨⟩⟩ ?_
  refine wL (fun μj D ε w => D = [] ∧ ∃ j : Nat, ∃ G4 : Option Nat, ∃ cs4 : List Value, ∃ v4 : Value, ∃ l4 : List E, (j + μj = (th.steps.length)) ∧ (l4.length ≤ 23 + 100 * k + 7 * j) ∧ (Q1a (fun _ _ => Q3c M w0) 4 [] w0 G4 cs4 v4 l4) ∧ St [] w0 w [(some g9, 86, [.string th.name, .int .i64 th.points, .slice Aa73 na73 ca73, .slice Am73 nm73 cm73, .slice As73 ns73 cs73, .slice Al73 nl73 cl73, .bool th.asleep]), (some g1, 27, [.slice Ac nc cc, .slice Am nm cm, .slice Al nl cl, .slice At nt ct]), (G4, 53, cs4)] ∧ Sl ε [(3, v4), (9, .pointer (some ⟨g9, 0, none⟩)), (69, .slice At nt ct), (70, .int .i64 nt), (71, .int .i64 k), (96, .slice As73 ns73 cs73), (97, .int .i64 ns73), (98, .int .i64 j)]) (μ := (th.steps.length)) ⟨rfl, 0, G94, cs94, v94, l ++ th.asserts, by omega, by simp; omega, hrow94, S94, rfl⟩ ?_
  rintro μj D ε w ⟨rfl, j, G4, cs4, v4, l4, hj, _, hrow4, S, eZ⟩
  refine wK eZ (wB0 rfl ⟨⟩ (fun h99 => ?_) fun h99 => ?_)
  ·obtain ⟨s, b100, p100, _, _, hA100, _, hl100, hc100, hr100⟩ := RdS.get (hSt73) (j) (by omega)
   obtain ⟨Ag100, ng100, cg100, As100, ns100, cs100, rfl, ⟨_, _, _, _, _⟩, hG100, hSet100, _, _⟩ := m2a.open_ hr100
   refine lO (S.k.a hc100) [.x b100 p100,.v 0] rfl ⟨⟨rfl,hl100⟩,⟨hA100,by omega⟩,⟨⟩⟩ (n0a S T6b rfl rfl ?_)
   intro g11 w11 S11 X11 G11
   refine e0a (kk := 0) (vs := [_, _, _, _, _, _, _, _, _, _, _]) S11 y6b rfl rfl rfl rfl rfl rfl rfl ?_
   intro w22_3 S22_3 X22_3
   dsimp only [k0a, List.set] at S22_3
   refine lB S22_3.k [.o 0] rfl ⟨rfl,⟨⟩⟩ (fun h105 => ?_) fun h105 => ?_
   ·exact lT rfl ⟨⟩ rfl ⟨⟨_, rfl, fun _ => trivial⟩, S22_3.fin⟩
   refine lOn 7 S22_3.k [] rfl ⟨⟩ (m1a (by conv => lhs; whnf) rfl ?_)
   refine lO S22_3.k [.o 0] rfl ⟨rfl,⟨⟩⟩ (E0a S22_3 a1a (vs := [.agg _]) (cs := [_, _, _, _]) (by rfl) rfl rfl rfl rfl rfl rfl ?_)
   intro g109 w109 S109 X109 G109
   refine C1a (H6a M w0) (k := 4) (M2 := []) (e1 := s.guard) S109 a1a (by decide) rfl hrow4 rfl rfl (S109.cells 0 rfl) hG100 (by omega) rfl ?_
   intro v110 G110 cs110 w110 S110 hrow110 X110 F110
   refine T0a (by conv => lhs; whnf) rfl ?_
   refine lC S110.k [.o 1] rfl ⟨rfl,⟨⟩⟩ ?_
   refine wL (fun μi D ε w => D = [] ∧ ∃ i : Nat, ∃ G5 : Option Nat, ∃ cs5 : List Value, ∃ v5 : Value, ∃ l5 : List E, (i + μi = (s.set.length)) ∧ (l5.length ≤ 23 + 100 * k + 7 * j + 1 + i) ∧ (Q1a (fun _ _ => Q3c M w0) 4 [] w0 G5 cs5 v5 l5) ∧ St [] w0 w [(some g109, 53, [.int .i64 s.guard.op, .int .i64 s.guard.w, .int .i64 s.guard.n, .slice Ag100 ng100 cg100]), (some g11, 90, [.int .i64 s.kind, .int .i64 s.frm, .int .i64 s.to, .int .i64 s.guard.op, .int .i64 s.guard.w, .int .i64 s.guard.n, .slice Ag100 ng100 cg100, .slice As100 ns100 cs100, .bool s.release, .int .i64 s.target, .int .i64 s.module_]), (some g9, 86, [.string th.name, .int .i64 th.points, .slice Aa73 na73 ca73, .slice Am73 nm73 cm73, .slice As73 ns73 cs73, .slice Al73 nl73 cl73, .bool th.asleep]), (some g1, 27, [.slice Ac nc cc, .slice Am nm cm, .slice Al nl cl, .slice At nt ct]), (G5, 53, cs5)] ∧ Sl ε [(3, v5), (9, .pointer (some ⟨g9, 0, none⟩)), (69, .slice At nt ct), (70, .int .i64 nt), (71, .int .i64 k), (96, .slice As73 ns73 cs73), (97, .int .i64 ns73), (98, .int .i64 j), (112, .slice As100 ns100 cs100), (113, .int .i64 ns100), (114, .int .i64 i)]) (μ := (s.set.length)) ⟨rfl, 0, G110, cs110, v110, l4 ++ [s.guard], by omega, by simp; omega, hrow110, S110, rfl⟩ ?_
   rintro μi D ε w ⟨rfl, i, G5, cs5, v5, l5, _, _, hrow5, S, eZ⟩
   refine wK eZ (wB0 rfl ⟨⟩ (fun h115 => ?_) fun h115 => ?_)
   ·obtain ⟨a, b116, p116, _, _, hA116, _, hl116, hc116, hr116⟩ := RdS.get (hSet100) (i) (by omega)
    obtain ⟨_, _, _, rfl, _, hE116⟩ := R0a.open_ hr116
    refine lO (S.k.a hc116) [.x b116 p116,.v 0] rfl ⟨⟨rfl,hl116⟩,⟨hA116,by omega⟩,⟨⟩⟩ (n0a S t2b rfl rfl ?_)
    intro g13 w13 S13 X13 G13
    refine e0a (kk := 0) (vs := [_, _, _, _, _]) S13 v3b rfl rfl rfl rfl rfl rfl rfl ?_
    intro w28_3 S28_3 X28_3
    dsimp only [k0a, List.set] at S28_3
    refine lOn 3 S28_3.k [] rfl ⟨⟩ (m1a (by conv => lhs; whnf) rfl ?_)
    refine lO S28_3.k [.o 0] rfl ⟨rfl,⟨⟩⟩ (E0a S28_3 a1a (vs := [.agg _]) (cs := [_, _, _, _]) (by rfl) rfl rfl rfl rfl rfl rfl ?_)
    intro g121 w121 S121 X121 G121
    refine C1a (H6a M w0) (k := 6) (M2 := []) (e1 := a.to) S121 a1a (by decide) rfl hrow5 rfl rfl (S121.cells 0 rfl) hE116 (by omega) rfl ?_
    intro v122 G122 cs122 w122 S122 hrow122 X122 F122
    refine T0a (by conv => lhs; whnf) rfl ?_
    refine lP0 rfl ⟨by omega,⟨⟩⟩ ?_
    refine ⟨μi - 1, by omega, rfl, (i + 1), (_), (_), (_), (l5 ++ [a.to]), (by omega), (by simp; omega), (hrow122), S122.tail.tail, rfl⟩
   refine lP0 rfl ⟨by omega,⟨⟩⟩ ⟨μj - 1, by omega, rfl, (j + 1), (_), (_), (_), (l5), (by omega), (by omega), (hrow5), S.tail.tail, rfl⟩
  refine lC S.k [.o 0] rfl ⟨rfl,⟨⟩⟩ (wL (fun μj D ε w => D = [] ∧ ∃ j : Nat, ∃ G6 : Option Nat, ∃ cs6 : List Value, ∃ v6 : Value, ∃ l6 : List E, (j + μj = (th.loops.length)) ∧ (l6.length ≤ 93 + 100 * k + j) ∧ (Q1a (fun _ _ => Q3c M w0) 4 [] w0 G6 cs6 v6 l6) ∧ St [] w0 w [(some g9, 86, [.string th.name, .int .i64 th.points, .slice Aa73 na73 ca73, .slice Am73 nm73 cm73, .slice As73 ns73 cs73, .slice Al73 nl73 cl73, .bool th.asleep]), (some g1, 27, [.slice Ac nc cc, .slice Am nm cm, .slice Al nl cl, .slice At nt ct]), (G6, 53, cs6)] ∧ Sl ε [(3, v6), (69, .slice At nt ct), (70, .int .i64 nt), (71, .int .i64 k), (126, .slice Al73 nl73 cl73), (127, .int .i64 nl73), (128, .int .i64 j)]) (μ := (th.loops.length)) ⟨rfl, 0, G4, cs4, v4, l4, by omega, by omega, hrow4, S, rfl⟩ ?_)
  rintro μj D ε w ⟨rfl, j, G6, cs6, v6, l6, hj, _, hrow6, S, eZ⟩
  refine wK eZ (wB0 rfl ⟨⟩ (fun h129 => ?_) fun h129 => ?_)
  ·obtain ⟨lo, b130, p130, _, _, hA130, _, hl130, hc130, hr130⟩ := RdS.get (hLo73) (j) (by omega)
   obtain ⟨_, _, _, _, _, _, rfl, _, _, hE130, _, _⟩ := n5a.open_ hr130
   refine lO (S.k.a hc130) [.x b130 p130,.v 0] rfl ⟨⟨rfl,hl130⟩,⟨hA130,by omega⟩,⟨⟩⟩ (n0a S Y9b rfl rfl ?_)
   intro g15 w15 S15 X15 G15
   refine e0a (kk := 0) (vs := [_, _, _, _, _, _]) S15 r0c rfl rfl rfl rfl rfl rfl rfl ?_
   intro w34_3 S34_3 X34_3
   dsimp only [k0a, List.set] at S34_3
   refine lOn 3 S34_3.k [] rfl ⟨⟩ (m1a (by conv => lhs; whnf) rfl ?_)
   refine lO S34_3.k [.o 0] rfl ⟨rfl,⟨⟩⟩ (E0a S34_3 a1a (vs := [.agg _]) (cs := [_, _, _, _]) (by rfl) rfl rfl rfl rfl rfl rfl ?_)
   intro g135 w135 S135 X135 G135
   refine C1a (H6a M w0) (k := 4) (M2 := []) (e1 := lo.variant) S135 a1a (by decide) rfl hrow6 rfl rfl (S135.cells 0 rfl) hE130 (by omega) rfl ?_
   intro v136 G136 cs136 w136 S136 hrow136 X136 F136
   refine T0a (by conv => lhs; whnf) rfl ?_
   refine lP0 rfl ⟨by omega,⟨⟩⟩ ?_
   refine ⟨μj - 1, by omega, rfl, (j + 1), (_), (_), (_), (l6 ++ [lo.variant]), (by omega), (by simp; omega), (hrow136), S136.tail.tail, rfl⟩
  refine lP0 rfl ⟨by omega,⟨⟩⟩ ⟨μk - 1, by omega, rfl, (k + 1), (_), (_), (_), (l6), (by omega), (by omega), (hrow6), S.tail, rfl⟩
 refine lOn 9 S.k [] rfl ⟨⟩ ?_
 obtain ⟨A, c, rfl⟩ := hrow.form
 refine m1a (v := .slice _ _ _) rfl rfl ?_
 refine lC0 rfl ⟨⟩ (wL (fun μk D ε w => D = [] ∧ ∃ k : Nat, (k + μk = (l.length)) ∧ St [] w0 w [(some g1, 27, [.slice Ac nc cc, .slice Am nm cm, .slice Al nl cl, .slice At nt ct]), (G, 53, cs')] ∧ Sl ε [(139, .slice A l.length c), (140, .int .i64 l.length), (141, .int .i64 k)]) (μ := (l.length)) ⟨rfl, 0, by omega, S, rfl⟩ ?_)
 rintro μk D ε w ⟨rfl, k, hk, S, eZ⟩
 refine wK eZ (wB0 rfl ⟨⟩ (fun h142 => ?_) fun h142 => ?_)
 ·obtain ⟨x, b143, p143, _, _, hA143, _, hl143, hc143, hr143⟩ := RdS.get ((Q1a.rd (H6a M w0) (M := []) (w := w) hrow S (k := 1) rfl (fun g hg => by simp) (by omega))) (k) (by omega)
  obtain ⟨_, _, _, rfl, _, _, _, _, _⟩ := RdE.cells hr143
  refine lO (S.k.b hc143) [.x b143 p143,.v 0] rfl ⟨⟨rfl,hl143⟩,⟨hA143,by omega⟩,⟨⟩⟩ (n0a S m7a rfl rfl ?_)
  intro g17 w17 S17 X17 G17
  refine e0a (kk := 0) (vs := [_, _, _, _]) S17 V5a rfl rfl rfl rfl rfl rfl rfl ?_
  intro w40_3 S40_3 X40_3
  dsimp only [k0a, List.set] at S40_3
  refine lO S40_3.k [.w 0] rfl ⟨⟨rfl,by rfl⟩,⟨⟩⟩ (y0a S40_3 s8c rfl rfl (R1c x M _ _ _ (RdE.keep (S40_3.keep0 M) _ _ hr143) (by omega) (by omega)) (fun h146 w146 S146 X146 => ?_) (fun h146 w146 S146 X146 => ?_))
  ·refine lP0 rfl ⟨by omega,⟨⟩⟩ ⟨μk - 1, by omega, rfl, (k + 1), (by omega), S146.tail, rfl⟩
  exact lT rfl ⟨⟩ rfl ⟨⟨_, rfl, fun _ => trivial⟩, S146.fin⟩
 exact lT rfl ⟨⟩ rfl ⟨⟨_, rfl, fun _ => trivial⟩, S.fin⟩
theorem A7b (p : f0a) (M : List Nat) (w0 : World) (cs : List Value) (hP : j1a M w0 p cs) (hM : ∀ g ∈ M, g < w0.heap.size) (hN : X2b p) :
 M0a Tryz.prog 7 #[.agg cs.toArray] w0 fun v w' => (∃ b, v = .bool b ∧ (b = true → b1a p)) ∧ Below w0.heap.size w0 w' := by
 obtain ⟨_, _, _, _, _, _, _, _, _, _, _, _, rfl, -⟩ := hP.open_
 have S := St.refl w0
 refine a0a Tryz.func7 rfl Tryz.ntmps7 rfl ?_
 refine wO0 rfl ⟨⟩ (j0a S (by conv => lhs; whnf) rfl ?_)
 intro g1 w1 S1 X1 G1
 refine lO S1.k [.w 0] rfl ⟨⟨rfl,by rfl⟩,⟨⟩⟩ (P7b S1 W7c rfl rfl (F6b p M _ _ (hP.keep (S1.keep0 M))) (fun h7 w7 S7 X7 => ?_) (fun w7 S7 X7 => ?_))
 ·refine lO S7.k [.w 0] rfl ⟨⟨rfl,by rfl⟩,⟨⟩⟩ (B0a S7 M7c rfl rfl (K6b p M _ _ (hP.keep (S7.keep0 M)) (fun g hg => Nat.lt_of_lt_of_le (hM g hg) S7.size) hN) ?_)
  rintro v11 w11 ⟨_, _, _, rfl, hv⟩ S11 X11
  refine lB0 rfl ⟨⟩ (fun h16 => ?_) fun h16 => ?_
  ·exact lT rfl ⟨⟩ rfl ⟨⟨_, rfl, fun _ => hv h16⟩, S11.fin⟩
  exact lT rfl ⟨⟩ rfl ⟨⟨_, rfl, fun h => by cases h⟩, S11.fin⟩
 exact lT rfl ⟨⟩ rfl ⟨⟨_, rfl, fun h => by cases h⟩, S7.fin⟩
end Go.Fw
