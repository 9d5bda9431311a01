/-
  Part 4 of 8 of the proof of ExploreModels: what it leans on. No conditions.
-/
import Derived.Test.YtepiknjglmmciaaGreatDoorZExploreModels3
import Derived.Laws.CopyRow
import Derived.Laws.IdiomCopy
import Derived.Laws.StructEq
import Derived.Lib.SliceRun
import Derived.Laws.OwnMore
import Derived.Laws.BytesString
set_option maxRecDepth 100000
set_option maxHeartbeats 4000000
namespace Go.Proofs.YtepiknjglmmciaaGreatDoor
end Go.Proofs.YtepiknjglmmciaaGreatDoor
namespace Go.Fw
open Go.Proofs.YtepiknjglmmciaaGreatDoor Go.Proofs Go.RowKit
section
variable {α : Type}
def U2a (l : List α) (z : α) (k : Nat) : List α := l.take k ++ List.replicate (l.length - k) z
theorem t6a (l : List α) (z : α) : U2a l z 0 = List.replicate l.length z := by simp [U2a]
theorem m8a (l : List α) (z : α) {k : Nat} (h : l.length ≤ k) : U2a l z k = l := by
 unfold U2a; rw [List.take_of_length_le h, Nat.sub_eq_zero_of_le h]; simp
@[simp] theorem A2c (l : List α) (z : α) (k : Nat) : (U2a l z k).length = l.length := by
 unfold U2a; simp; omega
theorem y7a {l : List α} {z v : α} {k i : Nat} (h : l[k]? = some v) (hi : i = k) : (U2a l z k).set i v = U2a l z (k + 1) := by
 subst hi;obtain ⟨a0, rfl⟩ := List.getElem?_eq_some_iff.1 h;unfold U2a;rw [List.set_append_right _ _ (by simp; omega)];have h1 : l.length - i = (l.length - (i + 1)) + 1 := by omega
 rw [h1, List.replicate_succ];simp only [List.length_take, Nat.min_eq_left (Nat.le_of_lt a0), Nat.sub_self, List.set_cons_zero];rw [J0a h, List.append_assoc];rfl
theorem d4b {l : List α} {z : α} {k : Nat} (h : l[k]? = some z) : U2a l z k = U2a l z (k + 1) := by
 obtain ⟨_, _⟩ := List.getElem?_eq_some_iff.1 h;unfold U2a;have h1 : l.length - k = (l.length - (k + 1)) + 1 := by omega
 rw [h1, List.replicate_succ, J0a h];simp
end
theorem St.setEnt {M : List Nat} {w0 w : World} {L : List Ent} (S : St M w0 w L) (j : Nat) {G : Option Nat} {t : TypeId} {cs a0 : List Value} (hj : L[j]? = some (G, t, cs)) (h : cs = a0) : St M w0 w (L.set j (G, t, a0)) := by
 subst h;have : L.set j (G, t, cs) = L := by
  obtain ⟨_, he⟩ := List.getElem?_eq_some_iff.1 hj;rw [← he]; simp
 rw [this]; exact S
theorem St.rdInts {M M' : List Nat} {w0 w : World} {L : List Ent} (S : St M' w0 w L) (j : Nat) {g t n : Nat} {l : List Int} (hj : L[j]? = some (some g, t, l.map (Value.int .i64))) (hg : g ∉ M) (hn : n = l.length) (a0 : n ≤ 140737488355328) (hl : ∀ x ∈ l, i64 x) : RdI M w (.slice (some ⟨g, 0, none⟩) n n) l :=
 S.rd1 hj hg hn a0 fun i x hi => ⟨.int .i64 x, by simp [hi], rfl, hl x (List.mem_of_getElem? hi)⟩
theorem z4a {α : Type} {M : List Nat} {w : World} {size : Nat} {R : List Value → α → Prop} : RdS M w size R (.slice none 0 0) [] := ⟨none, 0, 0, rfl, rfl, Nat.le_refl _, by unfold maxLen; omega, by omega, fun h => absurd h (by omega)⟩
theorem St.rdBufs {M M' : List Nat} {w0 w : World} {L : List Ent} (S : St M' w0 w L) (j : Nat) {g t n : Nat} {l : List (List G0a)} (hj : L[j]? = some (some g, t, List.replicate n (.slice none 0 0))) (hg : g ∉ M) (hn : n = l.length) (a0 : n ≤ 140737488355328) (hl : ∀ b ∈ l, b = []) : N8c M w (.slice (some ⟨g, 0, none⟩) n n) l :=
 S.rd1 hj hg hn a0 fun i x hi => by
  obtain rfl := hl x (List.mem_of_getElem? hi);have := (List.getElem?_eq_some_iff.1 hi).1;exact ⟨.slice none 0 0, by rw [List.getElem?_replicate, if_pos (by omega)], _, rfl, z4a⟩
@[simp] theorem H0c (p : f0a) : (X0a p).mem.length = p.cells.length := by simp [X0a]
@[simp] theorem d1c (p : f0a) : (X0a p).at_.length = p.threads.length := by simp [X0a]
theorem d5a {p : f0a} (hp : a1a p) {m : List Int} (h : n5a p m) : ∀ x ∈ m, i64 x := fun x hx => by
 obtain ⟨i, hi, rfl⟩ := List.getElem_of_mem hx;have := h.vals i _ (List.getElem?_eq_getElem hi);have := B5b hp i;unfold i64; omega
theorem v8a {p : f0a} (hp : a1a p) {c : r0a} (h : F3a p c) : ∀ x ∈ c.at_, i64 x := fun x hx => by
 have := (h6a hp h).2.1 x hx;unfold i64; omega
theorem S1a.of {t s c : Int} (h1 : i64 t) (h2 : i64 s) (h3 : i64 c) : S1a [.int .i64 t, .int .i64 s, .int .i64 c] ⟨t, s, c⟩ := ⟨rfl, h1, h2, h3⟩
theorem T1a : W4a (fun (_ : List Nat) (_ : World) => S1a) 3 where
 len h := by rw [h.1]; rfl
 one h u hu := by rw [h.1] at hu; simp at hu; rcases hu with rfl | rfl | rfl <;> rfl
 keep _ h := h
 more _ h := h
theorem M1b : W4a (fun (_ : List Nat) (_ : World) => O9c) 1 where
 len h := by rw [h.1]; rfl
 one h u hu := by rw [h.1] at hu; simp at hu; subst hu; rfl
 keep _ h := h
 more _ h := h
theorem k2a : W4a V0a 2 where
 len h := by obtain ⟨_, _, rfl, _⟩ := h; rfl
 one h u hu := by
  obtain ⟨_, _, _, _, _, _, rfl, _⟩ := h.open_;simp at hu; rcases hu with rfl | rfl <;> rfl
 keep hk h := V0a.keep hk _ _ h
 more hm h := V0a.more hm _ _ h
def g3a (M : List Nat) (w : World) (cs : List Value) (c : r0a) : Prop := t0a M w c cs
theorem H8a : W4a g3a 3 where
 len h := by obtain ⟨_, _, _, rfl, _⟩ := h; rfl
 one h u hu := by
  obtain ⟨_, _, _, _, _, _, _, _, _, rfl, _⟩ := t0a.open_ h;simp at hu; rcases hu with rfl | rfl | rfl <;> rfl
 keep hk h := t0a.keep hk h
 more hm h := t0a.more hm h
theorem getD_some {α : Type} {l : List α} {i : Nat} {x d : α} (h : l[i]? = some x) : l.getD i d = x := by rw [List.getD_eq_getElem?_getD, h]; rfl
def T3a (c : r0a) : Prop := ∀ b ∈ c.buf, b = []
theorem T3a.getD {c : r0a} (h : T3a c) (t : Nat) : c.buf.getD t [] = [] := by
 rw [List.getD_eq_getElem?_getD];cases hx : c.buf[t]? with
 | none => rfl
 | some b => exact h b (List.mem_of_getElem? hx)
theorem T3a.view {c : r0a} (h : T3a c) (t : Nat) : B1a c t = c.mem := by unfold B1a; rw [h.getD]; rfl
theorem Z3a {p : f0a} {c : r0a} (h : T3a c) (t : Nat) (s : t1a) : K0a p 0 c t s = (decide (c.at_.getD t 0 = s.frm) && (decide (s.guard.evl c.mem c.mem = 1) &&
 (if s.kind = 6 then decide (c.at_.getD s.target.toNat 0 = -1) else if s.kind = 7 then decide (c.at_.getD s.target.toNat 0 = (p.threads.getD s.target.toNat ⟨ByteArray.empty, 0, [], [], [], [], false⟩).points - 1) else true))) := by
 unfold K0a;rw [h.view, h.getD, h.getD]
 congr 2
 split
 ·rename_i h3; rw [if_neg (by omega), if_neg (by omega)]; simp
 ·split
  ·simp
  ·split
   ·simp
   ·split
    ·rfl
    ·simp
@[simp] theorem G8c (l : List E1a) (v m : List Int) : (z7a l v m).length = m.length := by
 unfold z7a
 induction l generalizing m with
 | nil => rfl
 | cons a l ih => rw [List.foldl_cons, ih, List.length_set]
theorem f9a (l : List E1a) (a : E1a) (v m : List Int) : z7a (l ++ [a]) v m = (z7a l v m).set a.cell.toNat (a.to.evl v v) := by unfold z7a; rw [List.foldl_append]; rfl
theorem z0c {l : List E1a} {a : E1a} {v m : List Int} {k i : Nat} (hx : l[k]? = some a) (hi : i = a.cell.toNat) : ((z7a (l.take k) v m).map (Value.int .i64)).set i (.int .i64 (a.to.evl v v)) = (z7a (l.take (k + 1)) v m).map (Value.int .i64) := by
 subst hi;rw [J0a hx, f9a, List.map_set]
theorem W9c {p : f0a} {c : r0a} {t i : Nat} {th : Q0a} {s : t1a} (h : T3a c) (ht : p.threads[t]? = some th) (hs : th.steps[i]? = some s) : doC p 0 c ⟨t, i, 0⟩ = ⟨z7a s.set c.mem c.mem, atC c t s, c.buf⟩ := by
 unfold doC;have e1 : V2a p t = th.steps := by unfold V2a; rw [getD_some ht]
 rw [if_neg (by show ¬ ((i : Int) = -1); omega)];simp only [Int.toNat_natCast, e1, hs, n3a, h.view];simp
def g6b (p : f0a) (m : Int) (c : r0a) (t i : Nat) : Bool := match (V2a p t)[i]? with | some s => K0a p m c t s | none => false
def p2a (p : f0a) (m : Int) (c : r0a) (t j : Nat) : List A0a := ((List.range j).filter (g6b p m c t)).map fun (i : Nat) => (⟨t, i, 0⟩ : A0a)
def f3a (m : Int) (c : r0a) (t j : Nat) : List A0a := ((List.range j).filter (T2a m (c.buf.getD t []))).map fun (i : Nat) => (⟨t, -1, ((c.buf.getD t []).getD i ⟨[], []⟩).cells.getD 0 0⟩ : A0a)
def m2a (p : f0a) (m : Int) (c : r0a) (k : Nat) : List A0a := (List.range k).flatMap (i6a p m c)
theorem D6a (p : f0a) (m : Int) (c : r0a) (t : Nat) : i6a p m c t = p2a p m c t (V2a p t).length ++ f3a m c t (c.buf.getD t []).length := rfl
theorem r4a (p : f0a) (m : Int) (c : r0a) (k : Nat) : m2a p m c (k + 1) = m2a p m c k ++ i6a p m c k := by
 unfold m2a; rw [List.range_succ, List.flatMap_append]; simp
theorem z8a {p : f0a} {m : Int} {c : r0a} {t j : Nat} {s : t1a} (h : (V2a p t)[j]? = some s) : p2a p m c t (j + 1) = p2a p m c t j ++ (if K0a p m c t s then [⟨t, j, 0⟩] else []) := by
 unfold p2a;rw [List.range_succ, List.filter_append, List.map_append];have : g6b p m c t j = K0a p m c t s := by unfold g6b; rw [h]
 congr 1
 cases he : K0a p m c t s <;> simp [this, he]
theorem F9a {p : f0a} {m : Int} {c : r0a} {t j : Nat} {th : Q0a} {s : t1a} (h : p.threads[t]? = some th) (hs : th.steps[j]? = some s) (he : K0a p m c t s = true) : p2a p m c t (j + 1) = p2a p m c t j ++ [⟨t, j, 0⟩] := by
 rw [z8a (by rw [show V2a p t = th.steps by unfold V2a; rw [getD_some h]]; exact hs), he, if_pos rfl]
theorem q0b {p : f0a} {m : Int} {c : r0a} {t j : Nat} {th : Q0a} {s : t1a} (h : p.threads[t]? = some th) (hs : th.steps[j]? = some s) (he : K0a p m c t s = false) : p2a p m c t (j + 1) = p2a p m c t j := by
 rw [z8a (by rw [show V2a p t = th.steps by unfold V2a; rw [getD_some h]]; exact hs), he]; simp
theorem c5b {m : Int} {c : r0a} {t j : Nat} (he : T2a m (c.buf.getD t []) j = true) : f3a m c t (j + 1) = f3a m c t j ++ [⟨t, -1, ((c.buf.getD t []).getD j ⟨[], []⟩).cells.getD 0 0⟩] := by
 unfold f3a;generalize c.buf.getD t [] = b at *;rw [List.range_succ, List.filter_append, List.map_append];simp [he]
theorem M6b {m : Int} {c : r0a} {t j : Nat} (he : T2a m (c.buf.getD t []) j = false) : f3a m c t (j + 1) = f3a m c t j := by
 unfold f3a;generalize c.buf.getD t [] = b at *;rw [List.range_succ, List.filter_append, List.map_append];simp [he]
theorem e5a (p : f0a) (m : Int) (c : r0a) (t j : Nat) : (p2a p m c t j).length ≤ j := by
 unfold p2a;have := List.length_filter_le (g6b p m c t) (List.range j);simpa using this
theorem d9a (m : Int) (c : r0a) (t j : Nat) : (f3a m c t j).length ≤ j := by
 unfold f3a;have := List.length_filter_le (T2a m (c.buf.getD t [])) (List.range j);simpa using this
theorem z2a {p : f0a} {t : Nat} {th : Q0a} (h : p.threads[t]? = some th) : V2a p t = th.steps := by unfold V2a; rw [getD_some h]
theorem I2a {p : f0a} (hp : a1a p) {c : r0a} (hf : F3a p c) (m : Int) : ∀ k, k ≤ p.threads.length → (m2a p m c k).length ≤ k * 67
 | 0, _ => by simp [m2a]
 | k + 1, hk => by
   have ih := I2a hp hf m k (by omega);rw [r4a, D6a];have h1 := e5a p m c k (V2a p k).length;have h2 := d9a m c k (c.buf.getD k []).length;have b0 : p.threads[k]? = some p.threads[k] := List.getElem?_eq_getElem hk;rw [z2a b0] at h1 ⊢;have h3 := (hp.threads k hk).nsteps;have a0 : k < c.buf.length := by rw [hf.nbuf]; exact hk
   have hb : c.buf[k]? = some c.buf[k] := List.getElem?_eq_getElem a0;rw [getD_some hb] at h2 ⊢;have h4 := (hf.bufs k _ hb).1;simp only [List.length_append];omega
theorem N6a (p : f0a) (m : Int) (c : r0a) : m2a p m c p.threads.length = H0a p m c := rfl
section
variable {P : Program} {r : Option Nat} {N : Nat} {D : List Deferred} {e : Env} {w w0 : World} {ops : Array Oper} {rest : List Oper} {K : List Deferred → Env → World → Prop} {L : List Ent} {M : List Nat}
variable {d : Nat} {t : TypeId} {p : String} {af : Array Edge} {x y : Operand}
theorem RdI.oneCells {M' : List Nat} {A : Option Addr} {m c : Nat} {l : List Int} (h : RdI M' w (.slice A m c) l) (hm : 0 < m) : ∃ b o, A = some ⟨b, o, none⟩ ∧ i1a w b o (l.map (Value.int .i64)) := by
 obtain ⟨_, _, _, _, h5⟩ := h.at;obtain ⟨b, o, h6, _, h8⟩ := h5 hm;refine ⟨b, o, h6, fun j v hj => ?_⟩;rw [List.getElem?_map, Option.map_eq_some_iff] at hj;obtain ⟨a, ha, rfl⟩ := hj;obtain ⟨_, _, a0, b0⟩ := h8 j a ha;rw [b0.1] at a0;have := a0 0 _ rfl;simpa using this
theorem b9b {ty el b0 k n c g tb : Nat} {z : Value} {A : Option Addr} {cs : List Value} {l : List Int} {M' : List Nat} (S : St M w0 w L) (hS : SlZ P ty el 1 z b0) (hk : L[k]? = some (some g, tb, cs)) (hx : ev e x = .slice (some ⟨g, 0, none⟩) n n) (hy : ev e y = .slice A n c) (f0 : cs.length = n)
 (hR : RdI M' w (.slice A n c) l) (hd : Nat.ble (d + 1) N = true)
 (h : ∀ w1, St M w0 w1 (L.set k (some g, tb, l.map (Value.int .i64))) → w0a [g] w w1 → WL P r N ops rest K D (upd e d (.int .i64 n)) w1) :
 WL P r N ops (⟨some d, .call { callee := .builtin .copy, args := #[x, y], argTypes := #[ty, ty] }, t, p, af, none⟩ :: rest) K D e w := by
 obtain ⟨_, hi, _, e0, _⟩ := hS.parts;have d0 : (P.info? el).map (·.size) = some 1 := by rw [hi]; simp [e0]
 have hn : n = l.length := hR.len.1;by_cases h0 : n = 0
 ·have e1 : l.map (Value.int .i64) = cs := by
   have a1 : l = [] := List.eq_nil_of_length_eq_zero (by omega);have a2 : cs = [] := List.eq_nil_of_length_eq_zero (by omega);rw [a1, a2]; rfl
  have a0 := run_copy_none (P := P) w ty ty t el (some ⟨g, 0, none⟩) A n n n c hS.und d0 (by rw [h0]; rfl);have S' := S.setEnt k hk e1.symm;refine c1a (v := .int .i64 n) (w' := w) rfl rfl hd (by simp) ?_ (h w S' (w0a.refl _ _));subst h0;simp [execOp, resolve, invoke, builtin, hx, hy, a0, goInt]
 ·obtain ⟨b, o, rfl, hc⟩ := hR.oneCells (by omega);have a0 := run_copy_row (P := P) w ty ty t el g 0 n n ⟨b, o, none⟩ n c cs.toArray tb (l.map (Value.int .i64)) hS.und d0 (S.blk k hk) (by simp [hn]) (fun j v hj => by rw [Addr.add_lit]; exact hc j v hj) (by simp; omega)
   (fun v hv => by obtain ⟨a, _, rfl⟩ := List.mem_map.1 hv; rfl)
  have e1 : (cs.toArray.toList.take 0 ++ l.map (Value.int .i64) ++ cs.toArray.toList.drop (0 + (l.map (Value.int .i64)).length)).toArray = (l.map (Value.int .i64)).toArray := by
   have : cs.length ≤ l.length := by omega
   simp [List.drop_of_length_le this]
  rw [e1] at a0;have hb : v0a [g] w (w.setRow g (l.map (Value.int .i64)).toArray) := ⟨rfl, rfl, rfl, by simp [World.setRow], fun q hq hm => setRow_other w g q _ (by simpa using hm)⟩;refine c1a (v := .int .i64 n) rfl rfl hd (by simp) ?_ (h _ (S.changed1 k hk hb (setRow_heap w g _ _ tb _ (S.blk k hk))) ⟨hb.size, fun q hq hm => hb.block q hq hm⟩);rw [List.length_map, ← hn] at a0;simp [execOp, resolve, invoke, builtin, hx, hy, a0, goInt]
def Eq3 (P : Program) (ty : TypeId) : Prop := P.eqGuardType P.depth ty = false ∧ ∀ (w : World) (a b c a' b' c' : Int),
 (binOp .eql ty (.agg #[.int .i64 a, .int .i64 b, .int .i64 c]) (.agg #[.int .i64 a', .int .i64 b', .int .i64 c'])).run P w = .ok (.bool (decide (a = a' ∧ b = b' ∧ c = c'))) w
theorem E3c {ty : TypeId} {a b c a' b' c' : Int} (hE : Eq3 P ty) (hx : ev e x = .agg #[.int .i64 a, .int .i64 b, .int .i64 c]) (hy : ev e y = .agg #[.int .i64 a', .int .i64 b', .int .i64 c']) (hd : Nat.ble (d + 1) N = true)
 (h1 : a = a' ∧ b = b' ∧ c = c' → WL P r N ops rest K D (upd e d (.bool true)) w) (h2 : ¬ (a = a' ∧ b = b' ∧ c = c') → WL P r N ops rest K D (upd e d (.bool false)) w) {yt : TypeId} :
 WL P r N ops (⟨some d, .binOp .eql ty x y yt, t, p, af, none⟩ :: rest) K D e w := by
 by_cases hh : a = a' ∧ b = b' ∧ c = c'
 ·exact c1a rfl rfl hd (by simp) (by simp only [execOp, hx, hy, Sem.run_bind, run_eqGuard_agg w _ _ _ _ _ _ hE.1, Result.andThen_ok, hE.2, Sem.run_pure, decide_eq_true hh]) (h1 hh)
 ·exact c1a rfl rfl hd (by simp) (by simp only [execOp, hx, hy, Sem.run_bind, run_eqGuard_agg w _ _ _ _ _ _ hE.1, Result.andThen_ok, hE.2, Sem.run_pure, decide_eq_false hh]) (h2 hh)
end
theorem X2b : Eq3 Tryz.prog 44 := by
 refine ⟨Tryz.eqGuardType44, fun w a b c a' b' c' => ?_⟩;have ht : Tryz.prog.underlying 44 = some (.struct (Tryz.prog.fieldsOf 44)) := by unfold Program.fieldsOf; rw [Tryz.underlying44]
 have a0 : ∀ w, (isAgg 3).run Tryz.prog w = .ok false w := fun w => by simp [isAgg, run_underlying Tryz.underlying3]
 rw [run_eql_struct, run_equalIn_struct w 9999 _ _ _ ht Tryz.stoodInHeld44];unfold Program.fieldsOf;rw [Tryz.underlying44];by_cases h1 : a = a' <;> by_cases h2 : b = b' <;> by_cases h3 : c = c' <;> simp [Op.eqFields, part, a0, run_equalIn_int _ 9998 _ .i64 .i64 _ _ Tryz.underlying3, h1, h2, h3]
theorem E4c {α : Type} {a b : List α} (hl : a.length = b.length) {k : Nat} (hk : a.length ≤ k) (h : ∀ i x y, i < k → a[i]? = some x → b[i]? = some y → x = y) : a = b := by
 apply List.ext_getElem hl;intro i h1 h2;exact h i _ _ (by omega) (List.getElem?_eq_getElem h1) (List.getElem?_eq_getElem h2)
def f7b {α : Type} (a b : List α) (k : Nat) : Prop := ∀ i x y, i < k → a[i]? = some x → b[i]? = some y → x = y
theorem f7b.zero {α : Type} {a b : List α} : f7b a b 0 := fun i x y h => absurd h (by omega)
theorem f7b.succ {α : Type} {a b : List α} {k : Nat} (h : f7b a b k) {x y : α} (hx : a[k]? = some x) (hy : b[k]? = some y) (he : x = y) : f7b a b (k + 1) := fun i x' y' hi h1 h2 => by
 by_cases a0 : i = k
 ·subst a0; rw [hx] at h1; rw [hy] at h2; cases h1; cases h2; exact he
 ·exact h i x' y' (by omega) h1 h2
theorem f7b.all {α : Type} {a b : List α} {k : Nat} (h : f7b a b k) (hl : a.length = b.length) (hk : a.length ≤ k) : a = b := E4c hl hk h
theorem i8b {α : Type} {a b : List α} (h : ¬ a.length = b.length) : a ≠ b := fun e => h (by rw [e])
theorem Y6b {α : Type} {a b : List α} {k : Nat} {x y : α} (hx : a[k]? = some x) (hy : b[k]? = some y) (h : x ≠ y) : a ≠ b := fun e => by subst e; rw [hx] at hy; cases hy; exact h rfl
theorem G0a.ext' {a b : G0a} (h1 : a.cells = b.cells) (h2 : a.values = b.values) : a = b := by cases a; cases b; simp_all
theorem r0a.ext' {a b : r0a} (h1 : a.mem = b.mem) (h2 : a.at_ = b.at_) (h3 : a.buf = b.buf) : a = b := by cases a; cases b; simp_all
theorem A0a.ext' {a b : A0a} (h : a.thread = b.thread ∧ a.step = b.step ∧ a.cell = b.cell) : a = b := by cases a; cases b; simp_all
abbrev n9c (M : List Nat) (w : World) (v : Value) (l : List r0a) : Prop := RdS M w 3 (g3a M w) v l
theorem g3a.keep {M : List Nat} {w w' : World} (hk : w0a M w w') : ∀ cs c, g3a M w cs c → g3a M w' cs c := fun _ _ h => t0a.keep hk h
theorem g3a.less {M M' : List Nat} {w : World} (hk : ∀ g ∈ M', g ∈ M) : ∀ cs c, g3a M w cs c → g3a M' w cs c := fun _ _ h => t0a.less hk h
def M3a (ns : List Int) : ByteArray := ns.foldl (fun r n => r.push (UInt8.ofNat n.toNat)) ByteArray.empty
theorem o4a : ∀ (ns : List Int) (s : ByteArray), (ns.foldl (fun r n => r.push (UInt8.ofNat n.toNat)) s).data.toList = s.data.toList ++ ns.map fun n => UInt8.ofNat n.toNat
 | [], s => by simp
 | n :: ns, s => by
   rw [List.foldl_cons, o4a ns];simp [ByteArray.push]
theorem Z8a {a b : List Int} (ha : ∀ x ∈ a, 0 ≤ x ∧ x ≤ 255) (hb : ∀ x ∈ b, 0 ≤ x ∧ x ≤ 255) (h : M3a a = M3a b) : a = b := by
 have h1 : (M3a a).data.toList = (M3a b).data.toList := by rw [h]
 unfold M3a at h1;rw [o4a, o4a] at h1;have h2 : a.map (fun n => UInt8.ofNat n.toNat) = b.map fun n => UInt8.ofNat n.toNat := by simpa using h1
 clear h h1
 induction a generalizing b with
 | nil => cases b with
   | nil => rfl
   | cons y b => simp at h2
 | cons x a ih => cases b with
   | nil => simp at h2
   | cons y b =>
     simp only [List.map_cons, List.cons.injEq] at h2;have hx := ha x (by simp);have hy := hb y (by simp);have h3 : x.toNat = y.toNat := by
      have := congrArg UInt8.toNat h2.1;simp only [UInt8.toNat_ofNat'] at this;omega
     rw [ih (fun z hz => ha z (by simp [hz])) (fun z hz => hb z (by simp [hz])) h2.2, show x = y by omega]
def N7a (c : r0a) : List Int := c.mem ++ (c.at_.map (fun x => x + 1) ++ c.buf.flatMap B2a)
def I6b (c : r0a) : ByteArray := M3a (N7a c)
theorem f0b {p : f0a} (hp : a1a p) {c : r0a} (hf : F3a p c) : ∀ x ∈ N7a c, 0 ≤ x ∧ x ≤ 255 := by
 obtain ⟨h1, h2, h3⟩ := h6a hp hf;intro x hx;simp only [N7a, List.mem_append, List.mem_map] at hx;rcases hx with hx | ⟨y, hy, rfl⟩ | hx
 ·exact h1 x hx
 ·have := h2 y hy; omega
 ·exact h3 x hx
theorem h2c {p : f0a} (hp : a1a p) {c d : r0a} (hc : F3a p c) (hd : F3a p d) (h : I6b c = I6b d) : c = d := by
 have h1 := Z8a (f0b hp hc) (f0b hp hd) h;unfold N7a at h1;obtain ⟨h2, h3⟩ := List.append_inj h1 (hc.shape.mem.trans hd.shape.mem.symm);obtain ⟨h4, h5⟩ := List.append_inj h3 (by simp [hc.shape.at_, hd.shape.at_]);have h6 : c.at_ = d.at_ := by
  have := congrArg (List.map fun x : Int => x - 1) h4;simpa [List.map_map, Function.comp_def] using this
 refine w6b hc.shape hd.shape ?_;unfold f5a;rw [h2, h6, h5]
def two (n : Int) : List Int := [n % 256, n / 256 % 256]
def S3b (c : r0a) : List Int := (f5a c).flatMap two
def G7b (c : r0a) : ByteArray := M3a (S3b c)
theorem s9b : ∀ (a b : List Int), (∀ x ∈ a, -1 ≤ x ∧ x ≤ 255) → (∀ x ∈ b, -1 ≤ x ∧ x ≤ 255) → a.flatMap two = b.flatMap two → a = b
 | [], [], _, _, _ => rfl
 | [], y :: b, _, _, h => by simp [two] at h
 | x :: a, [], _, _, h => by simp [two] at h
 | x :: a, y :: b, h1, h2, h => by
   simp only [List.flatMap_cons, two, List.cons_append, List.nil_append, List.cons.injEq] at h;have hx := h1 x (by simp);have hy := h2 y (by simp);rw [s9b a b (fun z hz => h1 z (by simp [hz])) (fun z hz => h2 z (by simp [hz])) h.2.2, show x = y by omega]
theorem q3c (a : List Int) : ∀ x ∈ a.flatMap two, 0 ≤ x ∧ x ≤ 255 := by
 intro x hx;obtain ⟨_, _, hx⟩ := List.mem_flatMap.1 hx;simp only [two, List.mem_cons, List.not_mem_nil, or_false] at hx;rcases hx with rfl | rfl <;> omega
theorem x9a {p : f0a} (hp : a1a p) {c : r0a} (hf : F3a p c) : ∀ x ∈ f5a c, -1 ≤ x ∧ x ≤ 255 := by
 obtain ⟨h1, h2, h3⟩ := h6a hp hf;intro x hx;simp only [f5a, List.mem_append] at hx;rcases hx with hx | hx | hx
 ·have := h1 x hx; omega
 ·have := h2 x hx; omega
 ·have := h3 x hx; omega
theorem b1c {p : f0a} (hp : a1a p) {c d : r0a} (hc : F3a p c) (hd : F3a p d) (h : G7b c = G7b d) : c = d :=
 w6b hc.shape hd.shape (s9b _ _ (x9a hp hc) (x9a hp hd) (Z8a (q3c _) (q3c _) h))
structure u2a where
 conf : r0a
 frm : Int
 ch : A0a
abbrev Z1a (V : List u2a) : List r0a := V.map u2a.conf
def H2a (V : List u2a) (v : u2a) : List u2a := if v.conf ∈ Z1a V then V else V ++ [v]
def u0b (p : f0a) (m : Int) (i : Nat) (c : r0a) (V : List u2a) (xs : List A0a) : List u2a := xs.foldl (fun V x => H2a V ⟨doC p m c x, i, x⟩) V
def P8c (p : f0a) : List u2a := [⟨X0a p, -1, ⟨0, 0, 0⟩⟩]
def P2a (p : f0a) (m : Int) : Nat → List u2a
 | 0 => P8c p
 | n + 1 => match (P2a p m n)[n]? with
   | some v => u0b p m n v.conf (P2a p m n) (H0a p m v.conf)
   | none => P2a p m n
theorem E3b (V : List u2a) (v : u2a) : Z1a (H2a V v) = if v.conf ∈ Z1a V then Z1a V else Z1a V ++ [v.conf] := by
 unfold H2a; split <;> simp
theorem A0b (p : f0a) (m : Int) (i : Nat) (c : r0a) : ∀ (xs : List A0a) (V : List u2a), Z1a (u0b p m i c V xs) = G0c (Z1a V) (xs.map (doC p m c))
 | [], _ => rfl
 | x :: xs, V => by
   show Z1a (u0b p m i c (H2a V ⟨doC p m c x, i, x⟩) xs) = _
   rw [A0b p m i c xs, List.map_cons, d7a, E3b]
theorem O4a (p : f0a) (m : Int) : ∀ n, Z1a (P2a p m n) = bfs (Q5a p m) (X0a p) n
 | 0 => rfl
 | n + 1 => by
   rw [P2a, bfs, ← O4a p m n];rw [List.getElem?_map];rcases h : (P2a p m n)[n]? with _ | v
   ·rfl
   ·exact A0b p m n v.conf _ _
theorem m0b (V : List u2a) (v : u2a) : V <+: H2a V v := by
 unfold H2a; split
 ·exact List.prefix_refl _
 ·exact List.prefix_append _ _
theorem F1b (p : f0a) (m : Int) (i : Nat) (c : r0a) : ∀ (xs : List A0a) (V : List u2a), V <+: u0b p m i c V xs
 | [], _ => List.prefix_refl _
 | _ :: xs, V => (m0b V _).trans (F1b p m i c xs _)
theorem q8b (p : f0a) (m : Int) (i : Nat) (c : r0a) (V : List u2a) (xs : List A0a) (x : A0a) : u0b p m i c V (xs ++ [x]) = H2a (u0b p m i c V xs) ⟨doC p m c x, i, x⟩ := by
 unfold u0b; rw [List.foldl_append]; rfl
theorem L0c (p : f0a) (m : Int) (i : Nat) (c : r0a) (V : List u2a) (xs ys : List A0a) : u0b p m i c V (xs ++ ys) = u0b p m i c (u0b p m i c V xs) ys := by
 unfold u0b; rw [List.foldl_append]
theorem x8b (p : f0a) (m : Int) (n : Nat) : P2a p m n <+: P2a p m (n + 1) := by
 rw [P2a]
 split
 ·exact F1b ..
 ·exact List.prefix_refl _
theorem X1b (p : f0a) (m : Int) {n k : Nat} (h : n ≤ k) : P2a p m n <+: P2a p m k := by
 induction h with
 | refl => exact List.prefix_refl _
 | step _ ih => exact ih.trans (x8b p m _)
theorem s0c {p : f0a} {m : Int} {n : Nat} {v : u2a} (h : (P2a p m n)[n]? = some v) (j : Nat) : u0b p m n v.conf (P2a p m n) ((H0a p m v.conf).take j) <+: P2a p m (n + 1) := by
 have e : P2a p m (n + 1) = u0b p m n v.conf (P2a p m n) (H0a p m v.conf) := by rw [P2a, h]
 rw [e]
 conv => rhs; rw [← List.take_append_drop j (H0a p m v.conf), L0c]
 exact F1b ..
theorem F2b {p : f0a} {m : Int} {n : Nat} {v : u2a} (h : (P2a p m n)[n]? = some v) : P2a p m (n + 1) = u0b p m n v.conf (P2a p m n) (H0a p m v.conf) := by rw [P2a, h]
theorem H2b {p : f0a} {m : Int} {n : Nat} (h : (P2a p m n).length ≤ n) : ∀ k, P2a p m (n + k) = P2a p m n
 | 0 => rfl
 | k + 1 => by
   rw [← Nat.add_assoc, P2a, H2b h k];rw [List.getElem?_eq_none (by omega)]
def y3a (p : f0a) (m : Int) (V : List u2a) : Prop := ∃ n, V <+: P2a p m n
theorem y3a.done {p : f0a} {m : Int} {V : List u2a} (h : y3a p m V) {n : Nat} (hn : (P2a p m n).length ≤ n) : V <+: P2a p m n := by
 obtain ⟨k, hk⟩ := h;rcases Nat.le_total k n with a0 | a0
 ·exact hk.trans (X1b p m a0)
 ·obtain ⟨_, rfl⟩ := Nat.exists_eq_add_of_le a0
  rwa [H2b hn] at hk
theorem y3a.cmp {p : f0a} {m : Int} {V W : List u2a} (h1 : y3a p m V) (h2 : y3a p m W) (hl : V.length ≤ W.length) : V <+: W := by
 obtain ⟨k, hk⟩ := h1;obtain ⟨j, hj⟩ := h2;exact List.prefix_of_prefix_length_le (hk.trans (X1b p m (Nat.le_max_left k j))) (hj.trans (X1b p m (Nat.le_max_right k j))) hl
theorem j7a {p : f0a} {m : Int} {V : List u2a} (h : y3a p m V) {v : u2a} (hv : v ∈ V) : I3a (Q5a p m) (X0a p) v.conf := by
 obtain ⟨n, hn⟩ := h;exact M5a _ _ n _ (by rw [← O4a]; exact List.mem_map.2 ⟨v, hn.subset hv, rfl⟩)
structure G5a (V : List u2a) : Prop where
 one : ∀ (k : Nat) (v : u2a), V[k]? = some v → (k = 0 ∧ v.frm = -1) ∨ (0 ≤ v.frm ∧ v.frm < (k : Int))
theorem G5a.found {V : List u2a} {v : u2a} (h : G5a V) (h1 : 0 ≤ v.frm) (h2 : v.frm < (V.length : Int)) : G5a (H2a V v) := by
 unfold H2a
 split
 ·exact h
 ·refine ⟨fun k u hu => ?_⟩;rcases Nat.lt_or_ge k V.length with hk | hk
  ·rw [List.getElem?_append_left hk] at hu; exact h.one k u hu
  ·rw [List.getElem?_append_right hk] at hu;have a0 : k - V.length = 0 := by
    have := (List.getElem?_eq_some_iff.1 hu).1;simp at this; omega
   rw [a0] at hu; simp at hu; subst hu;exact .inr ⟨h1, by omega⟩
theorem G5a.ext {p : f0a} {m : Int} {i : Nat} {c : r0a} : ∀ (xs : List A0a) (V : List u2a), G5a V → i < V.length → G5a (u0b p m i c V xs)
 | [], _, h, _ => h
 | _ :: xs, V, h, hi => G5a.ext xs _ (h.found (by simp) (by simpa using hi)) (Nat.lt_of_lt_of_le hi (m0b V _).length_le)
theorem T7a (p : f0a) (m : Int) : ∀ n, G5a (P2a p m n)
 | 0 => ⟨fun k v h => by
   match k, h with
   | 0, h => simp [P2a, P8c] at h; subst h; exact .inl ⟨rfl, rfl⟩
   | k + 1, h => simp [P2a, P8c] at h⟩
 | n + 1 => by
   rw [P2a];rcases h : (P2a p m n)[n]? with _ | v
   ·exact T7a p m n
   ·exact (T7a p m n).ext _ _ (List.getElem?_eq_some_iff.1 h).1
theorem C6a {α : Type} {V W : List α} (h : V <+: W) {k : Nat} {v : α} (hv : V[k]? = some v) : W[k]? = some v := by
 obtain ⟨_, rfl⟩ := h;rw [List.getElem?_append_left (List.getElem?_eq_some_iff.1 hv).1]; exact hv
theorem y3a.from {p : f0a} {m : Int} {V : List u2a} (h : y3a p m V) : G5a V := by
 obtain ⟨n, hn⟩ := h;exact ⟨fun k v hv => (T7a p m n).one k v (C6a hn hv)⟩
theorem n4a (p : f0a) (M : List Nat) (w0 : World) (cs : List Value) (hI : InP p M w0 cs) :
 M0a Tryz.prog 104 #[.agg cs.toArray] w0 fun v w' => v = .bool true ∧ Below w0.heap.size w0 w' := by
 obtain ⟨_, _, _, _, _, _, _, _, _, _, _, _, rfl, _, _, _, _, _, _, _, _, _, _, _, _⟩ := hI.rd.open_;have S := St.refl w0;refine a0a Tryz.func104 rfl Tryz.ntmps104 rfl ?_;refine wO0 rfl ⟨⟩ (j0a S (by conv => lhs; whnf) rfl ?_);intro g1 w1 S1 X1 G1;refine lO S1.k [.w 0] rfl ⟨⟨rfl,by rfl⟩,⟨⟩⟩ (g0a S1 O9b rfl rfl (b9a p M _ _ (hI.keep (S1.keep0 M)).rd hI.ok (hI.keep (S1.keep0 M)).msk (hI.keep (S1.keep0 M)).lt) ?_);intro w8 S8 X8;refine lB0 rfl ⟨⟩ (fun a0 => ?_) (fun a0 => by exfalso; omega);exact lT rfl ⟨⟩ rfl ⟨rfl, S8.fin⟩
theorem z6a (p : f0a) (c : r0a) (M : List Nat) (w0 : World) (cs xs : List Value) (hI : InP p M w0 cs) (hX : t0a M w0 c xs) (hf : F3a p c) (he : ∀ b ∈ c.buf, b = []) :
 M0a Tryz.prog 137 #[.agg cs.toArray, .agg xs.toArray] w0 fun v w' => v = .bool true ∧ Below w0.heap.size w0 w' := by
 obtain ⟨Ac, nc, cc, Am, nm, cm, Al, nl, cl, At, nt, ct, rfl, hC, _, _, m1, _, _, _, _, _, _, _, _⟩ := hI.rd.open_;obtain ⟨Xm, xm, ym, Xa, xa, ya, Xb, xb, yb, rfl, y0, j1, i0, _, _, j0, _, _, _⟩ := hX.open_;have S := St.refl w0;have f1 := hf.mem.len;have f2 := hf.nat;have f3 := hf.nbuf;refine a0a Tryz.func137 rfl Tryz.ntmps137 rfl ?_;refine wO0 rfl ⟨⟩ (j0a S (by conv => lhs; whnf) rfl ?_);intro g2 w2 S2 X2 G2;refine j0a S2 (by conv => lhs; whnf) rfl ?_;intro g3 w3 S3 X3 G3;refine lB S3.k [.o 0,.o 1] rfl ⟨rfl,rfl,⟨⟩⟩ (fun W0 => by exfalso; omega) fun W0 => ?_;refine lB S3.k [.o 0,.o 1] rfl ⟨rfl,rfl,⟨⟩⟩ (fun X0 => by exfalso; omega) fun X0 => ?_;refine lB S3.k [.o 0,.o 1] rfl ⟨rfl,rfl,⟨⟩⟩ (fun Y0 => by exfalso; omega) fun Y0 => ?_;refine lC S3.k [.o 0] rfl ⟨rfl,⟨⟩⟩ (wL (fun μk D ε w => D = [] ∧ ∃ k : Nat, (k + μk = (c.mem.length)) ∧ St [] w0 w [(some g3, 38, [.slice Xm xm ym, .slice Xa xa ya, .slice Xb xb yb]), (some g2, 27, [.slice Ac nc cc, .slice Am nm cm, .slice Al nl cl, .slice At nt ct])] ∧ Sl ε [(2, .pointer (some ⟨g2, 0, none⟩)), (3, .pointer (some ⟨g3, 0, none⟩)), (36, .slice Xm xm ym), (37, .int .i64 xm), (38, .int .i64 k)]) (μ := (c.mem.length)) ⟨rfl, 0, by omega, S3, rfl⟩ ?_);rintro μk D ε w ⟨rfl, k, hk, S, eZ⟩;refine wK eZ (wB0 rfl ⟨⟩ (fun Z0 => ?_) fun Z0 => ?_)
 ·obtain ⟨v, R0, n1, _, K0, s0, _, _, z0, F0⟩ := RdS.get (y0) (k) (by omega);obtain ⟨rfl, _⟩ := id F0;have q1 := hf.mem.vals k v K0;refine lB (S.k.a z0) [.x R0 n1,.f 0 0] rfl ⟨rfl,⟨s0,by omega⟩,⟨⟩⟩ (fun a1 => by exfalso; omega) fun a1 => ?_;obtain ⟨x, S0, o1, _, P0, t0, _, _, A0, G0⟩ := RdS.get (hC) (k) (by omega);obtain ⟨rfl, _, _, _, _⟩ := Z2a.open_ G0;have q2 := (hI.ok.cells x (c0a P0)).w;rw [U9c P0, c5a] at q1;refine lO (S.k.a A0) [.o 1,.x S0 o1,.f 0 1] rfl ⟨rfl,⟨t0,by omega⟩,rfl,⟨⟩⟩ ?_;rw [show x.w = ((x.w.toNat : Nat) : Int) by omega];refine i3c (n := x.w.toNat) rfl (by rfl) (by omega) rfl ?_;refine lB0 rfl ⟨⟩ (fun b1 => by exfalso; omega) fun b1 => ?_;refine lP0 rfl ⟨by omega,⟨⟩⟩ ⟨μk - 1, by omega, rfl, (k + 1), (by omega), S, rfl⟩
 refine lC S.k [.o 0] rfl ⟨rfl,⟨⟩⟩ (wL (fun μk D ε w => D = [] ∧ ∃ k : Nat, (k + μk = (c.at_.length)) ∧ St [] w0 w [(some g3, 38, [.slice Xm xm ym, .slice Xa xa ya, .slice Xb xb yb]), (some g2, 27, [.slice Ac nc cc, .slice Am nm cm, .slice Al nl cl, .slice At nt ct])] ∧ Sl ε [(2, .pointer (some ⟨g2, 0, none⟩)), (3, .pointer (some ⟨g3, 0, none⟩)), (58, .slice Xa xa ya), (59, .int .i64 xa), (60, .int .i64 k)]) (μ := (c.at_.length)) ⟨rfl, 0, by omega, S, rfl⟩ ?_);rintro μk D ε w ⟨rfl, k, hk, S, eZ⟩;refine wK eZ (wB0 rfl ⟨⟩ (fun d1 => ?_) fun d1 => ?_)
 ·obtain ⟨v, T0, p1, _, K0, u0, _, _, B0, H0⟩ := RdS.get (j1) (k) (by omega);obtain ⟨rfl, _⟩ := id H0;obtain ⟨th, U0, r1, _, J0, v0, _, D0, C0, I0⟩ := RdS.get (m1) (k) (by omega);obtain ⟨_, _, _, _, _, _, _, _, _, _, _, _, rfl, _, _, _, _, _, _, _, _, _, _, _, _, _⟩ := N0a.open_ I0;have q1 := hf.atr k v K0 th J0;refine lO ((S.k.a C0).a B0) [.x T0 p1,.f 0 0,.o 1,.x U0 r1,.v 1] rfl ⟨⟨rfl,D0⟩,⟨v0,by omega⟩,rfl,rfl,⟨u0,by omega⟩,⟨⟩⟩ (n0a S Y2b rfl rfl ?_);intro g9 w9 S9 X9 G9;refine e0a (kk := 0) (vs := [_, _, _, _, _, _, _]) S9 k3b rfl rfl rfl rfl rfl rfl rfl ?_;intro Q0 a0 O0;dsimp only [k0a, List.set] at a0;refine lB0 rfl ⟨⟩ (fun g1 => by exfalso; omega) fun g1 => ?_;refine lB a0.k [.o 0] rfl ⟨rfl,⟨⟩⟩ (fun h1 => by exfalso; omega) fun h1 => ?_;refine lB0 rfl ⟨⟩ (fun i1 => ?_) fun i1 => ?_
  ·refine lO0 rfl ⟨⟩ ?_;cases b0 : th.asleep
   ·refine s0a A2a rfl (by exact (a0.cell 0 rfl rfl).trans (congrArg (fun b => some (Value.bool b)) b0)) rfl ?_;rw [q1.2.2 (by omega)] at b0;refine lR0 rfl ⟨⟩ (q0a rfl (by conv => lhs; whnf) ?_);cases b0
   refine s0a A2a rfl (by exact (a0.cell 0 rfl rfl).trans (congrArg (fun b => some (Value.bool b)) b0)) rfl ?_;rw [q1.2.2 (by omega)] at b0;obtain ⟨b, o0, N0, V0, j0, e0, x0, E0, f0, g0⟩ := RdS.get (i0) (k) (by omega);obtain ⟨n0, L0, q0, rfl, h0, d0, p0⟩ := s5a.open_ g0;have q2 := he b (c0a j0);subst q2;simp only [List.length_nil] at d0;refine lB (a0.k.a f0) [.o 1,.x o0 N0,.f 0 0] rfl ⟨rfl,⟨e0,by omega⟩,rfl,⟨⟩⟩ (fun r0 => by exfalso; omega) fun r0 => ?_;refine lP0 rfl ⟨by omega,⟨⟩⟩ ⟨μk - 1, by omega, rfl, (k + 1), (by omega), a0.tail, rfl⟩
  obtain ⟨b, o0, N0, V0, j0, e0, x0, E0, f0, g0⟩ := RdS.get (i0) (k) (by omega);obtain ⟨n0, L0, q0, rfl, h0, d0, p0⟩ := s5a.open_ g0;have q2 := he b (c0a j0);subst q2;simp only [List.length_nil] at d0;refine lB (a0.k.a f0) [.o 1,.x o0 N0,.f 0 0] rfl ⟨rfl,⟨e0,by omega⟩,rfl,⟨⟩⟩ (fun r0 => by exfalso; omega) fun r0 => ?_;refine lP0 rfl ⟨by omega,⟨⟩⟩ ⟨μk - 1, by omega, rfl, (k + 1), (by omega), a0.tail, rfl⟩
 exact lT rfl ⟨⟩ rfl ⟨rfl, S.fin⟩
theorem P2b (p : f0a) (M : List Nat) (w0 : World) (cs : List Value) (hI : InP p M w0 cs) :
 M0a Tryz.prog 81 #[.agg cs.toArray] w0 fun v w' => (∃ xs, v = .agg xs.toArray ∧ t0a M w' (X0a p) xs) ∧ Below w0.heap.size w0 w' := by
 obtain ⟨Ac, nc, cc, Am, nm, cm, Al, nl, cl, At, nt, ct, rfl, hC, _, _, U0, G0, _, _, v0, bc, _, _, bt⟩ := hI.rd.open_;have S := St.refl w0;have hp := hI.ok;have n1 := hp.ncells;have n2 := hp.nthreads;refine a0a Tryz.func81 rfl Tryz.ntmps81 rfl ?_;refine wO0 rfl ⟨⟩ (j0a S (by conv => lhs; whnf) rfl ?_);intro g1 w1 S1 X1 G1;refine n0a S1 U5a rfl rfl ?_;intro g2 w2 S2 X2 G2;refine lO S2.k [.w 1] rfl ⟨⟨rfl,rfl⟩,⟨⟩⟩ (g0a S2 s1b rfl rfl (n4a p M _ _ (hI.keep (S2.keep0 M))) ?_);intro w7 S7 X7;refine lC0 rfl ⟨⟩ (w3c b0a [0, 1, 2, 3, 4, 5, 6, 7, 8, 9, 10, 11, 12, 13] 14 (by kernel_rfl) (by kernel_rfl) (Cl _ _ _ _) (Cl.start S7) _ rfl ?_);refine g5a rfl rfl ?_;refine F0a C0c rfl rfl ?_;refine d0a ?_;refine g5a rfl rfl ?_;refine h0a J9a rfl (fun w1 hw => by exact hw.1.cell 1 rfl rfl) rfl ?_;refine d0a ?_;refine T0b rfl r5a.slT rfl rfl ?_;refine O7a (n := nc) (c := nc) rfl rfl rfl Y0a rfl rfl (by omega) (by omega) (by omega) rfl ?_;intro j0 L0 z0;refine g5a rfl rfl ?_;refine F0a W3b rfl rfl ?_;refine d0a ?_;refine g5a rfl rfl ?_;refine h0a p6b rfl (fun w1 hw => by exact hw.1.cell 1 rfl rfl) rfl ?_;refine d0a ?_;refine T0b rfl y5b.slT rfl rfl ?_;refine O7a (n := nt) (c := nt) rfl rfl rfl Y0a rfl rfl (by omega) (by omega) (by omega) rfl ?_;intro n0 N0 A0;refine g5a rfl rfl ?_;refine F0a W3b rfl rfl ?_;refine d0a ?_;refine g5a rfl rfl ?_;refine h0a p6b rfl (fun w1 hw => by exact hw.1.cell 1 rfl rfl) rfl ?_;refine d0a ?_;refine T0b rfl y5b.slT rfl rfl ?_;refine O7a (n := nt) (c := nt) rfl rfl rfl P4a rfl rfl (by omega) (by omega) (by omega) rfl ?_;intro o0 O0 B0;refine g5a rfl rfl ?_;refine h2a o5a (vs := [(0, .slice _ _ _), (1, .slice _ _ _), (2, .slice _ _ _)]) (cs := [_, _, _]) rfl rfl rfl rfl ?_;refine d0a ?_;refine E5b rfl rfl rfl U5a rfl ?_;intro g3 G3 X0;refine N5b ?_;rintro a1 ⟨b0, _⟩ ⟨⟨⟨⟨-, s0⟩, t0⟩, u0⟩, V0⟩;clear z0;replace b0 := b0.push_new S7 s0 L0;replace b0 := b0.push_more (L1 := [_]) S7 t0 N0 (by simpa [eq_comm] using A0);replace b0 := b0.push_more (L1 := [_, _]) S7 u0 O0 (by simpa [eq_comm] using B0);replace b0 := b0.push_more (L1 := [_, _, _]) S7 V0 G3 (by simpa [eq_comm] using X0);refine e0a (kk := 0) (vs := [_, _, _]) b0 S2a rfl rfl rfl rfl rfl rfl rfl ?_;intro J0 a0 E0;dsimp only [k0a, List.set] at a0;refine S0a ⟨rfl, ?_⟩;refine fC a0.k [.o 5] rfl ⟨rfl,⟨⟩⟩ ?_;refine wL (fun μk D ε w => D = [] ∧ ∃ k : Nat, (k + μk = (p.cells.length)) ∧ St [] w0 w [(some g3, 38, [.slice (some ⟨j0, 0, none⟩) nc nc, .slice (some ⟨n0, 0, none⟩) nt nt, .slice (some ⟨o0, 0, none⟩) nt nt]), (some o0, 79, (List.replicate nt (.slice none 0 0))), (some n0, 3, (List.replicate nt (.int .i64 0))), (some j0, 3, U2a ((X0a p).mem.map (Value.int .i64)) (.int .i64 0) k), (some g2, 38, [.slice none 0 0, .slice none 0 0, .slice none 0 0]), (some g1, 27, [.slice Ac nc cc, .slice Am nm cm, .slice Al nl cl, .slice At nt ct])] ∧ Sl ε [(1, .pointer (some ⟨g1, 0, none⟩)), (2, .pointer (some ⟨g2, 0, none⟩)), (3, .pointer (some ⟨g3, 0, none⟩)), (25, .int .i64 nc), (26, .int .i64 k)]) (μ := (p.cells.length)) ⟨rfl, 0, by omega, (a0.setEnt 3 rfl (by rw [t6a]; simp [X0a, G0])), rfl⟩ ?_;rintro μk D ε w ⟨rfl, k, _, S, eZ⟩;refine wK eZ (wB0 rfl ⟨⟩ (fun S0 => ?_) fun S0 => ?_)
 ·refine lC0 rfl ⟨⟩ (D0a b0a [0, 1, 2, 3, 4, 5, 6, 7, 8, 9] [] [10] (by kernel_rfl) rfl (Cl _ _ _ _) (Cl.start S) ?_);obtain ⟨x, Q0, Y0, _, W0, p0, _, _, r0, x0⟩ := RdS.get (hC) (k) (by omega);obtain ⟨rfl, _, _, _, _⟩ := Z2a.open_ x0;refine qO (S.q.a r0) [.o 0,.o 5,.x Q0 Y0,.f 0 2] rfl ⟨rfl,⟨p0,by omega⟩,rfl,rfl,⟨⟩⟩ (m0a Y0a.slT rfl (by rfl) rfl (by omega) (by omega) rfl ?_);refine qD rfl ⟨⟩ ?_;rintro b1 ⟨P0, _⟩
  first | refine I0a (kk := 3) P0 c1b rfl (by conv => lhs; whnf) rfl rfl (by (simp; omega)) ?_
  intro K0 g0 F0;refine lP0 rfl ⟨by omega,⟨⟩⟩ ⟨μk - 1, by omega, rfl, (k + 1), (by omega), (g0.setEnt 3 rfl (y7a (by simp [X0a, W0]) (by simp))), rfl⟩
 refine lC S.k [.o 5] rfl ⟨rfl,⟨⟩⟩ ?_;refine wL (fun μj D ε w => D = [] ∧ ∃ j : Nat, (j + μj = (p.threads.length)) ∧ St [] w0 w [(some g3, 38, [.slice (some ⟨j0, 0, none⟩) nc nc, .slice (some ⟨n0, 0, none⟩) nt nt, .slice (some ⟨o0, 0, none⟩) nt nt]), (some o0, 79, (List.replicate nt (.slice none 0 0))), (some n0, 3, U2a ((X0a p).at_.map (Value.int .i64)) (.int .i64 0) j), (some j0, 3, (X0a p).mem.map (Value.int .i64)), (some g2, 38, [.slice none 0 0, .slice none 0 0, .slice none 0 0]), (some g1, 27, [.slice Ac nc cc, .slice Am nm cm, .slice Al nl cl, .slice At nt ct])] ∧ Sl ε [(1, .pointer (some ⟨g1, 0, none⟩)), (2, .pointer (some ⟨g2, 0, none⟩)), (3, .pointer (some ⟨g3, 0, none⟩)), (42, .int .i64 nt), (43, .int .i64 j)]) (μ := (p.threads.length)) ⟨rfl, 0, by omega, ((S.setEnt 3 rfl (m8a _ _ (by simp [X0a]; omega))).setEnt 2 rfl (by rw [t6a]; simp [X0a, v0])), rfl⟩ ?_;rintro μj D ε w ⟨rfl, j, _, S, eZ⟩;refine wK eZ (wB0 rfl ⟨⟩ (fun T0 => ?_) fun T0 => ?_)
 ·obtain ⟨th, R0, Z0, _, i0, q0, _, _, h0, y0⟩ := RdS.get (U0) (j) (by omega);obtain ⟨_, _, _, _, _, _, _, _, _, _, _, _, rfl, _, _, _, _, _, _, _, _, _, _, _, _, _⟩ := N0a.open_ y0;refine lO S.k [.o 5,.x R0 Z0] rfl ⟨⟨q0,by omega⟩,rfl,⟨⟩⟩ ?_;cases d0 : th.asleep
  ·refine s0a A2a rfl (by exact (S.old (h0 _ _ rfl)).trans (congrArg (fun b => some (Value.bool b)) d0)) rfl ?_;refine lP0 rfl ⟨by omega,⟨⟩⟩ ⟨μj - 1, by omega, rfl, (j + 1), (by omega), (S.setEnt 2 rfl (by exact d4b (by simp [X0a, i0, d0]))), rfl⟩
  refine s0a A2a rfl (by exact (S.old (h0 _ _ rfl)).trans (congrArg (fun b => some (Value.bool b)) d0)) rfl ?_;refine lO S.k [.o 0] rfl ⟨rfl,⟨⟩⟩ (x0a Y0a.slT rfl (by rfl) rfl (by omega) (by omega) rfl ?_)
  first | refine I0a (kk := 2) S c1b rfl (by conv => lhs; whnf) rfl rfl (by (simp; omega)) ?_
  intro H0 f0 C0;refine lP0 rfl ⟨by omega,⟨⟩⟩ ⟨μj - 1, by omega, rfl, (j + 1), (by omega), (f0.setEnt 2 rfl (by exact y7a (by simp [X0a, i0, d0]) (by simp))), rfl⟩
 refine lO S.k [.w 0] rfl ⟨⟨rfl,rfl⟩,⟨⟩⟩ ?_
 first | refine e0a (kk := 4) (vs := [_, _, _]) S S2a rfl rfl rfl rfl rfl rfl rfl ?_
 intro I0 e0 D0;dsimp only [k0a, List.set] at e0;refine lR0 rfl ⟨⟩ ?_;have SF := e0.setEnt 2 rfl (m8a _ _ (by simp [X0a]; omega));have hf := R5a hp;exact r1a (n := 3) rfl o1a rfl (SF.cells 4 rfl) rfl ⟨⟨_, rfl, _, _, _, rfl, SF.rdInts 3 rfl (U0a hI.lt (SF.new 3 rfl)) (by simp [X0a, G0]) bc (d5a hp hf.mem), SF.rdInts 2 rfl (U0a hI.lt (SF.new 2 rfl)) (by simp [X0a, v0]) bt (v8a hp hf), SF.rdBufs 1 rfl (U0a hI.lt (SF.new 1 rfl)) (by simp [X0a, v0]) bt (by simp [X0a])⟩, SF.fin⟩
theorem U9a (p : f0a) (c : r0a) (t i : Nat) (th : Q0a) (s : t1a) (M : List Nat) (w0 : World) (cs xs : List Value) (hI : InP p M w0 cs) (hX : t0a M w0 c xs) (hf : F3a p c) (he : T3a c) (g0 : p.threads[t]? = some th) (R0 : th.steps[i]? = some s) :
 M0a Tryz.prog 157 #[.agg cs.toArray, .agg xs.toArray, .int .i64 t, .int .i64 i] w0 fun v w' => v = .bool (K0a p 0 c t s) ∧ Below w0.heap.size w0 w' := by
 obtain ⟨_, _, _, _, _, _, _, _, _, _, _, _, rfl, _, _, _, V0, _, _, _, _, _, _, _, _⟩ := hI.rd.open_;obtain ⟨_, _, _, _, _, _, _, _, _, rfl, i0, z0, _, _, e0, h0, _, _, _⟩ := hX.open_;have S := St.refl w0;have f2 := hf.nat;have hp := hI.ok;have ht := R1a g0;have hi := R1a R0;have j1 := hp.thread g0;have i1 := j1.steps s (c0a R0);have W0 : 6 ≤ s.kind → 0 ≤ s.target ∧ s.target < p.threads.length := fun h => (i1.row.k6 h).1;refine a0a Tryz.func157 rfl Tryz.ntmps157 rfl ?_;refine wO0 rfl ⟨⟩ (j0a S (by conv => lhs; whnf) rfl ?_);intro g4 w4 S4 X4 G4;refine j0a S4 (by conv => lhs; whnf) rfl ?_;intro g5 w5 S5 X5 G5;obtain ⟨_, a1, m1, _, P0, s0, _, _, B0, I0⟩ := RdS.get (V0) (t) (by omega);obtain rfl := Option.some.inj (g0.symm.trans P0);obtain ⟨_, _, _, _, _, _, _, _, _, _, _, _, rfl, _, _, _, j0, _, _, _, _, _, _, _, _, _⟩ := N0a.open_ I0;obtain ⟨_, b1, n1, _, Q0, t0, _, H0, C0, J0⟩ := RdS.get (j0) (i) (by omega);obtain rfl := Option.some.inj (R0.symm.trans Q0);obtain ⟨_, _, _, _, _, _, rfl, ⟨_, _, _, _, _⟩, A0, _, _, _⟩ := n2a.open_ J0;refine lO ((S5.k.a C0).a B0) [.o 1,.x a1 m1,.f 0 4,.x b1 n1,.v 1] rfl ⟨⟨rfl,H0⟩,⟨t0,by omega⟩,rfl,⟨s0,by omega⟩,rfl,⟨⟩⟩ (n0a S5 t7b rfl rfl ?_);intro g9 w9 S9 X9 G9;refine e0a (kk := 0) (vs := [_, _, _, _, _, _, _, _, _, _, _]) S9 A7b rfl rfl rfl rfl rfl rfl rfl ?_;intro X0 a0 T0;dsimp only [k0a, List.set] at a0;refine lC0 rfl ⟨⟩ (D0a b0a [0, 1, 2, 3, 4, 5, 6, 7, 8, 9, 10, 11, 12, 13, 14, 15, 16, 17] [] [] (by kernel_rfl) rfl (Cl _ _ _ _) (Cl.start a0) ?_);obtain ⟨a, d1, o1, _, e0, u0, _, _, D0, K0⟩ := RdS.get (z0) (t) (by omega);obtain ⟨rfl, _⟩ := id K0;refine qB (a0.q.a D0) [.o 1,.x d1 o1,.f 0 0,.o 0] rfl ⟨rfl,rfl,⟨u0,by omega⟩,rfl,⟨⟩⟩ (fun d0 => ?_) fun d0 => ?_
 ·refine qD rfl ⟨⟩ ?_;rintro Y0 ⟨b0, U0⟩;refine lT rfl ⟨⟩ rfl ⟨congrArg Value.bool ?_, b0.fin⟩;rw [Z3a he, getD_some e0];simp [d0]; done
 refine qO a0.q [.o 0,.o 1,.o 1] rfl ⟨rfl,rfl,rfl,⟨⟩⟩ (F2a c0b rfl rfl (fun w1 S1 X1 => b8a s.guard M _ _ _ _ c.mem c.mem (RdE.keep (S1.keep0 M) _ _ A0) (hI.keep (S1.keep0 M)).msk (i0.keep (S1.keep0 M)) (i0.keep (S1.keep0 M))) ?_);refine qB0 rfl ⟨⟩ (fun f0 => ?_) fun f0 => ?_
 ·refine qD rfl ⟨⟩ ?_;rintro Y0 ⟨b0, U0⟩;refine lT rfl ⟨⟩ rfl ⟨congrArg Value.bool ?_, b0.fin⟩;rw [Z3a he, getD_some e0];simp [d0, f0]; done
 refine qD rfl ⟨⟩ ?_;rintro Y0 ⟨b0, U0⟩;refine lB b0.k [.o 0] rfl ⟨rfl,⟨⟩⟩ (fun n0 => ?_) fun n0 => ?_
 ·have q6 := W0 (by omega);obtain ⟨b, f1, p1, _, h0, v0, _, _, E0, L0⟩ := RdS.get (z0) (s.target.toNat) (by omega);obtain ⟨rfl, _⟩ := id L0;refine lB (b0.k.a E0) [.o 1,.o 0,.x f1 p1,.f 0 0] rfl ⟨rfl,⟨v0,by omega⟩,rfl,rfl,⟨⟩⟩ (fun q0 => ?_) fun q0 => ?_
  ·refine lT rfl ⟨⟩ rfl ⟨congrArg Value.bool ?_, b0.fin⟩;rw [Z3a he, getD_some e0];simp [d0, f0, n0, h0, q0]; done
  refine lT rfl ⟨⟩ rfl ⟨congrArg Value.bool ?_, b0.fin⟩;rw [Z3a he, getD_some e0];simp [d0, f0, n0, h0, q0]; done
 refine lB0 rfl ⟨⟩ (fun o0 => ?_) fun o0 => ?_
 ·refine lC0 rfl ⟨⟩ (D0a b0a [0, 1, 2, 3, 4, 5, 6, 7, 8, 9, 10, 11, 12, 13, 14, 15] [] [] (by kernel_rfl) rfl (Cl _ _ _ _) (Cl.start b0) ?_);have q6 := W0 (by omega);obtain ⟨b, g1, q1, _, h0, x0, _, _, F0, N0⟩ := RdS.get (z0) (s.target.toNat) (by omega);obtain ⟨rfl, _⟩ := id N0;obtain ⟨_, h1, r1, _, S0, y0, _, _, G0, O0⟩ := RdS.get (V0) (s.target.toNat) (by omega);obtain ⟨_, _, _, _, _, _, _, _, _, _, _, _, rfl, _, _, _, _, _, _, _, _, _, _, _, _, _⟩ := N0a.open_ O0;have q7 := (hp.thread S0).points;refine qB ((b0.q.a G0).a F0) [.o 1,.o 0,.x g1 q1,.f 0 0,.o 2,.o 0,.x h1 r1,.f 1 1] rfl ⟨by omega,rfl,⟨y0,by omega⟩,rfl,rfl,rfl,⟨x0,by omega⟩,rfl,rfl,⟨⟩⟩ (fun r0 => ?_) fun r0 => ?_
  ·refine qD rfl ⟨⟩ ?_;rintro s1 ⟨p0, Z0⟩;refine lT rfl ⟨⟩ rfl ⟨congrArg Value.bool ?_, p0.fin⟩;rw [Z3a he, getD_some e0];simp [d0, f0, o0, h0, S0, r0]; done
  refine qD rfl ⟨⟩ ?_;rintro s1 ⟨p0, Z0⟩;refine lT rfl ⟨⟩ rfl ⟨congrArg Value.bool ?_, p0.fin⟩;rw [Z3a he, getD_some e0];simp [d0, f0, o0, h0, S0, r0]; done
 refine lT rfl ⟨⟩ rfl ⟨congrArg Value.bool ?_, b0.fin⟩;rw [Z3a he, getD_some e0];simp [d0, f0, n0, o0]; done
theorem u4a (p : f0a) (c : r0a) (M : List Nat) (w0 : World) (cs xs : List Value) (hI : InP p M w0 cs) (hX : t0a M w0 c xs) (hf : F3a p c) (he : T3a c) :
 M0a Tryz.prog 138 #[.agg cs.toArray, .agg xs.toArray] w0 fun v w' => w1c M w' v (H0a p 0 c) ∧ Below w0.heap.size w0 w' := by
 obtain ⟨Ac, nc, cc, Am, nm, cm, Al, nl, cl, At, nt, ct, rfl, _, _, _, y0, _, _, _, _, _, _, _, _⟩ := hI.rd.open_;obtain ⟨Xm, xm, ym, Xa, xa, ya, Xb, xb, yb, rfl, _, _, _, _, _, _, _, _, _⟩ := hX.open_;have S := (St.refl w0).nilEnt 44;have hp := hI.ok;have n2 := hp.nthreads;refine a0a Tryz.func138 rfl Tryz.ntmps138 rfl ?_;refine wO0 rfl ⟨⟩ (j0a S (by conv => lhs; whnf) rfl ?_);intro g2 w2 S2 X2 G2;refine j0a S2 (by conv => lhs; whnf) rfl ?_;intro g3 w3 S3 X3 G3;refine lC S3.k [.o 1] rfl ⟨rfl,⟨⟩⟩ (wL (fun μk D ε w => D = [] ∧ ∃ k : Nat, ∃ G : Option Nat, ∃ g0 : List Value, ∃ v : Value, (k + μk = (p.threads.length)) ∧ (P1a (fun _ _ => S1a) 3 [] w0 G g0 v (m2a p 0 c k)) ∧ St [] w0 w [(some g3, 38, [.slice Xm xm ym, .slice Xa xa ya, .slice Xb xb yb]), (some g2, 27, [.slice Ac nc cc, .slice Am nm cm, .slice Al nl cl, .slice At nt ct]), (G, 44, g0)] ∧ Sl ε [(2, .pointer (some ⟨g2, 0, none⟩)), (3, .pointer (some ⟨g3, 0, none⟩)), (5, v), (10, .int .i64 nt), (11, .int .i64 k)]) (μ := (p.threads.length)) ⟨rfl, 0, none, [], .slice none 0 0, by omega, P1a.nil, S3, rfl⟩ ?_);rintro μk D ε w ⟨rfl, k, G, g0, v, _, e0, S, eZ⟩;refine wK eZ (wB0 rfl ⟨⟩ (fun v0 => ?_) fun v0 => ?_)
 ·obtain ⟨th, t0, z0, _, b0, i0, _, _, j0, n0⟩ := RdS.get (y0) (k) (by omega);obtain ⟨_, _, _, _, _, _, _, p0, _, _, _, _, rfl, _, _, _, _, _, _, _, _, _, _, _, _, _⟩ := N0a.open_ n0;have H0 := (hp.thread b0).nsteps;refine lC (S.k.a j0) [.o 1,.x t0 z0,.f 0 4] rfl ⟨rfl,⟨i0,by omega⟩,rfl,⟨⟩⟩ (wL (fun μj D ε w => D = [] ∧ ∃ j : Nat, ∃ G2 : Option Nat, ∃ cs2 : List Value, ∃ v2 : Value, (j + μj = (th.steps.length)) ∧ (P1a (fun _ _ => S1a) 3 [] w0 G2 cs2 v2 (m2a p 0 c k ++ p2a p 0 c k j)) ∧ St [] w0 w [(some g3, 38, [.slice Xm xm ym, .slice Xa xa ya, .slice Xb xb yb]), (some g2, 27, [.slice Ac nc cc, .slice Am nm cm, .slice Al nl cl, .slice At nt ct]), (G2, 44, cs2)] ∧ Sl ε [(2, .pointer (some ⟨g2, 0, none⟩)), (3, .pointer (some ⟨g3, 0, none⟩)), (5, v2), (6, .int .i64 k), (10, .int .i64 nt), (11, .int .i64 k), (20, .int .i64 p0), (21, .int .i64 j)]) (μ := (th.steps.length)) ⟨rfl, 0, G, g0, v, by omega, by simpa [p2a] using e0, S, rfl⟩ ?_);rintro μj D ε w ⟨rfl, j, G2, cs2, v2, _, a0, S, eZ⟩;refine wK eZ (wB0 rfl ⟨⟩ (fun x0 => ?_) fun x0 => ?_)
  ·refine lO S.k [.w 1,.w 0] rfl ⟨⟨rfl,rfl⟩,⟨rfl,rfl⟩,⟨⟩⟩ ?_;obtain ⟨s, o0⟩ : ∃ s, th.steps[j]? = some s := ⟨th.steps[j]'(by omega), List.getElem?_eq_getElem _⟩;refine y0a S g5c rfl rfl (U9a p c k j th s M _ _ _ (hI.keep (S.keep0 M)) (hX.keep (S.keep0 M)) hf he b0 o0) (fun h0 A0 f0 s0 => ?_) (fun h0 A0 f0 s0 => ?_)
   ·refine lOn 4 f0.k [] rfl ⟨⟩ (m1a (by conv => lhs; whnf) rfl ?_);refine lO0 rfl ⟨⟩ (j1a Z7b (vs := [(0, .int .i64 _), (1, .int .i64 _)]) (cs := [_, _, _]) rfl rfl rfl rfl ?_);refine E0a f0 r3a (vs := [.agg _]) (cs := [_, _, _]) (by rfl) rfl rfl rfl rfl rfl rfl ?_;intro G0 J0 q0 E0 C0;have l1 := I2a hp hf 0 k (by omega);have l2 := e5a p 0 c k j;refine C1a T1a (k := 3) (M2 := []) (e1 := ⟨k, j, 0⟩) q0 r3a (by decide) rfl a0 rfl rfl (q0.cells 0 rfl) (S1a.of (by unfold i64; omega) (by unfold i64; omega) (by unfold i64; omega)) (by rw [List.length_append]; omega) rfl ?_;intro I0 D0 u0 K0 r0 d0 F0 B0;refine T0a (by conv => lhs; whnf) rfl ?_;refine lP0 rfl ⟨by omega,⟨⟩⟩ ⟨μj - 1, by omega, rfl, (j + 1), (_), (_), (_), (by omega), ?_, r0.tail, rfl⟩;rw [F9a b0 o0 h0, ← List.append_assoc]; exact d0
   refine lP0 rfl ⟨by omega,⟨⟩⟩ ⟨μj - 1, by omega, rfl, (j + 1), (_), (_), (_), (by omega), ?_, f0, rfl⟩;rw [q0b b0 o0 h0]; exact a0
  refine lP0 rfl ⟨by omega,⟨⟩⟩ ⟨μk - 1, by omega, rfl, (k + 1), (_), (_), (_), (by omega), ?_, S, rfl⟩;rw [r4a, D6a, z2a b0, he.getD];rw [show th.steps.length = j by omega];rw [show p2a p 0 c k j ++ f3a 0 c k ([] : List G0a).length = p2a p 0 c k j by simp [f3a]];exact a0
 refine lOn 8 S.k [] rfl ⟨⟩ (m1a (by conv => lhs; whnf) rfl ?_);refine T0a (by conv => lhs; whnf) rfl ?_;refine lR0 rfl ⟨⟩ (q0a rfl (by conv => lhs; whnf) ?_);obtain rfl : k = p.threads.length := by omega
 have l1 := I2a hp hf 0 _ (Nat.le_refl _);rw [N6a] at l1;exact ⟨P1a.rd (M := M) T1a e0 S (k := 2) rfl (fun g hg => by subst hg; exact U0a hI.lt (S.new 2 rfl)) (by omega), S.fin⟩
theorem J7a (p : f0a) (c : r0a) (M : List Nat) (w0 : World) (cs xs : List Value) (hI : InP p M w0 cs) (hX : t0a M w0 c xs) (hf : F3a p c) (he : T3a c) :
 M0a Tryz.prog 105 #[.agg cs.toArray, .agg xs.toArray] w0 fun v w' => w1c M w' v (H0a p 0 c) ∧ Below w0.heap.size w0 w' := by
 obtain ⟨_, _, _, _, _, _, _, _, _, _, _, _, rfl, _, _, _, _, _, _, _, _, _, _, _, _⟩ := hI.rd.open_;obtain ⟨_, _, _, _, _, _, _, _, _, rfl, _, _, _, _, _, _, _, _, _⟩ := hX.open_;have S := St.refl w0;refine a0a Tryz.func105 rfl Tryz.ntmps105 rfl ?_;refine wO0 rfl ⟨⟩ (j0a S (by conv => lhs; whnf) rfl ?_);intro g2 w2 S2 X2 G2;refine j0a S2 (by conv => lhs; whnf) rfl ?_;intro g3 w3 S3 X3 G3;refine lO S3.k [.w 1] rfl ⟨⟨rfl,by rfl⟩,⟨⟩⟩ (g0a S3 s1b rfl rfl (n4a p M _ _ (hI.keep (S3.keep0 M))) ?_);intro w6 S6 X6;refine lO S6.k [.w 1,.w 0] rfl ⟨⟨rfl,by rfl⟩,⟨rfl,by rfl⟩,⟨⟩⟩ (g0a S6 p5b rfl rfl (z6a p c M _ _ _ (hI.keep (S6.keep0 M)) (hX.keep (S6.keep0 M)) hf he) ?_);intro g0 a0 d0;refine lO a0.k [.w 1,.w 0] rfl ⟨⟨rfl,by rfl⟩,⟨rfl,by rfl⟩,⟨⟩⟩ (B0a a0 u4b rfl rfl (u4a p c M _ _ _ (hI.keep (a0.keep0 M)) (hX.keep (a0.keep0 M)) hf he) ?_);rintro f0 h0 hr b0 e0;refine T0a (by conv => lhs; whnf) rfl ?_;refine lR0 rfl ⟨⟩ (q0a rfl (by conv => lhs; whnf) ?_);exact ⟨hr, b0.fin⟩
theorem V9a (p : f0a) (c : r0a) (t i : Nat) (th : Q0a) (s : t1a) (M : List Nat) (w0 : World) (cs xs : List Value) (hI : InP p M w0 cs) (hX : t0a M w0 c xs) (hf : F3a p c) (he : T3a c) (f0 : p.threads[t]? = some th) (x0 : th.steps[i]? = some s) (p0 : F3a p (doC p 0 c ⟨t, i, 0⟩)) :
 M0a Tryz.prog 145 #[.agg cs.toArray, .agg xs.toArray, .agg #[.int .i64 t, .int .i64 i, .int .i64 0]] w0 fun v w' => (∃ ys, v = .agg ys.toArray ∧ t0a M w' (doC p 0 c ⟨t, i, 0⟩) ys) ∧ Below w0.heap.size w0 w' := by
 obtain ⟨Ac, nc, cc, Am, nm, cm, Al, nl, cl, At, nt, ct, rfl, _, _, _, M1, _, _, _, _, _, _, _, _⟩ := hI.rd.open_;obtain ⟨Xm, xm, ym, Xa, xa, ya, Xb, xb, yb, rfl, j0, K1, _, t1, v0, s1, b1, b2, b3⟩ := hX.open_;have S := St.refl w0;have f1 := hf.mem.len;have f2 := hf.nat;have f3 := hf.nbuf;have hp := hI.ok;have n1 := hp.ncells;have n2 := hp.nthreads;have ht := R1a f0;have hi := R1a x0;have r1 := (hp.thread f0).steps s (c0a x0);have P1 : 6 ≤ s.kind → 0 ≤ s.target ∧ s.target < p.threads.length := fun h => (r1.row.k6 h).1;refine a0a Tryz.func145 rfl Tryz.ntmps145 rfl ?_;refine wO0 rfl ⟨⟩ (j0a S (by conv => lhs; whnf) rfl ?_);intro g3 w3 S3 X3 G3;refine j0a S3 (by conv => lhs; whnf) rfl ?_;intro g4 w4 S4 X4 G4;refine j0a S4 (by conv => lhs; whnf) rfl ?_;intro g5 w5 S5 X5 G5;refine n0a S5 U5a rfl rfl ?_;intro g6 w6 S6 X6 G6;refine lC0 rfl ⟨⟩ (w3c b0a [0, 1, 2, 3, 4, 5, 6, 7, 8, 9, 10, 11, 12, 13] 14 (by kernel_rfl) (by kernel_rfl) (Cl _ _ _ _) (Cl.start S6) _ rfl ?_);refine g5a rfl rfl ?_;refine F0a M4b rfl rfl ?_;refine d0a ?_;refine g5a rfl rfl ?_;refine h0a O3a rfl (fun w1 hw => by exact hw.1.cell 2 rfl rfl) rfl ?_;refine d0a ?_;refine T0b rfl Y0a.slT rfl rfl ?_;refine O7a (n := xm) (c := xm) rfl rfl rfl Y0a rfl rfl (by omega) (by omega) (by omega) rfl ?_;intro m1 A1 X0;refine g5a rfl rfl ?_;refine F0a w4b rfl rfl ?_;refine d0a ?_;refine g5a rfl rfl ?_;refine h0a O3a rfl (fun w1 hw => by exact hw.1.cell 2 rfl rfl) rfl ?_;refine d0a ?_;refine T0b rfl Y0a.slT rfl rfl ?_;refine O7a (n := xa) (c := xa) rfl rfl rfl Y0a rfl rfl (by omega) (by omega) (by omega) rfl ?_;intro o1 B1 Y0;refine g5a rfl rfl ?_;refine F0a a5a rfl rfl ?_;refine d0a ?_;refine g5a rfl rfl ?_;refine h0a o6a rfl (fun w1 hw => by exact hw.1.cell 2 rfl rfl) rfl ?_;refine d0a ?_;refine T0b rfl P4a.slT rfl rfl ?_;refine O7a (n := xb) (c := xb) rfl rfl rfl P4a rfl rfl (by omega) (by omega) (by omega) rfl ?_;intro p1 C1 Z0;refine g5a rfl rfl ?_;refine h2a o5a (vs := [(0, .slice _ _ _), (1, .slice _ _ _), (2, .slice _ _ _)]) (cs := [_, _, _]) rfl rfl rfl rfl ?_;refine d0a ?_;refine E5b rfl rfl rfl U5a rfl ?_;intro g7 G7 Q1;refine N5b ?_;rintro m2 ⟨g0, _⟩ ⟨⟨⟨⟨-, N0⟩, O0⟩, P0⟩, N1⟩;clear X0;replace g0 := g0.push_new S6 N0 A1;replace g0 := g0.push_more (L1 := [_]) S6 O0 B1 (by simpa [eq_comm] using Y0);replace g0 := g0.push_more (L1 := [_, _]) S6 P0 C1 (by simpa [eq_comm] using Z0);replace g0 := g0.push_more (L1 := [_, _, _]) S6 N1 G7 (by simpa [eq_comm] using Q1);refine e0a (kk := 0) (vs := [_, _, _]) g0 S2a rfl rfl rfl rfl rfl rfl rfl ?_;intro x1 d0 h1;dsimp only [k0a, List.set] at d0;refine S0a ⟨rfl, ?_⟩;refine fO d0.k [.o 0,.o 6] rfl ⟨rfl,rfl,⟨⟩⟩ (b9b (k := 3) d0 Y0a rfl rfl rfl (by simp) (j0.keep (d0.keep0 M)) rfl ?_);intro i2 A0 a2;refine lO A0.k [.o 0,.o 6] rfl ⟨rfl,rfl,⟨⟩⟩ (b9b (k := 2) A0 Y0a rfl rfl rfl (by simp) (K1.keep (A0.keep0 M)) rfl ?_);intro j2 B0 d2;refine lC0 rfl ⟨⟩ (D0a b0a [0, 1, 2, 3, 4, 5, 6, 7, 8, 9, 10] [11] [12] (by kernel_rfl) rfl (Cl _ _ _ _) (Cl.start B0) ?_);obtain ⟨_, G1, T1, _, V0, F0, _, _, J0, S0⟩ := RdS.get (M1) (t) (by omega);obtain rfl := Option.some.inj (f0.symm.trans V0);obtain ⟨_, _, _, _, _, _, _, _, _, _, _, _, rfl, _, _, _, u0, _, _, _, _, _, _, _, _, _⟩ := N0a.open_ S0;obtain ⟨_, H1, U1, _, W0, G0, _, Q0, K0, T0⟩ := RdS.get (u0) (i) (by omega);obtain rfl := Option.some.inj (x0.symm.trans W0);obtain ⟨z0, a1, D0, q0, o0, t0, rfl, ⟨_, _, _, _, _⟩, _, n0, _, _⟩ := n2a.open_ T0;refine qN ((B0.q.a K0).a J0) [.o 7,.o 5,.x G1 T1,.f 0 4,.o 5,.x H1 U1,.v 1] rfl ⟨⟨rfl,Q0⟩,⟨G0,by omega⟩,rfl,rfl,⟨F0,by omega⟩,rfl,rfl,⟨⟩⟩ (t5a ?_);refine t2b rfl rfl t7b rfl ?_;refine q2a ?_;rintro o2 ⟨C0, _⟩;intro g8 O1 G8 R1;dsimp only [K3a];clear R1;replace C0 := C0.push_new B0 O1 G8;refine e0a (kk := 0) (vs := [_, _, _, _, _, _, _, _, _, _, _]) C0 A7b rfl rfl rfl rfl rfl rfl rfl ?_;intro y1 e0 i1;dsimp only [k0a, List.set] at e0;refine lC e0.k [.o 0] rfl ⟨rfl,⟨⟩⟩ (wL (fun μk D ε w => D = [] ∧ ∃ k : Nat, (k + μk = (s.set.length)) ∧ St [] w0 w [(some g8, 90, [.int .i64 s.kind, .int .i64 s.frm, .int .i64 s.to, .int .i64 s.guard.op, .int .i64 s.guard.w, .int .i64 s.guard.n, .slice z0 a1 D0, .slice q0 o0 t0, .bool s.release, .int .i64 s.target, .int .i64 s.module_]), (some g7, 38, [.slice (some ⟨m1, 0, none⟩) xm xm, .slice (some ⟨o1, 0, none⟩) xa xa, .slice (some ⟨p1, 0, none⟩) xb xb]), (some p1, 79, List.replicate xb (.slice none 0 0)), (some o1, 3, c.at_.map (Value.int .i64)), (some m1, 3, (z7a (s.set.take k) c.mem c.mem).map (Value.int .i64)), (some g6, 38, [.slice none 0 0, .slice none 0 0, .slice none 0 0]), (some g5, 44, [.int .i64 t, .int .i64 i, .int .i64 0]), (some g4, 38, [.slice Xm xm ym, .slice Xa xa ya, .slice Xb xb yb]), (some g3, 27, [.slice Ac nc cc, .slice Am nm cm, .slice Al nl cl, .slice At nt ct])] ∧ Sl ε [(4, .pointer (some ⟨g4, 0, none⟩)), (5, .pointer (some ⟨g5, 0, none⟩)), (6, .pointer (some ⟨g6, 0, none⟩)), (7, .pointer (some ⟨g7, 0, none⟩)), (8, .pointer (some ⟨g8, 0, none⟩)), (46, .slice q0 o0 t0), (47, .int .i64 o0), (48, .int .i64 k)]) (μ := (s.set.length)) ⟨rfl, 0, by omega, e0, rfl⟩ ?_);rintro μk D ε w ⟨rfl, k, _, S, eZ⟩;refine wK eZ (wB0 rfl ⟨⟩ (fun J1 => ?_) fun J1 => ?_)
 ·obtain ⟨a, I1, V1, _, v0, H0, _, R0, L0, U0⟩ := RdS.get (n0) (k) (by omega);obtain ⟨_, _, _, rfl, _, I0⟩ := R0a.open_ U0;have q1 := (r1.set a (c0a v0)).1;unfold t2a at q1;refine lO (S.k.a L0) [.x I1 V1,.v 0] rfl ⟨⟨rfl,R0⟩,⟨H0,by omega⟩,⟨⟩⟩ (n0a S q2b rfl rfl ?_);intro g2 h2 D1 Z1 Y1;refine e0a (kk := 0) (vs := [_, _, _, _, _]) D1 Q2b rfl rfl rfl rfl rfl rfl rfl ?_;intro W1 i0 F1;dsimp only [k0a, List.set] at i0;refine lC0 rfl ⟨⟩ (D0a b0a [0, 1, 2, 3, 4, 5, 6, 7, 8, 9, 10, 11] [] [12] (by kernel_rfl) rfl (Cl _ _ _ _) (Cl.start i0) ?_);refine qO i0.q [.o 2,.o 0,.o 0,.o 8,.o 8] rfl ⟨rfl,rfl,rfl,rfl,rfl,⟨⟩⟩ (F2a c0b rfl rfl (fun w1 S1 X1 => b8a a.to M _ _ _ _ c.mem c.mem (RdE.keep (S1.keep0 M) _ _ I0) (hI.keep (S1.keep0 M)).msk (j0.keep (S1.keep0 M)) (j0.keep (S1.keep0 M))) ?_);refine m0a Y0a.slT rfl (by rfl) rfl (by omega) (by omega) rfl ?_;refine qD rfl ⟨⟩ ?_;rintro p2 ⟨E1, _⟩
  first | refine I0a (kk := 5) E1 c1b rfl (by conv => lhs; whnf) rfl rfl (by (simp; omega)) ?_
  intro z1 r0 j1;refine lP0 rfl ⟨by omega,⟨⟩⟩ ⟨μk - 1, by omega, rfl, (k + 1), (by omega), (r0.tail.setEnt 4 rfl (z0c v0 (by simp))), rfl⟩
 refine lO S.k [.o 1,.o 6,.o 0] rfl ⟨rfl,rfl,rfl,⟨⟩⟩ (x0a Y0a.slT rfl (by rfl) rfl (by omega) (by omega) rfl ?_)
 first | refine I0a (kk := 3) S c1b rfl (by conv => lhs; whnf) rfl rfl (by (simp; omega)) ?_
 intro u1 a0 d1;refine lB a0.k [.o 0] rfl ⟨rfl,⟨⟩⟩ (fun E0 => ?_) fun E0 => ?_
 ·refine lO a0.k [.o 1,.o 0] rfl ⟨rfl,rfl,⟨⟩⟩ ?_;have q6 := P1 (by omega);refine x0a Y0a.slT rfl (by rfl) rfl (by omega) (by omega) rfl ?_
  first | refine I0a (kk := 3) a0 c1b rfl (by conv => lhs; whnf) rfl rfl (by (simp; omega)) ?_
  intro v1 h0 g1;refine lO h0.k [.w 1] rfl ⟨⟨rfl,rfl⟩,⟨⟩⟩ ?_
  first | refine e0a (kk := 5) (vs := [_, _, _]) h0 S2a rfl rfl rfl rfl rfl rfl rfl ?_
  intro y0 b0 s0;dsimp only [k0a, List.set] at b0;refine lR0 rfl ⟨⟩ ?_;have SF := (b0.setEnt 3 rfl (show _ = (atC c t s).map (Value.int .i64) by simp [atC, E0, List.map_set])).setEnt 4 rfl (show _ = (z7a s.set c.mem c.mem).map (Value.int .i64) by rw [List.take_of_length_le (by omega)]);rw [W9c he f0 x0] at p0 ⊢;exact r1a (n := 3) rfl o1a rfl (SF.cells 5 rfl) rfl ⟨⟨_, rfl, _, _, _, rfl, SF.rdInts 4 rfl (U0a hI.lt (SF.new 4 rfl)) (by simp [t1]) b1 (d5a hp p0.mem), SF.rdInts 3 rfl (U0a hI.lt (SF.new 3 rfl)) (by rw [H5a]; exact v0) b2 (v8a hp p0), SF.rdBufs 2 rfl (U0a hI.lt (SF.new 2 rfl)) s1 b3 he⟩, SF.fin⟩
 refine lO a0.k [.w 1] rfl ⟨⟨rfl,rfl⟩,⟨⟩⟩ ?_
 first | refine e0a (kk := 5) (vs := [_, _, _]) a0 S2a rfl rfl rfl rfl rfl rfl rfl ?_
 intro y0 b0 s0;dsimp only [k0a, List.set] at b0;refine lR0 rfl ⟨⟩ ?_;have SF := (b0.setEnt 3 rfl (show _ = (atC c t s).map (Value.int .i64) by simp [atC, E0, List.map_set])).setEnt 4 rfl (show _ = (z7a s.set c.mem c.mem).map (Value.int .i64) by rw [List.take_of_length_le (by omega)]);rw [W9c he f0 x0] at p0 ⊢;exact r1a (n := 3) rfl o1a rfl (SF.cells 5 rfl) rfl ⟨⟨_, rfl, _, _, _, rfl, SF.rdInts 4 rfl (U0a hI.lt (SF.new 4 rfl)) (by simp [t1]) b1 (d5a hp p0.mem), SF.rdInts 3 rfl (U0a hI.lt (SF.new 3 rfl)) (by rw [H5a]; exact v0) b2 (v8a hp p0), SF.rdBufs 2 rfl (U0a hI.lt (SF.new 2 rfl)) s1 b3 he⟩, SF.fin⟩
theorem c7c {p : f0a} {m : Int} {c : r0a} (he : T3a c) {x : A0a} (hx : x ∈ H0a p m c) : ∃ (t i : Nat) (th : Q0a) (s : t1a), x = ⟨t, i, 0⟩ ∧ p.threads[t]? = some th ∧ th.steps[i]? = some s ∧ K0a p m c t s = true := by
 obtain ⟨t, ht, h | h⟩ := p1a.1 hx
 ·obtain ⟨i, s, hs, he, rfl⟩ := h;have a0 : p.threads[t]? = some p.threads[t] := List.getElem?_eq_getElem ht;rw [z2a a0] at hs;exact ⟨t, i, _, s, rfl, a0, hs, he⟩
 ·obtain ⟨i, h1, -⟩ := h;rw [he.getD] at h1; simp at h1
theorem R3b (p : f0a) (c : r0a) (x : A0a) (M : List Nat) (w0 : World) (cs xs : List Value) (hI : InP p M w0 cs) (hX : t0a M w0 c xs) (hf : F3a p c) (he : T3a c) (hx : x ∈ H0a p 0 c) :
 M0a Tryz.prog 110 #[.agg cs.toArray, .agg xs.toArray, .agg #[.int .i64 x.thread, .int .i64 x.step, .int .i64 x.cell]] w0 fun v w' => (∃ ys, v = .tuple #[.agg ys.toArray, .int .i64 0] ∧ t0a M w' (doC p 0 c x) ys) ∧ Below w0.heap.size w0 w' := by
 obtain ⟨t, i, th, s, rfl, r0, B0, _⟩ := c7c he hx;have A0 := O5b hI.ok hf hx;obtain ⟨Ac, nc, cc, Am, nm, cm, Al, nl, cl, At, nt, ct, rfl, _, _, _, _, _, _, _, _, _, _, _, _⟩ := hI.rd.open_;obtain ⟨Xm, xm, ym, Xa, xa, ya, Xb, xb, yb, rfl, _, _, _, _, _, _, _, _, _⟩ := hX.open_;have S := St.refl w0;refine a0a Tryz.func110 rfl Tryz.ntmps110 rfl ?_;refine wO0 rfl ⟨⟩ (j0a S (by conv => lhs; whnf) rfl ?_);intro g3 w3 S3 X3 G3;refine j0a S3 (by conv => lhs; whnf) rfl ?_;intro g4 w4 S4 X4 G4;refine j0a S4 (by conv => lhs; whnf) rfl ?_;intro g5 w5 S5 X5 G5;refine n0a S5 U5a rfl rfl ?_;intro g6 w6 S6 X6 G6;refine lO S6.k [.w 3] rfl ⟨⟨rfl,rfl⟩,⟨⟩⟩ (g0a S6 s1b rfl rfl (n4a p M _ _ (hI.keep (S6.keep0 M))) ?_);intro O0 f0 H0;refine lO f0.k [.w 3,.w 2] rfl ⟨⟨rfl,rfl⟩,⟨rfl,rfl⟩,⟨⟩⟩ (g0a f0 p5b rfl rfl (z6a p c M _ _ _ (hI.keep (f0.keep0 M)) (hX.keep (f0.keep0 M)) hf he) ?_);intro P0 g0 I0;refine lO g0.k [.w 3,.w 2] rfl ⟨⟨rfl,rfl⟩,⟨rfl,rfl⟩,⟨⟩⟩ (B0a g0 u4b rfl rfl (u4a p c M _ _ _ (hI.keep (g0.keep0 M)) (hX.keep (g0.keep0 M)) hf he) ?_);rintro L0 t0 hr u0 J0;obtain ⟨Ar, nr, cr, rfl⟩ := hr.form;obtain ⟨_, -, _⟩ := hr.len;have b0 := w0a.refl [] t0;refine lC0 rfl ⟨⟩ (wL (fun μk D ε w => D = [] ∧ ∃ k : Nat, (k + μk = ((H0a p 0 c).length)) ∧ (w0a [] t0 w) ∧ (v1a (H0a p 0 c) k (fun y => y ≠ ⟨t, i, 0⟩)) ∧ St [] w0 w [(some g6, 38, [.slice none 0 0, .slice none 0 0, .slice none 0 0]), (some g5, 44, [.int .i64 t, .int .i64 i, .int .i64 0]), (some g4, 38, [.slice Xm xm ym, .slice Xa xa ya, .slice Xb xb yb]), (some g3, 27, [.slice Ac nc cc, .slice Am nm cm, .slice Al nl cl, .slice At nt ct])] ∧ Sl ε [(3, .pointer (some ⟨g3, 0, none⟩)), (4, .pointer (some ⟨g4, 0, none⟩)), (5, .pointer (some ⟨g5, 0, none⟩)), (6, .pointer (some ⟨g6, 0, none⟩)), (22, .slice Ar nr cr), (23, .int .i64 nr), (24, .int .i64 k)]) (μ := ((H0a p 0 c).length)) ⟨rfl, 0, by omega, b0, v1a.zero, u0, rfl⟩ ?_);rintro μk D ε w ⟨rfl, k, _, b0, hs, S, eZ⟩;refine wK eZ (wB0 rfl ⟨⟩ (fun z0 => ?_) fun z0 => ?_)
 ·obtain ⟨y, y0, D0, _, C0, n0, _, p0, o0, q0⟩ := RdS.get ((hr.keep b0.of_nil)) (k) (by omega);obtain ⟨rfl, _, _, _⟩ := id q0;refine lO (S.k.b o0) [.x y0 D0,.v 0] rfl ⟨⟨rfl,p0⟩,⟨n0,by omega⟩,⟨⟩⟩ (n0a S s6c rfl rfl ?_);intro g9 w9 S9 X9 G9;have e0 := Nat.le_trans b0.size G9;replace b0 := b0.trans X9;refine e0a (kk := 0) (vs := [_, _, _]) S9 E4b rfl rfl rfl rfl rfl rfl rfl ?_;intro E0 a0 i0;dsimp only [k0a, List.set] at a0;replace b0 := b0.fresh i0 (by first | exact e0);refine lOn 6 a0.k [.w 2,.w 0] rfl ⟨⟨rfl,by rfl⟩,⟨rfl,rfl⟩,⟨⟩⟩ (E3c X2b rfl rfl rfl (fun s0 => ?_) fun s0 => ?_)
  ·refine lO a0.k [.w 4,.w 3,.w 2] rfl ⟨⟨rfl,rfl⟩,⟨rfl,rfl⟩,⟨rfl,rfl⟩,⟨⟩⟩ (B0a a0 M4c rfl rfl (V9a p c t i th s (g6 :: M) _ _ _ (hI.add a0 (k := 1) rfl) (t0a.add hX a0 (k := 1) rfl) hf he r0 B0 A0) ?_);rintro N0 Q0 ⟨ys, rfl, hy⟩ v0 K0;obtain ⟨_, _, _, _, _, _, _, _, _, rfl, -⟩ := hy.open_
   first | refine e0a (kk := 1) (vs := [_, _, _]) v0 S2a rfl rfl rfl rfl rfl rfl rfl ?_
   intro F0 d0 j0;dsimp only [k0a, List.set] at d0;replace hy := hy.keep (j0.mono (by simp));exact lR0 rfl ⟨⟩ (p4a (n := 3) rfl o1a rfl (d0.cells 1 rfl) rfl rfl ⟨⟨_, rfl, hy.less (fun g hg => List.mem_cons_of_mem _ hg)⟩, d0.fin⟩)
  refine lP0 rfl ⟨by omega,⟨⟩⟩ ?_;refine ⟨μk - 1, by omega, rfl, (k + 1), (by omega), (b0), (hs.succ C0 (fun h => s0 (by rw [h]; exact ⟨rfl, rfl, rfl⟩))), a0.tail, rfl⟩
 refine lO0 rfl ⟨⟩ (j1a o5a (vs := []) (cs := [_, _, _]) rfl rfl rfl rfl ?_);refine e0a (kk := 0) (vs := [_, _, _]) S S2a rfl rfl rfl rfl rfl rfl rfl ?_;intro G0 h0 x0;dsimp only [k0a, List.set] at h0;exact lR0 rfl ⟨⟩ (absurd rfl (hs.all (by omega) _ hx))
theorem RdS.take {α : Type} {M : List Nat} {w : World} {size : Nat} {R : List Value → α → Prop} {A : Option Addr} {n c : Nat} {l : List α} (h : RdS M w size R (.slice A n c) l) (i : Nat) (hi : i ≤ n) : RdS M w size R (.slice A i c) (l.take i) := by
 obtain ⟨_, _, _, he, _, _, h3, _, h5⟩ := h;cases he;refine ⟨_, _, _, rfl, by rw [List.length_take]; omega, by omega, h3, by omega, fun h0 => ?_⟩;obtain ⟨b, o, hA, hb, a0⟩ := h5 (by omega);refine ⟨b, o, hA, hb, fun j x hx => a0 j x ?_⟩;rw [List.getElem?_take] at hx
 split at hx
 ·exact hx
 ·cases hx
theorem V1c {l : List Int} (h : l.Nodup) {k : Nat} {x : Int} (hx : l[k]? = some x) : x ∉ l.take k := fun hh => by
 obtain ⟨i, hi, he⟩ := List.getElem_of_mem hh;rw [List.length_take] at hi;obtain ⟨hk, hx⟩ := List.getElem?_eq_some_iff.1 hx;rw [List.getElem_take] at he;exact (List.pairwise_iff_getElem.1 h i k (by omega) hk (by omega)) (he.trans hx.symm)
theorem k6b {a b : List Int} {k : Nat} {x y : Int} (hx : a[k]? = some x) (hy : b[k]? = some y) : (x, y) ∈ a.zip b := List.mem_of_getElem? (i := k) (by rw [List.getElem?_zip_eq_some]; exact ⟨hx, hy⟩)
theorem T8b (M : List Nat) (w0 : World) (v : Value) (l : List Int) (a : Int) (hR : RdI M w0 v l) :
 M0a Tryz.prog 171 #[v, .int .i64 a] w0 fun v w' => (∃ n, v = .int .i64 n ∧ (0 ≤ n ↔ a ∈ l)) ∧ Below w0.heap.size w0 w' := by
 obtain ⟨A, n, c, rfl⟩ := hR.form;obtain ⟨_, _, _⟩ := hR.len;have S := St.refl w0;refine a0a Tryz.func171 rfl Tryz.ntmps171 rfl ?_;refine wC0 rfl ⟨⟩ (wL (fun μk D ε w => D = [] ∧ ∃ k : Nat, (k + μk = (l.length)) ∧ (v1a (l) k (fun x => a ≠ x)) ∧ St [] w0 w [] ∧ Sl ε [(0, .slice A n c), (1, .int .i64 a), (7, .int .i64 n), (8, .int .i64 k)]) (μ := (l.length)) ⟨rfl, 0, by omega, v1a.zero, S, rfl⟩ ?_);rintro μk D ε w ⟨rfl, k, _, ha, S, eZ⟩;refine wK eZ (wB0 rfl ⟨⟩ (fun h9 => ?_) fun h9 => ?_)
 ·obtain ⟨x, g0, h0, _, f0, b0, _, _, d0, e0⟩ := RdS.get (hR) (k) (by omega);obtain ⟨rfl, _⟩ := id e0;refine lB (S.k.a d0) [.x g0 h0,.f 0 0] rfl ⟨rfl,⟨b0,by omega⟩,⟨⟩⟩ (fun a0 => ?_) fun a0 => ?_
  ·exact lT rfl ⟨⟩ rfl ⟨⟨_, rfl, ⟨fun _ => a0 ▸ c0a f0, fun _ => by omega⟩⟩, S.fin⟩
  refine lP0 rfl ⟨by omega,⟨⟩⟩ ⟨μk - 1, by omega, rfl, (k + 1), (by omega), (ha.succ f0 (a0)), S, rfl⟩
 exact lT rfl ⟨⟩ rfl ⟨⟨_, rfl, ⟨fun h => by omega, fun h => absurd rfl (ha.all (by omega) a h)⟩⟩, S.fin⟩
theorem B8a (M : List Nat) (w0 : World) (v : Value) (l : List Int) (a : Int) (hR : RdI M w0 v l) :
 M0a Tryz.prog 159 #[v, .int .i64 a] w0 fun v w' => v = .bool (decide (a ∈ l)) ∧ Below w0.heap.size w0 w' := by
 obtain ⟨_, _, _, rfl⟩ := hR.form;have S := St.refl w0;refine a0a Tryz.func159 rfl Tryz.ntmps159 rfl ?_;refine wO0 rfl ⟨⟩ (B0a S L3c rfl rfl (T8b M _ _ l a (hR.keep (S.keep0 M))) ?_);rintro v7 w7 ⟨_, rfl, hm⟩ S7 X7;refine lB0 rfl ⟨⟩ (fun h8 => ?_) fun h8 => ?_
 ·refine lR0 rfl ⟨⟩ (q0a rfl (by conv => lhs; whnf) ?_);exact ⟨by rw [decide_eq_true (hm.1 (by omega))], S7.fin⟩
 refine lR0 rfl ⟨⟩ (q0a rfl (by conv => lhs; whnf) ?_);exact ⟨by rw [decide_eq_false (fun hh => absurd (hm.2 hh) (by omega))], S7.fin⟩
theorem K9a (p : f0a) (M : List Nat) (w0 : World) (cs : List Value) (hI : InP p M w0 cs) :
 M0a Tryz.prog 139 #[.agg cs.toArray] w0 fun v w' => v = .bool true ∧ Below w0.heap.size w0 w' := by
 obtain ⟨_, _, _, _, _, _, _, _, _, _, _, _, rfl, _, _, _, _, _, _, _, _, _, _, _, _⟩ := hI.rd.open_;have S := St.refl w0;refine a0a Tryz.func139 rfl Tryz.ntmps139 rfl ?_;refine wO0 rfl ⟨⟩ (j0a S (by conv => lhs; whnf) rfl ?_);intro g1 w1 S1 X1 G1;refine lO S1.k [.w 0] rfl ⟨⟨rfl,by rfl⟩,⟨⟩⟩ (g0a S1 O9b rfl rfl (b9a p M _ _ (hI.keep (S1.keep0 M)).rd hI.ok (hI.keep (S1.keep0 M)).msk (hI.keep (S1.keep0 M)).lt) ?_);intro w8 S8 X8;refine lB0 rfl ⟨⟩ (fun a0 => ?_) (fun a0 => by exfalso; omega);exact lT rfl ⟨⟩ rfl ⟨rfl, S8.fin⟩
theorem E2b (p : f0a) (en : G0a) (M : List Nat) (w0 : World) (cs es : List Value) (hI : InP p M w0 cs) (hE : V0a M w0 es en) (ho : Z9a p en) :
 M0a Tryz.prog 158 #[.agg cs.toArray, .agg es.toArray] w0 fun v w' => v = .bool true ∧ Below w0.heap.size w0 w' := by
 obtain ⟨Ac, nc, cc, Am, nm, cm, Al, nl, cl, At, nt, ct, rfl, hC, _, _, _, _, _, _, _, _, _, _, _⟩ := hI.rd.open_;obtain ⟨Ec, ec, fc, Ev, Q0, fv, rfl, n0, L0, _, _, _, _⟩ := hE.open_;have S := St.refl w0;have l1 := ho.len;have l2 : en.values.length = en.cells.length := ho.even;have l3 : en.cells.length ≠ 0 := fun h => ho.some_ (List.length_eq_zero_iff.1 h);refine a0a Tryz.func158 rfl Tryz.ntmps158 rfl ?_;refine wO0 rfl ⟨⟩ (j0a S (by conv => lhs; whnf) rfl ?_);intro g2 w2 S2 X2 G2;refine j0a S2 (by conv => lhs; whnf) rfl ?_;intro g3 w3 S3 X3 G3;refine lB S3.k [.o 0] rfl ⟨rfl,⟨⟩⟩ (fun R0 => by exfalso; omega) fun R0 => ?_;refine lB S3.k [.o 0,.o 1] rfl ⟨rfl,rfl,⟨⟩⟩ (fun S0 => by exfalso; omega) fun S0 => ?_;refine lB S3.k [.o 0,.o 0] rfl ⟨rfl,rfl,⟨⟩⟩ (fun T0 => by exfalso; omega) fun T0 => ?_;refine lC S3.k [.o 0] rfl ⟨rfl,⟨⟩⟩ (wL (fun μk D ε w => D = [] ∧ ∃ k : Nat, (k + μk = (en.cells.length)) ∧ St [] w0 w [(some g3, 81, [.slice Ec ec fc, .slice Ev Q0 fv]), (some g2, 27, [.slice Ac nc cc, .slice Am nm cm, .slice Al nl cl, .slice At nt ct])] ∧ Sl ε [(2, .pointer (some ⟨g2, 0, none⟩)), (3, .pointer (some ⟨g3, 0, none⟩)), (31, .slice Ec ec fc), (32, .int .i64 ec), (33, .int .i64 k)]) (μ := (en.cells.length)) ⟨rfl, 0, by omega, S3, rfl⟩ ?_);rintro μk D ε w ⟨rfl, k, _, S, eZ⟩;refine wK eZ (wB0 rfl ⟨⟩ (fun U0 => ?_) fun U0 => ?_)
 ·obtain ⟨x, q0, H0, _, o0, g0, _, _, z0, D0⟩ := RdS.get (n0) (k) (by omega);obtain ⟨rfl, _⟩ := id D0;have q1 := ho.cells k x o0;obtain ⟨q2, q3, q4⟩ := q1;unfold t2a at q2;have x0 : RdI M w0 (.slice (some ⟨q0, H0, none⟩) ec fc) en.cells := g0 ▸ n0;refine lB (S.k.a z0) [.x q0 H0,.f 0 0] rfl ⟨rfl,⟨g0,by omega⟩,⟨⟩⟩ (fun V0 => by exfalso; omega) fun V0 => ?_;refine lB S.k [.o 1] rfl ⟨rfl,⟨⟩⟩ (fun W0 => by exfalso; omega) fun W0 => ?_;refine lO S.k [.o 0] rfl ⟨rfl,⟨⟩⟩ ?_;refine B6c (k := k) Y0a.slT (show _ = Value.slice (some ⟨q0, H0, none⟩) ec fc by rw [← g0]; rfl) rfl (by have := n0.len; omega) n0.len.2.1 rfl ?_;refine lO0 rfl ⟨⟩ (g0a S v0c rfl rfl ((B8a M _ _ (en.cells.take k) x (RdS.take (x0.keep (S.keep0 M)) k (by omega))).mono (fun v w' h => ⟨h.1.trans (by rw [decide_eq_false (V1c ho.once o0)]), h.2⟩)) ?_);intro b1 K0 a1;obtain ⟨f0, O0, Y0, _, b0, v0, _, B0, A0, E0⟩ := RdS.get (hC) (x.toNat) (by omega);obtain ⟨rfl, _, _, _, _⟩ := Z2a.open_ E0;rw [e1a b0] at q3;rw [C2a b0] at q4;have q5 := (hI.ok.cells f0 (c0a b0)).w;refine lO (K0.k.a A0) [.o 1,.x O0 Y0,.v 0] rfl ⟨⟨rfl,B0⟩,⟨v0,by omega⟩,rfl,⟨⟩⟩ (n0a K0 u9b rfl rfl ?_);intro g7 w7 S7 X7 G7;refine e0a (kk := 0) (vs := [_, _, _, _, _, _]) S7 j0c rfl rfl rfl rfl rfl rfl rfl ?_;intro Z0 a0 N0;dsimp only [k0a, List.set] at a0;refine lC0 rfl ⟨⟩ (D0a b0a [0, 1, 2, 3, 4, 5, 6, 7, 8, 9, 10, 11, 12, 13, 14, 15, 16, 17, 18, 19, 20, 21, 22, 23, 24, 25, 26, 27, 28] [] [] (by kernel_rfl) rfl (Cl _ _ _ _) (Cl.start a0) ?_);refine qB a0.q [.o 0] rfl ⟨rfl,⟨⟩⟩ (fun X0 => by exfalso; omega) fun X0 => ?_;refine qO0 rfl ⟨⟩ ?_;rcases (Bool.eq_false_or_eq_true (f0.ghost)).symm with d0 | d0
  ·refine h0a A2a rfl (fun w1 hw => by exact (hw.1.cell 0 rfl rfl).trans (congrArg (fun b => some (Value.bool b)) d0)) rfl ?_;refine qB0 rfl ⟨⟩ (fun s0 => ?_) fun s0 => ?_
   ·refine qD rfl ⟨⟩ ?_;rintro J0 ⟨j0, p0⟩;refine lR0 rfl ⟨⟩ (q0a rfl (by conv => lhs; whnf) ?_);exfalso; rw [d0] at q4; simp at q4; omega
   obtain ⟨y, r0, I0, P0, F0, h0, y0, C0, e0, i0⟩ := RdS.get (L0) (k) (by omega);obtain ⟨rfl, G0⟩ := id i0;have q6 := ho.vals (x, y) (k6b o0 F0);simp only at q6;rw [E5a q2.1 b0, c5a] at q6;refine qB (a0.q.a e0) [.o 1,.x r0 I0,.f 0 0] rfl ⟨rfl,⟨h0,by omega⟩,rfl,⟨⟩⟩ (fun t0 => by exfalso; omega) fun t0 => ?_;refine qO a0.q [.o 1] rfl ⟨rfl,⟨⟩⟩ (m0a Y0a.slT rfl (by assumption) rfl (by omega) (by omega) rfl ?_);refine qO0 rfl ⟨⟩ (h0a C0a rfl (fun w1 hw => by exact hw.1.old (e0 0 _ rfl)) rfl ?_);refine qO a0.q [.o 0] rfl ⟨rfl,⟨⟩⟩ ?_;rw [show f0.w = ((f0.w.toNat : Nat) : Int) by omega];refine y3c (n := f0.w.toNat) rfl (by rfl) (by omega) rfl ?_;refine qB0 rfl ⟨⟩ (fun u0 => by exfalso; omega) fun u0 => ?_;refine qD rfl ⟨⟩ ?_;rintro J0 ⟨j0, p0⟩;refine lP0 rfl ⟨by omega,⟨⟩⟩ ⟨μk - 1, by omega, rfl, (k + 1), (by omega), j0.tail, rfl⟩
  refine h0a A2a rfl (fun w1 hw => by exact (hw.1.cell 0 rfl rfl).trans (congrArg (fun b => some (Value.bool b)) d0)) rfl ?_;refine qB0 rfl ⟨⟩ (fun s0 => ?_) fun s0 => ?_
  ·obtain ⟨y, r0, I0, P0, F0, h0, y0, C0, e0, i0⟩ := RdS.get (L0) (k) (by omega);obtain ⟨rfl, G0⟩ := id i0;have q6 := ho.vals (x, y) (k6b o0 F0);simp only at q6;rw [E5a q2.1 b0, c5a] at q6;refine qB (a0.q.a e0) [.o 1,.x r0 I0,.f 0 0] rfl ⟨rfl,⟨h0,by omega⟩,rfl,⟨⟩⟩ (fun t0 => by exfalso; omega) fun t0 => ?_;refine qO a0.q [.o 1] rfl ⟨rfl,⟨⟩⟩ (m0a Y0a.slT rfl (by assumption) rfl (by omega) (by omega) rfl ?_);refine qO0 rfl ⟨⟩ (h0a C0a rfl (fun w1 hw => by exact hw.1.old (e0 0 _ rfl)) rfl ?_);refine qO a0.q [.o 0] rfl ⟨rfl,⟨⟩⟩ ?_;rw [show f0.w = ((f0.w.toNat : Nat) : Int) by omega];refine y3c (n := f0.w.toNat) rfl (by rfl) (by omega) rfl ?_;refine qB0 rfl ⟨⟩ (fun u0 => by exfalso; omega) fun u0 => ?_;refine qD rfl ⟨⟩ ?_;rintro J0 ⟨j0, p0⟩;refine lP0 rfl ⟨by omega,⟨⟩⟩ ⟨μk - 1, by omega, rfl, (k + 1), (by omega), j0.tail, rfl⟩
  refine qD rfl ⟨⟩ ?_;rintro J0 ⟨j0, p0⟩;refine lR0 rfl ⟨⟩ (q0a rfl (by conv => lhs; whnf) ?_);exfalso; rw [d0] at q4; simp at q4; omega
 exact lT rfl ⟨⟩ rfl ⟨rfl, S.fin⟩
theorem B0b (p : f0a) (c : r0a) (M : List Nat) (w0 : World) (cs xs : List Value) (hI : InP p M w0 cs) (hX : t0a M w0 c xs) (hf : F3a p c) :
 M0a Tryz.prog 140 #[.agg cs.toArray, .agg xs.toArray] w0 fun v w' => v = .bool true ∧ Below w0.heap.size w0 w' := by
 obtain ⟨Ac, nc, cc, Am, nm, cm, Al, nl, cl, At, nt, ct, rfl, hC, _, _, B2, _, _, _, _, _, _, _, _⟩ := hI.rd.open_;obtain ⟨Xm, xm, ym, Xa, xa, ya, Xb, xb, yb, rfl, B1, A2, t0, _, _, b1, _, _, _⟩ := hX.open_;have S := St.refl w0;have f1 := hf.mem.len;have f2 := hf.nat;have f3 := hf.nbuf;refine a0a Tryz.func140 rfl Tryz.ntmps140 rfl ?_;refine wO0 rfl ⟨⟩ (j0a S (by conv => lhs; whnf) rfl ?_);intro g2 w2 S2 X2 G2;refine j0a S2 (by conv => lhs; whnf) rfl ?_;intro g3 w3 S3 X3 G3;refine lB S3.k [.o 0,.o 1] rfl ⟨rfl,rfl,⟨⟩⟩ (fun n2 => by exfalso; omega) fun n2 => ?_;refine lB S3.k [.o 0,.o 1] rfl ⟨rfl,rfl,⟨⟩⟩ (fun o2 => by exfalso; omega) fun o2 => ?_;refine lB S3.k [.o 0,.o 1] rfl ⟨rfl,rfl,⟨⟩⟩ (fun p2 => by exfalso; omega) fun p2 => ?_;refine lC S3.k [.o 0] rfl ⟨rfl,⟨⟩⟩ (wL (fun μk D ε w => D = [] ∧ ∃ k : Nat, (k + μk = (c.mem.length)) ∧ St [] w0 w [(some g3, 38, [.slice Xm xm ym, .slice Xa xa ya, .slice Xb xb yb]), (some g2, 27, [.slice Ac nc cc, .slice Am nm cm, .slice Al nl cl, .slice At nt ct])] ∧ Sl ε [(2, .pointer (some ⟨g2, 0, none⟩)), (3, .pointer (some ⟨g3, 0, none⟩)), (38, .slice Xm xm ym), (39, .int .i64 xm), (40, .int .i64 k)]) (μ := (c.mem.length)) ⟨rfl, 0, by omega, S3, rfl⟩ ?_);rintro μk D ε w ⟨rfl, k, hk, S, eZ⟩;refine wK eZ (wB0 rfl ⟨⟩ (fun r2 => ?_) fun r2 => ?_)
 ·obtain ⟨v, a2, C2, _, o1, v1, _, _, C1, J1⟩ := RdS.get (B1) (k) (by omega);obtain ⟨rfl, _⟩ := id J1;have q1 := hf.mem.vals k v o1;refine lB (S.k.a C1) [.x a2 C2,.f 0 0] rfl ⟨rfl,⟨v1,by omega⟩,⟨⟩⟩ (fun s2 => by exfalso; omega) fun s2 => ?_;obtain ⟨x, b2, D2, _, W1, w1, _, _, D1, K1⟩ := RdS.get (hC) (k) (by omega);obtain ⟨rfl, _, _, _, _⟩ := Z2a.open_ K1;have q2 := (hI.ok.cells x (c0a W1)).w;rw [U9c W1, c5a] at q1;refine lO (S.k.a D1) [.o 1,.x b2 D2,.f 0 1] rfl ⟨rfl,⟨w1,by omega⟩,rfl,⟨⟩⟩ ?_;rw [show x.w = ((x.w.toNat : Nat) : Int) by omega];refine i3c (n := x.w.toNat) rfl (by rfl) (by omega) rfl ?_;refine lB0 rfl ⟨⟩ (fun t2 => by exfalso; omega) fun t2 => ?_;refine lP0 rfl ⟨by omega,⟨⟩⟩ ⟨μk - 1, by omega, rfl, (k + 1), (by omega), S, rfl⟩
 refine lC S.k [.o 0] rfl ⟨rfl,⟨⟩⟩ (wL (fun μk D ε w => D = [] ∧ ∃ k : Nat, (k + μk = (c.at_.length)) ∧ St [] w0 w [(some g3, 38, [.slice Xm xm ym, .slice Xa xa ya, .slice Xb xb yb]), (some g2, 27, [.slice Ac nc cc, .slice Am nm cm, .slice Al nl cl, .slice At nt ct])] ∧ Sl ε [(2, .pointer (some ⟨g2, 0, none⟩)), (3, .pointer (some ⟨g3, 0, none⟩)), (60, .slice Xa xa ya), (61, .int .i64 xa), (62, .int .i64 k)]) (μ := (c.at_.length)) ⟨rfl, 0, by omega, S, rfl⟩ ?_);rintro μk D ε w ⟨rfl, k, hk, S, eZ⟩;refine wK eZ (wB0 rfl ⟨⟩ (fun u2 => ?_) fun u2 => ?_)
 ·obtain ⟨v, d2, E2, _, o1, x1, _, _, E1, M1⟩ := RdS.get (A2) (k) (by omega);obtain ⟨rfl, _⟩ := id M1;obtain ⟨th, h2, F2, _, R1, y1, _, I1, F1, N1⟩ := RdS.get (B2) (k) (by omega);obtain ⟨H0, d1, S0, K0, i1, V0, L0, j1, W0, J0, h1, U0, rfl, _, _, _, _, _, _, _, _, _, _, _, _, _⟩ := N0a.open_ N1;have q1 := hf.atr k v o1 th R1;refine lO ((S.k.a F1).a E1) [.x d2 E2,.f 0 0,.o 1,.x h2 F2,.v 1] rfl ⟨⟨rfl,I1⟩,⟨y1,by omega⟩,rfl,rfl,⟨x1,by omega⟩,⟨⟩⟩ (n0a S Y2b rfl rfl ?_);intro g9 w9 S9 X9 G9;refine e0a (kk := 0) (vs := [_, _, _, _, _, _, _]) S9 k3b rfl rfl rfl rfl rfl rfl rfl ?_;intro X1 b0 V1;dsimp only [k0a, List.set] at b0;refine lB0 rfl ⟨⟩ (fun v2 => by exfalso; omega) fun v2 => ?_;refine lB b0.k [.o 0] rfl ⟨rfl,⟨⟩⟩ (fun x2 => by exfalso; omega) fun x2 => ?_;obtain ⟨b, i2, H2, _, b1, z1, _, _, G1, O1⟩ := RdS.get (t0) (k) (by omega);obtain ⟨_, _, _, rfl, _, _, _⟩ := s5a.open_ O1;have q3 := hf.bufs k b b1;refine lB (b0.k.a G1) [.o 1,.x i2 H2,.f 0 0] rfl ⟨rfl,⟨z1,by omega⟩,rfl,⟨⟩⟩ (fun y2 => by exfalso; omega) fun y2 => ?_;refine lB0 rfl ⟨⟩ (fun z2 => ?_) fun z2 => ?_
  ·refine lO0 rfl ⟨⟩ ?_;cases n0 : th.asleep
   ·refine s0a A2a rfl (by exact (b0.cell 0 rfl rfl).trans (congrArg (fun b => some (Value.bool b)) n0)) rfl ?_;rw [q1.2.2 (by omega)] at n0;refine lR0 rfl ⟨⟩ (q0a rfl (by conv => lhs; whnf) ?_);cases n0
   refine s0a A2a rfl (by exact (b0.cell 0 rfl rfl).trans (congrArg (fun b => some (Value.bool b)) n0)) rfl ?_;rw [q1.2.2 (by omega)] at n0;have q4 := q3.2.2 (by rw [o1]; exact congrArg some (by omega));have q4 : b.length = 0 := by rw [q4]; rfl
   obtain ⟨_, j2, I2, _, Q1, A1, _, _, H1, P1⟩ := RdS.get (t0) (k) (by omega);obtain rfl := Option.some.inj (b1.symm.trans Q1);obtain ⟨_, _, _, rfl, _, _, _⟩ := s5a.open_ P1;refine lB (b0.k.a H1) [.o 1,.x j2 I2,.f 0 0] rfl ⟨rfl,⟨A1,by omega⟩,rfl,⟨⟩⟩ (fun u1 => by exfalso; omega) fun u1 => ?_;obtain ⟨U1, v0, F0, s1, s0, i0, Y0, a1, o0, r0⟩ := RdS.get (t0) (k) (by omega);obtain rfl := Option.some.inj (b1.symm.trans s0);obtain ⟨g0, e0, h0, rfl, f0, B0, P0⟩ := s5a.open_ r0;refine lC (b0.k.a o0) [.o 1,.x v0 F0,.f 0 0] rfl ⟨rfl,⟨i0,by omega⟩,rfl,⟨⟩⟩ (wL (fun μj D ε w => D = [] ∧ ∃ j : Nat, (j + μj = (b.length)) ∧ St [] w0 w [(some g9, 86, [.string th.name, .int .i64 th.points, .slice H0 d1 S0, .slice K0 i1 V0, .slice L0 j1 W0, .slice J0 h1 U0, .bool th.asleep]), (some g3, 38, [.slice Xm xm ym, .slice Xa xa ya, .slice Xb xb yb]), (some g2, 27, [.slice Ac nc cc, .slice Am nm cm, .slice Al nl cl, .slice At nt ct])] ∧ Sl ε [(2, .pointer (some ⟨g2, 0, none⟩)), (3, .pointer (some ⟨g3, 0, none⟩)), (60, .slice Xa xa ya), (61, .int .i64 xa), (62, .int .i64 k), (109, .slice g0 e0 h0), (110, .int .i64 e0), (111, .int .i64 j)]) (μ := (b.length)) ⟨rfl, 0, by omega, b0, rfl⟩ ?_);rintro μj D ε w ⟨rfl, j, hj, S, eZ⟩;refine wK eZ (wB0 rfl ⟨⟩ (fun y0 => ?_) fun y0 => ?_)
   ·obtain ⟨en, x0, G0, t1, E0, j0, Z0, q0, p0, d0⟩ := RdS.get (f0) (j) (by omega);obtain ⟨I0, g1, T0, N0, m1, X0, rfl, z0, A0, C0, D0, Q0, R0⟩ := V0a.open_ d0;have q5 := q3.2.1 en (c0a E0);refine lO (S.k.a p0) [.x x0 G0,.v 0] rfl ⟨⟨rfl,q0⟩,⟨j0,by omega⟩,⟨⟩⟩ (n0a S n9a rfl rfl ?_);intro m2 J2 p1 Z1 Y1;refine e0a (kk := 0) (vs := [_, _]) p1 X9a rfl rfl rfl rfl rfl rfl rfl ?_;intro n1 a0 O0;dsimp only [k0a, List.set] at a0;refine lO a0.k [.w 3,.w 0] rfl ⟨⟨rfl,by rfl⟩,⟨rfl,rfl⟩,⟨⟩⟩ (g0a a0 q0c rfl rfl (E2b p en M _ _ _ (hI.keep (a0.keep0 M)) (V0a.keep (a0.keep0 M) _ _ d0) q5) ?_);intro T1 u0 r1;refine lP0 rfl ⟨by omega,⟨⟩⟩ ⟨μj - 1, by omega, rfl, (j + 1), (by omega), u0.tail, rfl⟩
   refine lP0 rfl ⟨by omega,⟨⟩⟩ ⟨μk - 1, by omega, rfl, (k + 1), (by omega), S.tail, rfl⟩
  obtain ⟨U1, v0, F0, s1, s0, i0, Y0, a1, o0, r0⟩ := RdS.get (t0) (k) (by omega);obtain rfl := Option.some.inj (b1.symm.trans s0);obtain ⟨g0, e0, h0, rfl, f0, B0, P0⟩ := s5a.open_ r0;refine lC (b0.k.a o0) [.o 1,.x v0 F0,.f 0 0] rfl ⟨rfl,⟨i0,by omega⟩,rfl,⟨⟩⟩ (wL (fun μj D ε w => D = [] ∧ ∃ j : Nat, (j + μj = (b.length)) ∧ St [] w0 w [(some g9, 86, [.string th.name, .int .i64 th.points, .slice H0 d1 S0, .slice K0 i1 V0, .slice L0 j1 W0, .slice J0 h1 U0, .bool th.asleep]), (some g3, 38, [.slice Xm xm ym, .slice Xa xa ya, .slice Xb xb yb]), (some g2, 27, [.slice Ac nc cc, .slice Am nm cm, .slice Al nl cl, .slice At nt ct])] ∧ Sl ε [(2, .pointer (some ⟨g2, 0, none⟩)), (3, .pointer (some ⟨g3, 0, none⟩)), (60, .slice Xa xa ya), (61, .int .i64 xa), (62, .int .i64 k), (109, .slice g0 e0 h0), (110, .int .i64 e0), (111, .int .i64 j)]) (μ := (b.length)) ⟨rfl, 0, by omega, b0, rfl⟩ ?_);rintro μj D ε w ⟨rfl, j, hj, S, eZ⟩;refine wK eZ (wB0 rfl ⟨⟩ (fun y0 => ?_) fun y0 => ?_)
  ·obtain ⟨en, x0, G0, t1, E0, j0, Z0, q0, p0, d0⟩ := RdS.get (f0) (j) (by omega);obtain ⟨I0, g1, T0, N0, m1, X0, rfl, z0, A0, C0, D0, Q0, R0⟩ := V0a.open_ d0;have q5 := q3.2.1 en (c0a E0);refine lO (S.k.a p0) [.x x0 G0,.v 0] rfl ⟨⟨rfl,q0⟩,⟨j0,by omega⟩,⟨⟩⟩ (n0a S n9a rfl rfl ?_);intro m2 J2 p1 Z1 Y1;refine e0a (kk := 0) (vs := [_, _]) p1 X9a rfl rfl rfl rfl rfl rfl rfl ?_;intro n1 a0 O0;dsimp only [k0a, List.set] at a0;refine lO a0.k [.w 3,.w 0] rfl ⟨⟨rfl,by rfl⟩,⟨rfl,rfl⟩,⟨⟩⟩ (g0a a0 q0c rfl rfl (E2b p en M _ _ _ (hI.keep (a0.keep0 M)) (V0a.keep (a0.keep0 M) _ _ d0) q5) ?_);intro T1 u0 r1;refine lP0 rfl ⟨by omega,⟨⟩⟩ ⟨μj - 1, by omega, rfl, (j + 1), (by omega), u0.tail, rfl⟩
  refine lP0 rfl ⟨by omega,⟨⟩⟩ ⟨μk - 1, by omega, rfl, (k + 1), (by omega), S.tail, rfl⟩
 exact lT rfl ⟨⟩ rfl ⟨rfl, S.fin⟩
theorem x9b (p : f0a) (c : r0a) (m : Int) (hm : m = 1 ∨ m = 2) (M : List Nat) (w0 : World) (cs xs : List Value) (hI : InP p M w0 cs) (hX : t0a M w0 c xs) (hf : F3a p c) :
 M0a Tryz.prog 106 #[.agg cs.toArray, .int .i64 m, .agg xs.toArray] w0 fun v w' => v = .tuple #[.agg (xs ++ (cs ++ [Value.int .i64 m])).toArray, .bool true] ∧ Below w0.heap.size w0 w' := by
 obtain ⟨_, _, _, _, _, _, _, _, _, _, _, _, rfl, _, _, _, _, _, _, _, _, _, _, _, _⟩ := hI.rd.open_;obtain ⟨_, _, _, _, _, _, _, _, _, rfl, _, _, _, _, _, _, _, _, _⟩ := hX.open_;have S := St.refl w0;refine a0a Tryz.func106 rfl Tryz.ntmps106 rfl ?_;refine wO0 rfl ⟨⟩ (j0a S (by conv => lhs; whnf) rfl ?_);intro g3 w3 S3 X3 G3;refine j0a S3 (by conv => lhs; whnf) rfl ?_;intro g5 w5 S5 X5 G5;refine n0a S5 V9b rfl rfl ?_;intro g6 w6 S6 X6 G6;refine lB0 rfl ⟨⟩ (fun h9 => ?_) fun h9 => ?_
 ·refine lB0 rfl ⟨⟩ (fun i0 => by exfalso; omega) fun i0 => ?_;refine lO S6.k [.w 2] rfl ⟨⟨rfl,by rfl⟩,⟨⟩⟩ (g0a S6 T9b rfl rfl (K9a p M _ _ (hI.keep (S6.keep0 M))) ?_);intro j0 b0 g0;refine lO b0.k [.w 2,.w 1] rfl ⟨⟨rfl,by rfl⟩,⟨rfl,by rfl⟩,⟨⟩⟩ (g0a b0 r8b rfl rfl (B0b p c M _ _ _ (hI.keep (b0.keep0 M)) (hX.keep (b0.keep0 M)) hf) ?_);intro n0 d0 h0;refine lO d0.k [.w 1,.w 2] rfl ⟨⟨rfl,by rfl⟩,⟨rfl,by rfl⟩,⟨⟩⟩ (j1a e8b (vs := [(0, .agg _), (1, .agg _), (2, .int .i64 _)]) (cs := [_, _, _, _, _, _, _, _]) rfl rfl rfl rfl ?_);refine e0a (kk := 0) (vs := [_, _, _, _, _, _, _, _]) d0 x6b rfl rfl rfl rfl rfl rfl rfl ?_;intro f0 a0 e0;dsimp only [k0a, List.set] at a0;exact lR0 rfl ⟨⟩ (p4a (n := 8) rfl a6a rfl (a0.cells 0 rfl) rfl rfl ⟨rfl, a0.fin⟩)
 refine lO S6.k [.w 2] rfl ⟨⟨rfl,by rfl⟩,⟨⟩⟩ (g0a S6 T9b rfl rfl (K9a p M _ _ (hI.keep (S6.keep0 M))) ?_);intro j0 b0 g0;refine lO b0.k [.w 2,.w 1] rfl ⟨⟨rfl,by rfl⟩,⟨rfl,by rfl⟩,⟨⟩⟩ (g0a b0 r8b rfl rfl (B0b p c M _ _ _ (hI.keep (b0.keep0 M)) (hX.keep (b0.keep0 M)) hf) ?_);intro n0 d0 h0;refine lO d0.k [.w 1,.w 2] rfl ⟨⟨rfl,by rfl⟩,⟨rfl,by rfl⟩,⟨⟩⟩ (j1a e8b (vs := [(0, .agg _), (1, .agg _), (2, .int .i64 _)]) (cs := [_, _, _, _, _, _, _, _]) rfl rfl rfl rfl ?_);refine e0a (kk := 0) (vs := [_, _, _, _, _, _, _, _]) d0 x6b rfl rfl rfl rfl rfl rfl rfl ?_;intro f0 a0 e0;dsimp only [k0a, List.set] at a0;exact lR0 rfl ⟨⟩ (p4a (n := 8) rfl a6a rfl (a0.cells 0 rfl) rfl rfl ⟨rfl, a0.fin⟩)
section
variable {P : Program} {r : Option Nat} {N : Nat} {D : List Deferred} {e : Env} {w w0 : World} {ops : Array Oper} {rest : List Oper} {K : List Deferred → Env → World → Prop} {L : List Ent} {M : List Nat}
variable {d : Nat} {t : TypeId} {p : String} {af : Array Edge} {x y : Operand} {yt : TypeId}
theorem K2c {ty size n c : Nat} {A : Option Addr} (hT : SlT P ty size) (hx : ev e x = .slice A n c) (hy : ev e y = .slice none 0 0) (hd : Nat.ble (d + 1) N = true)
 (h1 : A = none → WL P r N ops rest K D (upd e d (.bool true)) w) (h2 : A.isSome = true → WL P r N ops rest K D (upd e d (.bool false)) w) :
 WL P r N ops (⟨some d, .binOp .eql ty x y yt, t, p, af, none⟩ :: rest) K D e w := by
 obtain ⟨el, hu, _⟩ := Z4a hT;have hr := Lib.run_eql_slice_nil (P := P) w ty el A n c 0 0 hu;cases A with
 | none => exact c1a rfl rfl hd (by simp) (by simp [execOp, hx, hy, eqGuard, hr]) (h1 rfl)
 | some a => exact c1a rfl rfl hd (by simp) (by simp [execOp, hx, hy, eqGuard, hr]) (h2 rfl)
end
theorem C3a.pad {G : Option Nat} {n : Nat} {cs : List Value} {v : Value} {l : List Int} (h : C3a G 1 n cs v (l.map (Value.int .i64))) (h0 : 0 < l.length) : ∃ g pad, G = some g ∧ v = .slice (some ⟨g, 0, none⟩) l.length (l.length + pad.length) ∧ cs = l.map (Value.int .i64) ++ pad ∧ l.length + pad.length ≤ maxLen := by
 obtain ⟨h1, h2⟩ := h;simp only [List.length_map, Nat.mul_one] at h1;rcases h2 with ⟨_, _, h2⟩ | ⟨g, a0, rfl, rfl, h3, h4, h5, h6⟩
 ·omega
 ·simp only [Nat.mul_one] at h5 h6;refine ⟨g, cs.drop n, rfl, ?_, ?_, ?_⟩
  ·rw [List.length_drop, h5, h1]; congr 1; omega
  ·rw [← h6, List.take_append_drop]
  ·rw [List.length_drop, h5, h1]; omega
theorem C3a.ofPad {g : Nat} {l : List Int} {pad : List Value} (h : l.length + pad.length ≤ maxLen) : C3a (some g) 1 l.length (l.map (Value.int .i64) ++ pad) (.slice (some ⟨g, 0, none⟩) l.length (l.length + pad.length)) (l.map (Value.int .i64)) :=
 ⟨by simp, .inr ⟨g, _, rfl, rfl, by omega, h, by simp, by simp⟩⟩
def Y4a (mem : List Int) (e : G0a) (k : Nat) : List Int := ((e.cells.zip e.values).take k).foldl (fun m x => m.set x.1.toNat x.2) mem
theorem w2b (mem : List Int) (e : G0a) : Y4a mem e 0 = mem := by simp [Y4a]
theorem x4b (mem : List Int) (e : G0a) {k : Nat} (h : e.cells.length ≤ k) : Y4a mem e k = i3a mem e := by
 unfold Y4a i3a; rw [List.take_of_length_le (by rw [List.length_zip]; omega)]
theorem K2b {mem : List Int} {e : G0a} {k : Nat} {x y : Int} (hx : e.cells[k]? = some x) (hy : e.values[k]? = some y) : Y4a mem e (k + 1) = (Y4a mem e k).set x.toNat y := by
 unfold Y4a;rw [J0a (x := (x, y)) (by rw [List.getElem?_zip_eq_some]; exact ⟨hx, hy⟩), List.foldl_append]; rfl
theorem v6a : ∀ (l : List (Int × Int)) (mem : List Int), (l.foldl (fun m x => m.set x.1.toNat x.2) mem).length = mem.length
 | [], _ => rfl
 | x :: l, mem => by rw [List.foldl_cons, v6a l, List.length_set]
@[simp] theorem A4c (mem : List Int) (e : G0a) (k : Nat) : (Y4a mem e k).length = mem.length := v6a _ _
@[simp] theorem L6b (mem : List Int) (e : G0a) : (i3a mem e).length = mem.length := v6a _ _
theorem j8a {l : List Int} {pad : List Value} {i : Nat} {y : Int} (hi : i < l.length) : (l.map (Value.int .i64) ++ pad).set i (.int .i64 y) = (l.set i y).map (Value.int .i64) ++ pad := by
 rw [List.set_append_left _ _ (by simpa using hi), List.map_set]
def q5a (c : r0a) (b : List G0a) (k : Nat) : List Int := (b.take k).foldl i3a c.mem
theorem z4b {c : r0a} {b : List G0a} {k : Nat} {e : G0a} (h : b[k]? = some e) : q5a c b (k + 1) = i3a (q5a c b k) e := by
 unfold q5a; rw [J0a h, List.foldl_append]; rfl
theorem E0b {c : r0a} {t : Nat} {b : List G0a} (h : c.buf[t]? = some b) {k : Nat} (hk : b.length ≤ k) : q5a c b k = B1a c t := by
 unfold q5a B1a; rw [List.take_of_length_le hk, getD_some h]
theorem r2b : ∀ (l : List G0a) (m : List Int), (l.foldl i3a m).length = m.length
 | [], _ => rfl
 | x :: l, m => by rw [List.foldl_cons, r2b l, L6b]
@[simp] theorem H6c (c : r0a) (b : List G0a) (k : Nat) : (q5a c b k).length = c.mem.length := r2b _ _
theorem Q7b {p : f0a} {c : r0a} (hf : F3a p c) {b : List G0a} (hb : ∀ e ∈ b, Z9a p e) (k : Nat) : n5a p (q5a c b k) := by
 unfold q5a;have key : ∀ (l : List G0a) (m : List Int), n5a p m → (∀ e ∈ l, Z9a p e) → n5a p (l.foldl i3a m) := by
  intro l
  induction l with
  | nil => intro m h _; exact h
  | cons e l ih => intro m h hl; rw [List.foldl_cons]; exact ih _ (h.write (hl e (by simp))) fun x hx => hl x (by simp [hx])
 exact key _ _ hf.mem fun e he => hb e (List.mem_of_mem_take he)
theorem f7a (M : List Nat) (w0 : World) (v : Value) (l : List Int) (hR : RdI M w0 v l) (hl : l.length ≤ 100000000) :
 M0a Tryz.prog 141 #[v] w0 fun v w' => O2b 3 w0 w' v l ∧ Below w0.heap.size w0 w' := by
 obtain ⟨_, n, _, rfl⟩ := hR.form;obtain ⟨_, _, _⟩ := hR.len;have S := St.refl w0;refine a0a Tryz.func141 rfl Tryz.ntmps141 rfl ?_;refine wOn 9 S.k [] rfl ⟨⟩ (K2c Y0a.slT rfl rfl rfl (fun h4 => ?_) fun h4 => ?_)
 ·refine lR0 rfl ⟨⟩ (q0a rfl (by conv => lhs; whnf) ?_);subst h4; obtain ⟨A', n', c', he, h1, h2, h3, h5, h6⟩ := hR; cases he;have h0 : l.length = 0 := by
   rcases Nat.eq_zero_or_pos n with h | h
   ·omega
   ·obtain ⟨_, _, h7, _⟩ := h6 h; cases h7
  obtain rfl := List.length_eq_zero_iff.1 h0;exact ⟨⟨none, [], C3a.nil 1, fun g hg => by cases hg⟩, S.fin⟩
 refine lO0 rfl ⟨⟩ (K1b S Y0a rfl ?_);intro g5 w5 S5 X5 G5;refine lO0 rfl ⟨⟩ (W5a (k := 0) (xs := []) S5 Y0a rfl C3a.new rfl rfl (hR.keep (S5.keep0 M)) (by simpa using hl) (by decide) rfl ?_);intro v7 G7 a0 w7 S7 R7 X7;refine T0a (by conv => lhs; whnf) rfl ?_;refine lR0 rfl ⟨⟩ (q0a rfl (by conv => lhs; whnf) ?_);refine ⟨⟨G7, a0, by simpa using R7, fun g hg => ?_⟩, S7.fin⟩; subst hg; exact ⟨by simpa using S7.new 0 rfl, S7.blk 0 rfl⟩
theorem C5b (en : G0a) (mem : List Int) (g o0 : Nat) (pad : List Value) (M : List Nat) (w0 : World) (es : List Value) (hE : V0a M w0 es en) (z0 : g ∈ M) (hB : o0a w0 (g, 3, mem.map (Value.int .i64) ++ pad)) (p0 : en.even) (A0 : ∀ x ∈ en.cells, 0 ≤ x ∧ x < mem.length) :
 M0a Tryz.prog 142 #[.slice (some ⟨g, 0, none⟩) mem.length o0, .agg es.toArray] w0 fun _ w' => o0a w' (g, 3, (i3a mem en).map (Value.int .i64) ++ pad) ∧ v0a [g] w0 w' := by
 obtain ⟨Ec, ec, fc, Ev, u0, fv, rfl, x0, y0, _, _, _, _⟩ := hE.open_;have S := St.borrow1 hB;have a0 : ∀ x ∈ [g], x ∈ M := fun x hx => by rw [List.mem_singleton] at hx; subst hx; exact z0
 have p0 : en.values.length = en.cells.length := p0;refine a0a Tryz.func142 rfl Tryz.ntmps142 rfl ?_;refine wO0 rfl ⟨⟩ (j0a S (by conv => lhs; whnf) rfl ?_);intro g3 w3 S3 X3 G3;refine lC S3.k [.o 0] rfl ⟨rfl,⟨⟩⟩ (wL (fun μk D ε w => D = [] ∧ ∃ k : Nat, (k + μk = (en.cells.length)) ∧ St [g] w0 w [(some g3, 81, [.slice Ec ec fc, .slice Ev u0 fv]), (some g, 3, (Y4a mem en k).map (Value.int .i64) ++ pad)] ∧ Sl ε [(0, .slice (some ⟨g, 0, none⟩) mem.length o0), (3, .pointer (some ⟨g3, 0, none⟩)), (7, .slice Ec ec fc), (8, .int .i64 ec), (9, .int .i64 k)]) (μ := (en.cells.length)) ⟨rfl, 0, by omega, (S3.setEnt 1 rfl (by rw [w2b])), rfl⟩ ?_);rintro μk D ε w ⟨rfl, k, _, S, eZ⟩;refine wK eZ (wB0 rfl ⟨⟩ (fun v0 => ?_) fun v0 => ?_)
 ·obtain ⟨x, s0, C0, _, q0, d0, f0, _, h0, j0⟩ := RdS.get (x0) (k) (by omega);obtain ⟨rfl, _⟩ := id j0;have q1 := A0 x (c0a q0);obtain ⟨_, t0, D0, _, B0, e0, g0, _, i0, n0⟩ := RdS.get (y0) (k) (by omega);obtain ⟨rfl, _⟩ := id n0;refine lO ((S.k.b (i0.keep (S.keepM.mono a0) g0)).b (h0.keep (S.keepM.mono a0) f0)) [.x s0 C0,.f 0 0,.o 0,.x t0 D0,.f 1 0,.i] rfl ⟨by omega,rfl,⟨e0,by omega⟩,rfl,rfl,⟨d0,by omega⟩,⟨⟩⟩ ?_
  first | refine I0a (kk := 1) S c1b rfl (by conv => lhs; whnf) rfl rfl (by (simp; omega)) ?_
  intro E0 b0 r0;refine lP0 rfl ⟨by omega,⟨⟩⟩ ?_;refine ⟨μk - 1, by omega, rfl, (k + 1), (by omega), (b0.setEnt 1 rfl (by rw [K2b q0 B0]; simp only [Nat.zero_add, Nat.mul_one]; exact j8a (by simp; omega))), rfl⟩
 refine lF0 rfl ⟨⟩ (J1a rfl ?_);have SF := S.setEnt 1 rfl (show _ = (i3a mem en).map (Value.int .i64) ++ pad by rw [x4b _ _ (by omega)]);exact ⟨SF.blk 1 rfl, SF.below⟩
theorem W1b {o e : G0a} : t3b o e = true ↔ ∃ c ∈ e.cells, c ∈ o.cells := by
 unfold t3b;rw [List.any_eq_true];constructor
 ·rintro ⟨x, h1, h2⟩; exact ⟨x, by simpa using h2, h1⟩
 ·rintro ⟨x, h1, h2⟩; exact ⟨x, h2, by simpa using h1⟩
theorem D5c {o e : G0a} (h : ∀ c ∈ e.cells, c ∉ o.cells) : t3b o e = false := by
 cases hm : t3b o e with
 | false => rfl
 | true => obtain ⟨c, h1, h2⟩ := W1b.1 hm; exact absurd h2 (h c h1)
section
variable {p : f0a} {m : Int} {c : r0a} {t : Nat} {s : t1a} {a : Int} {b : List G0a} {nb : Nat}
theorem w6c (hx : c.at_[t]? = some a) (h1 : ¬ a = s.frm) : K0a p m c t s = false := by unfold K0a; rw [getD_some hx]; simp [h1]
theorem s2c (h2 : ¬ s.guard.evl (B1a c t) (B1a c t) = 1) : K0a p m c t s = false := by unfold K0a; simp [h2]
theorem S9c (hm : ¬ m = 0) (hx : c.at_[t]? = some a) (h1 : a = s.frm) (h2 : s.guard.evl (B1a c t) (B1a c t) = 1) (hb : c.buf[t]? = some b) (hn : nb = b.length) (hk : s.kind = 3) (hr : s.release = false) : K0a p m c t s = decide ((nb : Int) < 3) := by
 unfold K0a; rw [getD_some hx, getD_some hb]; subst hn; simp [h1, h2, hk, hr, hm]; omega
theorem M6c (hm : ¬ m = 0) (hx : c.at_[t]? = some a) (h1 : a = s.frm) (h2 : s.guard.evl (B1a c t) (B1a c t) = 1) (hb : c.buf[t]? = some b) (hn : nb = b.length) (hk : s.kind = 3) (hr : s.release = true) : K0a p m c t s = decide ((nb : Int) = 0) := by
 unfold K0a; rw [getD_some hx, getD_some hb]; subst hn;cases b <;> simp [h1, h2, hk, hr, hm];omega
theorem u1c (hx : c.at_[t]? = some a) (h1 : a = s.frm) (h2 : s.guard.evl (B1a c t) (B1a c t) = 1) (hb : c.buf[t]? = some b) (hn : nb = b.length) (hk : s.kind = 4 ∨ s.kind = 5) : K0a p m c t s = decide ((nb : Int) = 0) := by
 unfold K0a; rw [getD_some hx, getD_some hb]; subst hn;rw [if_neg (by omega), if_neg (by omega), if_neg (by omega), if_neg (by omega)];cases b <;> simp [h1, h2];omega
theorem X9c (hx : c.at_[t]? = some a) (h1 : a = s.frm) (h2 : s.guard.evl (B1a c t) (B1a c t) = 1) (hb : c.buf[t]? = some b) (hn : nb = b.length) (hk : s.kind = 6) {a2 : Int} (a0 : c.at_[s.target.toNat]? = some a2) : K0a p m c t s = (decide ((nb : Int) = 0) && decide (a2 = -1)) := by
 unfold K0a; rw [getD_some hx, getD_some hb, getD_some a0]; subst hn;cases b <;> simp [h1, h2, hk];omega
theorem T7c (hb : c.buf[t]? = some b) (hn : nb = b.length) (hk : s.kind = 6 ∨ s.kind = 7) (h0 : ¬ (nb : Int) = 0) : K0a p m c t s = false := by
 unfold K0a; rw [getD_some hb]; subst hn;cases b with
 | nil => simp at h0
 | cons e b => rcases hk with hk | hk <;> simp [hk]
theorem b0d (hx : c.at_[t]? = some a) (h1 : a = s.frm) (h2 : s.guard.evl (B1a c t) (B1a c t) = 1) (hb : c.buf[t]? = some b) (hn : nb = b.length) (hk : s.kind = 7) {a2 : Int} (e0 : c.at_[s.target.toNat]? = some a2) {u : Q0a} (hu : p.threads[s.target.toNat]? = some u) {b2 : List G0a} {a0 : Nat} (b0 : c.buf[s.target.toNat]? = some b2) (d0 : a0 = b2.length) : K0a p m c t s = (decide ((nb : Int) = 0) && (decide (a2 = u.points - 1) && decide ((a0 : Int) = 0))) := by
 unfold K0a; rw [getD_some hx, getD_some hb, getD_some e0, getD_some hu, getD_some b0]; subst hn; subst d0;cases b with
 | nil => cases b2 with
   | nil => simp [h1, h2, hk]
   | cons e b2 => simp [h1, h2, hk]; omega
 | cons e b => simp [h1, h2, hk]; omega
theorem K9c (hk : s.kind = 7) {a2 : Int} (a0 : c.at_[s.target.toNat]? = some a2) {u : Q0a} (hu : p.threads[s.target.toNat]? = some u) (h0 : ¬ a2 = u.points - 1) : K0a p m c t s = false := by
 unfold K0a; rw [getD_some a0, getD_some hu]; simp [hk, h0]
theorem m9c (hx : c.at_[t]? = some a) (h1 : a = s.frm) (h2 : s.guard.evl (B1a c t) (B1a c t) = 1) (hk : s.kind = 1 ∨ s.kind = 2) : K0a p m c t s = true := by
 unfold K0a; rw [getD_some hx];rw [if_neg (by omega), if_neg (by omega), if_neg (by omega), if_pos hk];simp [h1, h2]
end
theorem Z9a.i64s {p : f0a} {e : G0a} (h : Z9a p e) : ∀ x ∈ e.cells, 0 ≤ x ∧ x < p.cells.length := fun x hx => by
 obtain ⟨i, hi, rfl⟩ := List.getElem_of_mem hx;exact (h.cells i _ (List.getElem?_eq_getElem hi)).1
theorem Y9b (p : f0a) (hp : a1a p) (c : r0a) (t : Nat) (b : List G0a) (M : List Nat) (w0 : World) (hM : ∀ g ∈ M, g < w0.heap.size) (xs : List Value) (hX : t0a M w0 c xs) (hf : F3a p c) (g0 : c.buf[t]? = some b) :
 M0a Tryz.prog 107 #[.agg xs.toArray, .int .i64 t] w0 fun v w' => RdI M w' v (B1a c t) ∧ Below w0.heap.size w0 w' := by
 obtain ⟨Xm, xm, ym, Xa, xa, ya, Xb, xb, yb, rfl, t0, _, s0, _, _, _, _, _, _⟩ := hX.open_;have S := St.refl w0;have f1 := hf.mem.len;have n1 := hp.ncells;have n2 := hp.nthreads;have f3 := hf.nbuf;have ht := R1a g0;have C0 := (hf.bufs t b g0).2.1;refine a0a Tryz.func107 rfl Tryz.ntmps107 rfl ?_;refine wO0 rfl ⟨⟩ (j0a S (by conv => lhs; whnf) rfl ?_);intro g2 w2 S2 X2 G2;refine lO S2.k [.o 0] rfl ⟨rfl,⟨⟩⟩ (B0a S2 L9a rfl rfl (f7a M _ _ c.mem (t0.keep (S2.keep0 M)) (by omega)) ?_);rintro E0 V0 hN I0 T0;obtain ⟨G0, p0, H0, d0⟩ := hN.open_ I0 S2;refine T0a (by conv => lhs; whnf) rfl ?_;obtain ⟨_, L0, Q0, _, B0, q0, _, _, v0, A0⟩ := RdS.get (s0) (t) (by omega);obtain rfl := Option.some.inj (g0.symm.trans B0);obtain ⟨j0, i0, n0, rfl, e0, _, _⟩ := s5a.open_ A0;refine lC (d0.k.a v0) [.o 1,.x L0 Q0,.f 0 0] rfl ⟨rfl,⟨q0,by omega⟩,rfl,⟨⟩⟩ (wL (fun μk D ε w => D = [] ∧ ∃ k : Nat, ∃ G : Option Nat, ∃ o0 : List Value, (k + μk = (b.length)) ∧ (C3a G 1 c.mem.length o0 E0 ((q5a c b k).map (Value.int .i64))) ∧ St [] w0 w [(G, 3, o0), (some g2, 38, [.slice Xm xm ym, .slice Xa xa ya, .slice Xb xb yb])] ∧ Sl ε [(5, E0), (15, .slice j0 i0 n0), (16, .int .i64 i0), (17, .int .i64 k)]) (μ := (b.length)) ⟨rfl, 0, G0, p0, by omega, by simpa [q5a] using H0, d0, rfl⟩ ?_);rintro μk D ε w ⟨rfl, k, G, o0, _, b0, S, eZ⟩;refine wK eZ (wB0 rfl ⟨⟩ (fun O0 => ?_) fun O0 => ?_)
 ·obtain ⟨en, N0, R0, _, h0, r0, _, y0, x0, f0⟩ := RdS.get (e0) (k) (by omega);obtain ⟨_, _, _, _, _, _, rfl, _, _, _, _, _, _⟩ := V0a.open_ f0;have q1 := C0 en (c0a h0);have q2 := q1.i64s;have q3 : 0 < c.mem.length := by
   have := q1.some_;cases D0 : en.cells with
   | nil => exact absurd D0 this
   | cons x l => have := q2 x (by rw [D0]; simp); omega
  refine lO (S.k.a x0) [.x N0 R0,.v 0] rfl ⟨⟨rfl,y0⟩,⟨r0,by omega⟩,⟨⟩⟩ (n0a S n9a rfl rfl ?_);intro g7 w7 S7 X7 G7;refine e0a (kk := 0) (vs := [_, _]) S7 X9a rfl rfl rfl rfl rfl rfl rfl ?_;intro S0 a0 K0;dsimp only [k0a, List.set] at a0;refine lOn 3 a0.k [] rfl ⟨⟩ (m1a (by conv => lhs; whnf) rfl ?_);refine lO a0.k [.w 0] rfl ⟨⟨rfl,by rfl⟩,⟨⟩⟩ ?_;obtain ⟨g, pad, rfl, hv, rfl, P0⟩ := b0.pad (by simpa using q3);subst hv;refine e2a p0c rfl rfl (C5b en (q5a c b k) g _ pad (g :: M) _ _ (V0a.keep (a0.keep0 _) _ _ (V0a.more (a1b a0 (k := 1) rfl) _ _ f0)) (by simp) (a0.blk 1 rfl) q1.even (fun x hx => by have := q2 x hx; simp; omega)) ?_;rintro U0 W0 ⟨u0, F0⟩;have J0 := a0.changed1 1 rfl F0 u0;refine lP0 rfl ⟨by omega,⟨⟩⟩ ?_;refine ⟨μk - 1, by omega, rfl, (k + 1), (some g), (_), (by omega), (by rw [z4b h0]; have := C3a.ofPad (g := g) (l := i3a (q5a c b k) en) (pad := pad) (by simpa using P0); simpa using this), J0.tail, rfl⟩
 refine lOn 8 S.k [] rfl ⟨⟩ (m1a (by conv => lhs; whnf) rfl ?_);refine T0a (by conv => lhs; whnf) rfl ?_;refine lR0 rfl ⟨⟩ (q0a rfl (by conv => lhs; whnf) ?_);obtain rfl : k = b.length := by omega
 rw [E0b g0 (Nat.le_refl _)] at b0;have z0 := Q7b hf C0 b.length;rw [E0b g0 (Nat.le_refl _)] at z0;exact ⟨b0.rdI S (k := 0) rfl hM (d5a hp z0) (by have := z0.len; omega), S.fin⟩
theorem d7b (old : List G0a) (en : G0a) (M : List Nat) (w0 : World) (v : Value) (es : List Value) (hO : r8c M w0 v old) (hE : V0a M w0 es en) :
 M0a Tryz.prog 144 #[v, .agg es.toArray] w0 fun v w' => v = .bool (old.any fun o => t3b o en) ∧ Below w0.heap.size w0 w' := by
 obtain ⟨A, n, cc, rfl⟩ := hO.form;obtain ⟨_, _, _⟩ := hO.len;obtain ⟨Ec, ec, fc, Ev, v0, fv, rfl, G0, _, _, _, _, _⟩ := hE.open_;have S := St.refl w0;refine a0a Tryz.func144 rfl Tryz.ntmps144 rfl ?_;refine wO0 rfl ⟨⟩ (j0a S (by conv => lhs; whnf) rfl ?_);intro g3 w3 S3 X3 G3;refine lC0 rfl ⟨⟩ (wL (fun μk D ε w => D = [] ∧ ∃ k : Nat, (k + μk = (old.length)) ∧ (v1a (old) k (fun o => t3b o en = false)) ∧ St [] w0 w [(some g3, 81, [.slice Ec ec fc, .slice Ev v0 fv])] ∧ Sl ε [(3, .pointer (some ⟨g3, 0, none⟩)), (9, .slice A n cc), (10, .int .i64 n), (11, .int .i64 k)]) (μ := (old.length)) ⟨rfl, 0, by omega, v1a.zero, S3, rfl⟩ ?_);rintro μk D ε w ⟨rfl, k, _, ha, S, eZ⟩;refine wK eZ (wB0 rfl ⟨⟩ (fun E0 => ?_) fun E0 => ?_)
 ·obtain ⟨o, C0, H0, _, y0, j0, _, q0, o0, r0⟩ := RdS.get (hO) (k) (by omega);obtain ⟨d0, t0, g0, e0, u0, h0, rfl, b0, _, _, _, _, _⟩ := V0a.open_ r0;refine lO (S.k.a o0) [.x C0 H0,.v 0] rfl ⟨⟨rfl,q0⟩,⟨j0,by omega⟩,⟨⟩⟩ (n0a S n9a rfl rfl ?_);intro g6 w6 S6 X6 G6;refine e0a (kk := 0) (vs := [_, _]) S6 X9a rfl rfl rfl rfl rfl rfl rfl ?_;intro K0 a0 B0;dsimp only [k0a, List.set] at a0;refine lC a0.k [.o 1] rfl ⟨rfl,⟨⟩⟩ (wL (fun μj D ε w => D = [] ∧ ∃ j : Nat, (j + μj = (en.cells.length)) ∧ (v1a (en.cells) j (fun x => x ∉ o.cells)) ∧ St [] w0 w [(some g6, 81, [.slice d0 t0 g0, .slice e0 u0 h0]), (some g3, 81, [.slice Ec ec fc, .slice Ev v0 fv])] ∧ Sl ε [(3, .pointer (some ⟨g3, 0, none⟩)), (6, .pointer (some ⟨g6, 0, none⟩)), (9, .slice A n cc), (10, .int .i64 n), (11, .int .i64 k), (16, .slice Ec ec fc), (17, .int .i64 ec), (18, .int .i64 j)]) (μ := (en.cells.length)) ⟨rfl, 0, by omega, v1a.zero, a0, rfl⟩ ?_);rintro μj D ε w ⟨rfl, j, _, x0, S, eZ⟩;refine wK eZ (wB0 rfl ⟨⟩ (fun F0 => ?_) fun F0 => ?_)
  ·obtain ⟨x, D0, I0, _, z0, n0, _, _, p0, s0⟩ := RdS.get (G0) (j) (by omega);obtain ⟨rfl, _⟩ := id s0;refine lO (S.k.a p0) [.x D0 I0,.f 0 0,.o 0] rfl ⟨rfl,rfl,⟨n0,by omega⟩,⟨⟩⟩ (y0a S v0c rfl rfl (B8a M _ _ o.cells x (b0.keep (S.keep0 M))) (fun i0 J0 f0 A0 => ?_) (fun i0 J0 f0 A0 => ?_))
   ·exact lT rfl ⟨⟩ rfl ⟨congrArg Value.bool (Eq.symm (List.any_eq_true.2 ⟨o, c0a y0, W1b.2 ⟨x, c0a z0, of_decide_eq_true i0⟩⟩)), f0.fin⟩
   refine lP0 rfl ⟨by omega,⟨⟩⟩ ⟨μj - 1, by omega, rfl, (j + 1), (by omega), (x0.succ z0 (of_decide_eq_false i0)), f0, rfl⟩
  refine lP0 rfl ⟨by omega,⟨⟩⟩ ⟨μk - 1, by omega, rfl, (k + 1), (by omega), (ha.succ y0 (D5c (x0.all (by omega)))), S.tail, rfl⟩
 refine lT rfl ⟨⟩ rfl ?_;refine ⟨congrArg Value.bool ?_, S.fin⟩; symm; rw [List.any_eq_false]; intro o ho; rw [ha.all (by omega) o ho]; simp
theorem Z0c (c : r0a) (M : List Nat) (w0 : World) (xs : List Value) (hX : t0a M w0 c xs) :
 M0a Tryz.prog 65 #[.agg xs.toArray] w0 fun v w' => v = .bool (dec (T3a c)) ∧ Below w0.heap.size w0 w' := by
 obtain ⟨Xm, xm, ym, Xa, xa, ya, Xb, xb, yb, rfl, _, _, d0, _, _, g0, _, _, _⟩ := hX.open_;have S := St.refl w0;refine a0a Tryz.func65 rfl Tryz.ntmps65 rfl ?_;refine wO0 rfl ⟨⟩ (j0a S (by conv => lhs; whnf) rfl ?_);intro g1 w1 S1 X1 G1;refine lC S1.k [.o 0] rfl ⟨rfl,⟨⟩⟩ (wL (fun μk D ε w => D = [] ∧ ∃ k : Nat, (k + μk = (c.buf.length)) ∧ (v1a (c.buf) k (fun b => b = [])) ∧ St [] w0 w [(some g1, 38, [.slice Xm xm ym, .slice Xa xa ya, .slice Xb xb yb])] ∧ Sl ε [(6, .slice Xb xb yb), (7, .int .i64 xb), (8, .int .i64 k)]) (μ := (c.buf.length)) ⟨rfl, 0, by omega, v1a.zero, S1, rfl⟩ ?_);rintro μk D ε w ⟨rfl, k, _, ha, S, eZ⟩;refine wK eZ (wB0 rfl ⟨⟩ (fun h9 => ?_) fun h9 => ?_)
 ·obtain ⟨b, h0, j0, _, g0, b0, _, _, e0, f0⟩ := RdS.get (d0) (k) (by omega);obtain ⟨_, _, _, rfl, _, a0, _⟩ := s5a.open_ f0;refine lB (S.k.a e0) [.x h0 j0,.f 0 0] rfl ⟨rfl,⟨b0,by omega⟩,⟨⟩⟩ (fun i0 => ?_) fun i0 => ?_
  ·refine lT rfl ⟨⟩ rfl ?_;exact ⟨g1a fun hh => (by have := hh b (c0a g0); subst this; simp at a0; omega), S.fin⟩
  refine lP0 rfl ⟨by omega,⟨⟩⟩ ⟨μk - 1, by omega, rfl, (k + 1), (by omega), (ha.succ g0 (List.length_eq_zero_iff.1 (by omega))), S, rfl⟩
 exact lT rfl ⟨⟩ rfl ⟨P3a (ha.all (by omega)), S.fin⟩
theorem a7a (p : f0a) (c : r0a) (m : Int) (hm : m = 1 ∨ m = 2) (t i : Nat) (th : Q0a) (s : t1a) (M : List Nat) (w0 : World) (cs xs : List Value) (vs : Value) (hI : InP p M w0 cs) (hX : t0a M w0 c xs) (hV : RdI M w0 vs (B1a c t)) (hf : F3a p c) (q0 : p.threads[t]? = some th) (r1 : th.steps[i]? = some s) :
 M0a Tryz.prog 108 #[.agg (xs ++ (cs ++ [Value.int .i64 m])).toArray, .int .i64 t, .int .i64 i, vs] w0 fun v w' => v = .bool (K0a p m c t s) ∧ Below w0.heap.size w0 w' := by
 obtain ⟨_, _, _, _, _, _, _, _, _, _, _, _, rfl, _, _, _, v1, _, _, _, _, _, _, _, _⟩ := hI.rd.open_;obtain ⟨_, _, _, _, _, _, _, _, _, rfl, _, T0, u0, _, f0, _, _, b2, _⟩ := hX.open_;obtain ⟨_, _, _, rfl⟩ := hV.form;have S := St.refl w0;have f2 := hf.nat;have f3 := hf.nbuf;have hp := hI.ok;have ht := R1a q0;have hi := R1a r1;have I1 := hp.thread q0;have o1 := I1.steps s (c0a r1);have R1 := o1.kind;have x1 : 6 ≤ s.kind → 0 ≤ s.target ∧ s.target < p.threads.length := fun h => (o1.row.k6 h).1;have H1 := o1.rel;have E0 : ¬ m = 0 := by omega
 refine a0a Tryz.func108 rfl Tryz.ntmps108 rfl ?_;refine wO0 rfl ⟨⟩ (j0a S (by conv => lhs; whnf) rfl ?_);intro g4 w4 S4 X4 G4;obtain ⟨_, A1, J1, _, p1, L0, _, _, V0, f1⟩ := RdS.get (v1) (t) (by omega);obtain rfl := Option.some.inj (q0.symm.trans p1);obtain ⟨_, _, _, _, _, _, _, _, _, _, _, _, rfl, _, _, _, v0, _, _, _, _, _, _, _, _, _⟩ := N0a.open_ f1;obtain ⟨_, B1, K1, _, q1, N0, _, d1, W0, g1⟩ := RdS.get (v0) (i) (by omega);obtain rfl := Option.some.inj (r1.symm.trans q1);obtain ⟨_, _, _, _, _, _, rfl, ⟨_, _, _, _, _⟩, U0, _, _, _⟩ := n2a.open_ g1;refine lO ((S4.k.a W0).a V0) [.o 0,.x A1 J1,.f 0 4,.x B1 K1,.v 1] rfl ⟨⟨rfl,d1⟩,⟨N0,by omega⟩,rfl,⟨L0,by omega⟩,rfl,⟨⟩⟩ (n0a S4 t7b rfl rfl ?_);intro g9 w9 S9 X9 G9;refine e0a (kk := 0) (vs := [_, _, _, _, _, _, _, _, _, _, _]) S9 A7b rfl rfl rfl rfl rfl rfl rfl ?_;intro y1 h0 t1;dsimp only [k0a, List.set] at h0;refine lC0 rfl ⟨⟩ (D0a b0a [0, 1, 2, 3, 4, 5, 6, 7, 8, 9, 10, 11, 12, 13, 14, 15, 16] [] [] (by kernel_rfl) rfl (Cl _ _ _ _) (Cl.start h0) ?_);obtain ⟨a, C1, M1, _, f0, O0, _, _, X0, h1⟩ := RdS.get (T0) (t) (by omega);obtain ⟨rfl, _⟩ := id h1;refine qB (h0.q.a X0) [.o 1,.x C1 M1,.f 0 0,.o 0] rfl ⟨rfl,rfl,⟨O0,by omega⟩,rfl,⟨⟩⟩ (fun d0 => ?_) fun d0 => ?_
 ·refine qD rfl ⟨⟩ ?_;rintro z1 ⟨b0, u1⟩;refine lT rfl ⟨⟩ rfl ⟨congrArg Value.bool ?_, b0.fin⟩;rw [w6c f0 d0]; done
 refine qO h0.q [.o 0] rfl ⟨rfl,⟨⟩⟩ (F2a c0b rfl rfl (fun w1 S1 X1 => b8a s.guard M _ _ _ _ (B1a c t) (B1a c t) (RdE.keep (S1.keep0 M) _ _ U0) (hI.keep (S1.keep0 M)).msk (hV.keep (S1.keep0 M)) (hV.keep (S1.keep0 M))) ?_);refine qB0 rfl ⟨⟩ (fun e0 => ?_) fun e0 => ?_
 ·refine qD rfl ⟨⟩ ?_;rintro z1 ⟨b0, u1⟩;refine lT rfl ⟨⟩ rfl ⟨congrArg Value.bool ?_, b0.fin⟩;rw [s2c e0]; done
 refine qD rfl ⟨⟩ ?_;rintro z1 ⟨b0, u1⟩;obtain ⟨b, D1, N1, _, g0, P0, _, _, Y0, i1⟩ := RdS.get (u0) (t) (by omega);obtain ⟨_, _, _, rfl, _, a0, _⟩ := s5a.open_ i1;have q3 := (hf.bufs t b g0).1;refine lB (b0.k.a Y0) [.o 1,.x D1 N1,.f 0 0,.o 0] rfl ⟨rfl,rfl,⟨P0,by omega⟩,rfl,⟨⟩⟩ (fun r0 => ?_) fun r0 => ?_
 ·refine lO0 rfl ⟨⟩ ?_;cases i0 : s.release
  ·refine s0a A2a rfl (by exact (b0.cell 0 rfl rfl).trans (congrArg (fun b => some (Value.bool b)) i0)) rfl ?_;refine lB0 rfl ⟨⟩ (fun J0 => ?_) fun J0 => ?_
   ·refine lT rfl ⟨⟩ rfl ⟨congrArg Value.bool ?_, b0.fin⟩;rw [S9c E0 f0 d0 e0 g0 a0 r0 i0]; exact (decide_eq_true J0).symm
   refine lT rfl ⟨⟩ rfl ⟨congrArg Value.bool ?_, b0.fin⟩;rw [S9c E0 f0 d0 e0 g0 a0 r0 i0]; exact (decide_eq_false (Int.not_lt.2 J0)).symm
  refine s0a A2a rfl (by exact (b0.cell 0 rfl rfl).trans (congrArg (fun b => some (Value.bool b)) i0)) rfl ?_;refine lB0 rfl ⟨⟩ (fun n0 => ?_) fun n0 => ?_
  ·refine lT rfl ⟨⟩ rfl ⟨congrArg Value.bool ?_, b0.fin⟩;rw [M6c E0 f0 d0 e0 g0 a0 r0 i0]; exact (decide_eq_true n0).symm
  refine lT rfl ⟨⟩ rfl ⟨congrArg Value.bool ?_, b0.fin⟩;rw [M6c E0 f0 d0 e0 g0 a0 r0 i0]; exact (decide_eq_false n0).symm
 refine lB0 rfl ⟨⟩ (fun H0 => ?_) fun H0 => ?_
 ·refine lB0 rfl ⟨⟩ (fun n0 => ?_) fun n0 => ?_
  ·refine lT rfl ⟨⟩ rfl ⟨congrArg Value.bool ?_, b0.fin⟩;rw [u1c f0 d0 e0 g0 a0 (.inl H0)]; exact (decide_eq_true n0).symm
  refine lT rfl ⟨⟩ rfl ⟨congrArg Value.bool ?_, b0.fin⟩;rw [u1c f0 d0 e0 g0 a0 (.inl H0)]; exact (decide_eq_false n0).symm
 refine lB0 rfl ⟨⟩ (fun I0 => ?_) fun I0 => ?_
 ·refine lB0 rfl ⟨⟩ (fun n0 => ?_) fun n0 => ?_
  ·refine lT rfl ⟨⟩ rfl ⟨congrArg Value.bool ?_, b0.fin⟩;rw [u1c f0 d0 e0 g0 a0 (.inr I0)]; exact (decide_eq_true n0).symm
  refine lT rfl ⟨⟩ rfl ⟨congrArg Value.bool ?_, b0.fin⟩;rw [u1c f0 d0 e0 g0 a0 (.inr I0)]; exact (decide_eq_false n0).symm
 refine lB0 rfl ⟨⟩ (fun A0 => ?_) fun A0 => ?_
 ·refine lB0 rfl ⟨⟩ (fun B0 => ?_) fun B0 => ?_
  ·have q6 := x1 (by omega);obtain ⟨a2, E1, O1, _, j0, Q0, _, _, Z0, j1⟩ := RdS.get (T0) (s.target.toNat) (by omega);obtain ⟨rfl, _⟩ := id j1;refine lB (b0.k.a Z0) [.o 1,.o 0,.x E1 O1,.f 0 0] rfl ⟨rfl,⟨Q0,by omega⟩,rfl,rfl,⟨⟩⟩ (fun K0 => ?_) fun K0 => ?_
   ·refine lT rfl ⟨⟩ rfl ⟨congrArg Value.bool ?_, b0.fin⟩;rw [X9c f0 d0 e0 g0 a0 A0 j0]; rw [decide_eq_true B0]; (rw [decide_eq_true K0]; rfl)
   refine lT rfl ⟨⟩ rfl ⟨congrArg Value.bool ?_, b0.fin⟩;rw [X9c f0 d0 e0 g0 a0 A0 j0]; rw [decide_eq_true B0]; (rw [decide_eq_false K0]; rfl)
  refine lT rfl ⟨⟩ rfl ⟨congrArg Value.bool ?_, b0.fin⟩;rw [T7c g0 a0 (.inl A0) B0]; done
 refine lB0 rfl ⟨⟩ (fun s0 => ?_) fun s0 => ?_
 ·have q6 := x1 (by omega);obtain ⟨_, F1, P1, _, F0, R0, _, _, a1, m1⟩ := RdS.get (v1) (s.target.toNat) (by omega);obtain ⟨_, _, _, _, _, _, _, _, _, _, _, _, rfl, _, _, _, _, _, _, _, _, _, _, _, _, _⟩ := N0a.open_ m1;have q7 := (hp.thread F0).points;refine lB (b0.k.a a1) [.o 1,.o 0,.x F1 P1,.f 0 1] rfl ⟨by omega,rfl,⟨R0,by omega⟩,rfl,rfl,⟨⟩⟩ (fun C0 => ?_) fun C0 => ?_
  ·obtain ⟨a2, G1, Q1, _, j0, S0, _, _, b1, n1⟩ := RdS.get (T0) (s.target.toNat) (by omega);obtain ⟨rfl, _⟩ := id n1;refine lB (b0.k.a b1) [.o 1,.o 0,.x G1 Q1,.f 0 0] rfl ⟨rfl,⟨S0,by omega⟩,rfl,rfl,⟨⟩⟩ (fun D0 => ?_) fun D0 => ?_
   ·obtain ⟨b2, G0, s1, _, z0, t0, _, _, x0, y0⟩ := RdS.get (u0) (s.target.toNat) (by omega);obtain ⟨_, _, _, rfl, _, o0, _⟩ := s5a.open_ y0;refine lB (b0.k.a x0) [.o 1,.o 0,.x G0 s1,.f 0 0] rfl ⟨rfl,⟨t0,by omega⟩,rfl,rfl,⟨⟩⟩ (fun p0 => ?_) fun p0 => ?_
    ·refine lT rfl ⟨⟩ rfl ⟨congrArg Value.bool ?_, b0.fin⟩;rw [b0d f0 d0 e0 g0 a0 s0 j0 F0 z0 o0]; rw [decide_eq_true C0, decide_eq_true D0]; (rw [decide_eq_true p0]; rfl)
    refine lT rfl ⟨⟩ rfl ⟨congrArg Value.bool ?_, b0.fin⟩;rw [b0d f0 d0 e0 g0 a0 s0 j0 F0 z0 o0]; rw [decide_eq_true C0, decide_eq_true D0]; (rw [decide_eq_false p0]; rfl)
   refine lT rfl ⟨⟩ rfl ⟨congrArg Value.bool ?_, b0.fin⟩;rw [K9c s0 j0 F0 D0]; done
  refine lT rfl ⟨⟩ rfl ⟨congrArg Value.bool ?_, b0.fin⟩;rw [T7c g0 a0 (.inr s0) C0]; done
 refine lT rfl ⟨⟩ rfl ⟨congrArg Value.bool ?_, b0.fin⟩;rw [m9c f0 d0 e0 (by omega)]; done
section
variable {M : List Nat} {w0 w w' : World} {L : List Ent}
theorem St.join {L2 : List Ent} (S : St M w0 w L) (S2 : St [] w w' L2) : St M w0 w' (L2 ++ L) := by
 have a0 : ∀ b ∈ L2, ∀ g, b.1 = some g → w.heap.size ≤ g ∧ o0a w' (g, b.2) := fun b hb g hg => by
  obtain ⟨h1, h2⟩ := S2.own b hb g hg;rcases h1 with h1 | h1
  ·exact ⟨h1, h2⟩
  ·cases h1
 have S' := S.later S2.fin;refine ⟨S'.below, fun b hb g hg => ?_, List.pairwise_append.2 ⟨S2.apart, S.apart, fun a ha b hb g hg b0 => ?_⟩⟩
 ·rcases List.mem_append.1 hb with h | h
  ·obtain ⟨h1, h2⟩ := a0 b h g hg;exact ⟨.inl (Nat.le_trans S.size h1), h2⟩
  ·exact S'.own b h g hg
 ·have h1 := (a0 a ha g hg).1;have h2 := (S.own b hb g b0).2.lt;simp at h2; omega
theorem St.fill (S : St M w0 w L) (j : Nat) {t' : TypeId} {b0 : List Value} {g : Nat} (hb : Below w.heap.size w w') (hg : o0a w' (g, t', b0)) (e0 : w.heap.size ≤ g) : St M w0 w' (L.set j (some g, t', b0)) := by
 have S' := S.later hb;have a0 : ∀ b ∈ L, b.1 ≠ some g := fun b hm hh => by
  have := (S.own b hm g hh).2.lt;simp at this; omega
 refine ⟨S'.below, fun b hm x hx => ?_, ?_⟩
 ·rcases List.mem_or_eq_of_mem_set hm with h | rfl
  ·exact S'.own b h x hx
  ·cases hx;exact ⟨.inl (Nat.le_trans S.size e0), hg⟩
 ·rw [List.pairwise_iff_getElem];intro i k hi hk d0 x hx;rw [List.length_set] at hi hk;rw [List.getElem_set] at hx ⊢
  split at hx
  ·cases hx
   split
   ·omega
   ·exact a0 _ (List.getElem_mem hk)
  ·split
   ·intro hh; cases hh; exact a0 _ (List.getElem_mem hi) hx
   ·exact (List.pairwise_iff_getElem.1 S.apart) i k hi hk d0 x hx
theorem St.nils (S : St M w0 w L) {R : List Ent} (hR : ∀ b ∈ R, b.1 = none) : St M w0 w (L ++ R) := by
 refine ⟨S.below, fun b hb g hg => ?_, List.pairwise_append.2 ⟨S.apart, ?_, fun a _ b hb g _ a0 => ?_⟩⟩
 ·rcases List.mem_append.1 hb with h | h
  ·exact S.own b h g hg
  ·rw [hR b h] at hg; cases hg
 ·exact List.Pairwise.imp_of_mem (fun ha _ _ g hg => (by rw [hR _ ha] at hg; cases hg)) (List.pairwise_of_forall (R := fun _ _ => True) (fun _ _ => trivial))
 ·rw [hR b hb] at a0; cases a0
theorem St.place {x : Ent} (S : St M w0 w (x :: L)) (j : Nat) : St M w0 w (L.set j x) := by
 obtain ⟨h1, h2⟩ := List.pairwise_cons.1 S.apart;refine ⟨S.below, fun b hm g hg => ?_, ?_⟩
 ·rcases List.mem_or_eq_of_mem_set hm with h | rfl
  ·exact S.own b (List.mem_cons_of_mem _ h) g hg
  ·exact S.own _ (by simp) g hg
 ·rw [List.pairwise_iff_getElem];intro i k hi hk a0 g hg;rw [List.length_set] at hi hk;rw [List.getElem_set] at hg ⊢
  split at hg
  ·split
   ·omega
   ·exact h1 _ (List.getElem_mem hk) g hg
  ·split
   ·intro hh; exact h1 _ (List.getElem_mem hi) g hh hg
   ·exact (List.pairwise_iff_getElem.1 h2) i k hi hk a0 g hg
theorem St.front {A R : List Ent} (S : St M w0 w (A ++ R)) : St M w0 w A :=
 ⟨S.below, fun b hm => S.own b (List.mem_append_left _ hm), (List.pairwise_append.1 S.apart).1⟩
abbrev clF {A R : List Ent} (_ : St M w0 w (A ++ R)) (K : List Nat) : World → Prop := fun w1 => St M w0 w1 A ∧ w0a K w w1
end
theorem C3a.form {G : Option Nat} {size n : Nat} {cs xs : List Value} {v : Value} (h : C3a G size n cs v xs) : ∃ A n c, v = .slice A n c := by
 rcases h with ⟨_, ⟨_, rfl, _⟩ | ⟨g, a0, _, rfl, _⟩⟩
 ·exact ⟨_, _, _, rfl⟩
 ·exact ⟨_, _, _, rfl⟩
theorem F6c (A a0 : List Ent) (k n : Nat) (hn : A.length = n) : (A ++ a0)[n + k]? = a0[k]? := by
 subst hn; rw [List.getElem?_append_right (by omega)]; congr 1; omega
theorem a9c (A a0 : List Ent) (k n : Nat) (hn : A.length = n) (x : Ent) : (A ++ a0).set (n + k) x = A ++ a0.set k x := by
 subst hn; rw [List.set_append_right _ _ (by omega)]; congr 2; omega
theorem P1a.more {α : Type} {R : List Nat → World → List Value → α → Prop} {size : Nat} (hL : W4a R size) {M M' : List Nat} {w : World} {G : Option Nat} {cs : List Value} {v : Value} {l : List α} (h : P1a R size M w G cs v l) (hm : ∀ g ∈ M', (g ∈ G.toList ∨ g ∈ M) ∨ w.heap.size ≤ g) : P1a R size M' w G cs v l := by
 obtain ⟨css, h1, h2, h3, h4⟩ := h;refine ⟨css, h1, h2, h3, fun i x hi => ?_⟩;obtain ⟨c, h5, h6⟩ := h4 i x hi;refine ⟨c, h5, hL.more (fun g hg => ?_) h6⟩;rcases List.mem_append.1 hg with hg | hg
 ·exact .inl (List.mem_append_left _ hg)
 ·rcases hm g hg with h | h
  ·exact .inl (List.mem_append.2 h)
  ·exact .inr h
def T8a (rows : List Ent) : List Nat := rows.filterMap (·.1)
theorem v3a {a0 : List Ent} {g : Nat} : g ∈ T8a a0 ↔ ∃ b ∈ a0, b.1 = some g := by unfold T8a; rw [List.mem_filterMap]
def j3a (tE : TypeId) (M : List Nat) (w : World) (rows : List Ent) (vs : List Value) (bs : List (List G0a)) : Prop :=
 rows.length = bs.length ∧ vs.length = bs.length ∧ ∀ (i : Nat) (b : List G0a), bs[i]? = some b → ∃ G cs v, rows[i]? = some (G, tE, cs) ∧ vs[i]? = some v ∧ P1a V0a 2 (M ++ T8a rows) w G cs v b
theorem j3a.keep {tE : TypeId} {M : List Nat} {w w' : World} {a0 : List Ent} {vs : List Value} {bs : List (List G0a)} (h : j3a tE M w a0 vs bs) (hk : w0a (M ++ T8a a0) w w') : j3a tE M w' a0 vs bs := by
 obtain ⟨h1, h2, h3⟩ := h;refine ⟨h1, h2, fun i b hi => ?_⟩;obtain ⟨G, cs, v, h4, h5, h6⟩ := h3 i b hi;exact ⟨G, cs, v, h4, h5, h6.keep k2a (hk.mono fun g hg => List.mem_append_right _ hg)⟩
theorem j3a.nil {tE : TypeId} {M : List Nat} {w : World} (n : Nat) : j3a tE M w (List.replicate n (none, tE, [])) (List.replicate n (.slice none 0 0)) (List.replicate n []) := by
 refine ⟨by simp, by simp, fun i b hi => ?_⟩;obtain ⟨a0, rfl⟩ := List.getElem?_eq_some_iff.1 hi;simp only [List.length_replicate] at a0;refine ⟨none, [], .slice none 0 0, by simp [a0], by simp [a0], ?_⟩;simp only [List.getElem_replicate];exact P1a.nil
theorem T3c {a0 : List Ent} {k : Nat} {G' : Option Nat} {tE : TypeId} {b0 : List Value} {g : Nat} (h : g ∈ T8a (a0.set k (G', tE, b0))) : g ∈ T8a a0 ∨ g ∈ G'.toList := by
 obtain ⟨b, hb, hg⟩ := v3a.1 h;rcases List.mem_or_eq_of_mem_set hb with h | rfl
 ·exact .inl (v3a.2 ⟨b, h, hg⟩)
 ·right; cases hg; simp
theorem j3a.put {tE : TypeId} {M : List Nat} {w w1 : World} {a0 : List Ent} {vs : List Value} {bs : List (List G0a)} (h : j3a tE M w a0 vs bs) {k : Nat} {G G' : Option Nat} {cs b0 : List Value} {v' : Value} {b' : List G0a} (hk : k < bs.length)
 (f0 : P1a V0a 2 (M ++ T8a a0) w1 G' b0 v' b') (X : w0a G.toList w w1) (F : ∀ g ∈ G'.toList, g ∈ G.toList ∨ w.heap.size ≤ g) (i0 : a0[k]? = some (G, tE, cs)) : j3a tE M w1 (a0.set k (G', tE, b0)) (vs.set k v') (bs.set k b') := by
 obtain ⟨h1, h2, h3⟩ := h;have h0 : ∀ g ∈ G.toList, g ∈ T8a a0 := fun g hg => v3a.2 ⟨_, List.mem_of_getElem? i0, by cases G <;> simp at hg ⊢; exact hg.symm⟩;have d0 : ∀ g ∈ M ++ T8a (a0.set k (G', tE, b0)), (g ∈ M ++ T8a a0 ∨ g ∈ G'.toList) := fun g hg => by
  rcases List.mem_append.1 hg with h | h
  ·exact .inl (List.mem_append_left _ h)
  ·rcases T3c h with h | h
   ·exact .inl (List.mem_append_right _ h)
   ·exact .inr h
 refine ⟨by simp [h1], by simp [h2], fun i b hi => ?_⟩;rw [List.getElem?_set] at hi;by_cases e0 : k = i
 ·subst e0;rw [if_pos rfl, if_pos hk] at hi;cases hi;exact ⟨G', b0, v', by rw [List.getElem?_set_self (by omega)], by rw [List.getElem?_set_self (by omega)], f0.more k2a fun g hg => by
   rcases d0 g hg with h | h
   ·exact .inl (.inr h)
   ·exact .inl (.inl h)⟩
 ·rw [if_neg e0] at hi;obtain ⟨Gi, g0, vi, h4, h5, h6⟩ := h3 i b hi;refine ⟨Gi, g0, vi, by rw [List.getElem?_set_ne e0]; exact h4, by rw [List.getElem?_set_ne e0]; exact h5, ?_⟩;have e1 : P1a V0a 2 (G.toList ++ (M ++ T8a (a0.set k (G', tE, b0)))) w Gi g0 vi b := h6.more k2a fun g hg => by
   rcases List.mem_append.1 hg with h | h
   ·exact .inl (.inr (List.mem_append_right _ (h0 g h)))
   ·rcases d0 g h with h | h
    ·exact .inl (.inr h)
    ·rcases F g h with h | h
     ·exact .inl (.inr (List.mem_append_right _ (h0 g h)))
     ·exact .inr h
  exact (e1.keep k2a (X.mono fun g hg => List.mem_append_right _ (List.mem_append_left _ hg))).more k2a fun g hg => .inl (.inr (List.mem_append_right _ hg))
theorem j3a.rd {tE : TypeId} {M M' Mx : List Nat} {w0 w : World} {A a0 : List Ent} {vs : List Value} {bs : List (List G0a)} (h : j3a tE M w a0 vs bs) (S : St M' w0 w (A ++ a0)) (hx : ∀ g ∈ Mx, g ∈ M) (hM : ∀ g ∈ Mx, g ∉ T8a a0) (hl : ∀ b ∈ bs, b.length ≤ 1000) :
 ∀ (i : Nat) (b : List G0a), bs[i]? = some b → ∃ v, vs[i]? = some v ∧ r8c Mx w v b := fun i b hi => by
 obtain ⟨_, _, h3⟩ := h;obtain ⟨G, cs, v, h4, h5, h6⟩ := h3 i b hi;refine ⟨v, h5, ?_⟩;have h7 : P1a V0a 2 Mx w G cs v b := h6.more k2a fun g hg => .inl (.inr (List.mem_append_left _ (hx g hg)));refine h7.rd k2a S (k := A.length + i) (el := tE) (by rw [F6c A a0 i _ rfl]; exact h4) (fun g hg hm => hM g hm (v3a.2 ⟨_, List.mem_of_getElem? h4, hg⟩)) (by have := hl b (List.mem_of_getElem? hi); omega)
theorem St.rdBs {M M' : List Nat} {w0 w : World} {L : List Ent} (S : St M' w0 w L) (j : Nat) {g t : Nat} {vs : List Value} {bs : List (List G0a)} (hj : L[j]? = some (some g, t, vs)) (hg : g ∉ M) (a0 : bs.length ≤ 140737488355328) (h : ∀ (i : Nat) (b : List G0a), bs[i]? = some b → ∃ v, vs[i]? = some v ∧ r8c M w v b) : N8c M w (.slice (some ⟨g, 0, none⟩) bs.length bs.length) bs :=
 S.rd1 hj hg rfl a0 fun i x hi => by
  obtain ⟨v, h1, h2⟩ := h i x hi;exact ⟨v, h1, v, rfl, h2⟩
theorem j3a.less {tE : TypeId} {M M' : List Nat} {w : World} {a0 : List Ent} {vs : List Value} {bs : List (List G0a)} (h : j3a tE M w a0 vs bs) (hm : ∀ g ∈ M', g ∈ M) : j3a tE M' w a0 vs bs := by
 obtain ⟨h1, h2, h3⟩ := h;refine ⟨h1, h2, fun i b hi => ?_⟩;obtain ⟨G, cs, v, h4, h5, h6⟩ := h3 i b hi;exact ⟨G, cs, v, h4, h5, h6.more k2a fun g hg => .inl (.inr (by
  rcases List.mem_append.1 hg with h | h
  ·exact List.mem_append_left _ (hm g h)
  ·exact List.mem_append_right _ h))⟩
theorem s6b {α : Type} {l : List α} {k : Nat} {x : α} (h : l[k]? = some x) : l.set k x = l := by
 obtain ⟨a0, rfl⟩ := List.getElem?_eq_some_iff.1 h;exact List.set_getElem_self a0
theorem q7b {α : Type} {l : List α} {z : α} {k : Nat} (h : k < l.length) : (U2a l z k)[k]? = some z := by
 unfold U2a;rw [List.getElem?_append_right (by simp; omega), List.getElem?_replicate, if_pos (by simp; omega)]
theorem RdI.i64s {M : List Nat} {w : World} {v : Value} {l : List Int} (h : RdI M w v l) : ∀ x ∈ l, i64 x := fun x hx => by
 obtain ⟨_, _, _, rfl⟩ := h.form;obtain ⟨i, hi, rfl⟩ := List.getElem_of_mem hx;obtain ⟨_, _, _, _, h5⟩ := h.at;obtain ⟨_, _, _, _, a0⟩ := h5 (by omega);obtain ⟨_, _, _, h6⟩ := a0 i _ (List.getElem?_eq_getElem hi);exact h6.2
theorem O2b.rd {el : Nat} {w w1 : World} {v : Value} {l : List Int} (h : O2b el w w1 v l) {M : List Nat} (hM : ∀ g ∈ M, g < w.heap.size) (hl : ∀ x ∈ l, i64 x) (hb : Below w.heap.size w w1) (a0 : l.length ≤ 140737488355328) : RdI M w1 v l := by
 obtain ⟨_, _, h1, S⟩ := h.open_ ((St.refl w).later hb) (St.refl w);exact h1.rdI S (k := 0) rfl hM hl a0
theorem St.sublist {M : List Nat} {w0 w : World} {L L' : List Ent} (S : St M w0 w L) (h : L'.Sublist L) : St M w0 w L' := ⟨S.below, fun b hb => S.own b (h.subset hb), S.apart.sublist h⟩
theorem St.perm {M : List Nat} {w0 w : World} {L L' : List Ent} (S : St M w0 w L) (h : L.Perm L') : St M w0 w L' :=
 ⟨S.below, fun b hb => S.own b (h.symm.subset hb), (h.pairwise_iff (fun b0 g hg a0 => b0 g a0 hg)).1 S.apart⟩
theorem St.joinR {M : List Nat} {w0 w w' : World} {L A R : List Ent} (S : St M w0 w L) (S2 : St [] w w' (A ++ R)) : St M w0 w' ((A ++ L) ++ R) := by
 refine (S.join S2).perm ?_;rw [List.append_assoc, List.append_assoc];exact (List.perm_append_comm).append_left A
theorem P1a.erase {α : Type} {R : List Nat → World → List Value → α → Prop} {size : Nat} (hL : W4a R size) {M : List Nat} {w w1 : World} {G : Option Nat} {a0 : List Value} {v : Value} {l : List α} {css : List (List Value)} (l1 : css.length = l.length) (l2 : ∀ x ∈ css, x.length = size) (l4 : ∀ (i : Nat) (x : α), l[i]? = some x → ∃ c, css[i]? = some c ∧ R (G.toList ++ M) w c x)
 {i : Nat} (hi : i < l.length) (rv : C3a G size (l.length - 1) a0 v (css.eraseIdx i).flatten) (hk : w0a (G.toList ++ M) w w1) : P1a R size M w1 G a0 v (l.eraseIdx i) := by
 have b0 : (l.eraseIdx i).length = l.length - 1 := by rw [List.length_eraseIdx, if_pos hi]
 refine ⟨css.eraseIdx i, by rw [b0, List.length_eraseIdx, if_pos (by omega), l1], fun x hx => l2 x (List.mem_of_mem_eraseIdx hx), by rw [b0]; exact rv, fun k x hx => ?_⟩;rw [List.getElem?_eraseIdx] at hx ⊢
 split
 ·rename_i h;rw [if_pos h] at hx;obtain ⟨c, h5, h6⟩ := l4 k x hx;exact ⟨c, h5, hL.keep hk h6⟩
 ·rename_i h;rw [if_neg h] at hx;obtain ⟨c, h5, h6⟩ := l4 (k + 1) x hx;exact ⟨c, h5, hL.keep hk h6⟩
theorem y5c {M : List Nat} {w : World} {G : Option Nat} {l : List G0a} {css : List (List Value)} (l1 : css.length = l.length) (l4 : ∀ (i : Nat) (x : G0a), l[i]? = some x → ∃ c, css[i]? = some c ∧ V0a (G.toList ++ M) w c x) : ∀ u ∈ css.flatten, u.oneCell' = true := fun u hu => by
 obtain ⟨x, hx, hu⟩ := List.mem_flatten.1 hu;obtain ⟨i, hi, rfl⟩ := List.getElem_of_mem hx;obtain ⟨c, h5, h6⟩ := l4 i l[i] (List.getElem?_eq_getElem (by omega));rw [List.getElem?_eq_getElem hi] at h5; cases h5;exact k2a.one h6 u hu
theorem St.apartM {w0 w : World} {A a0 : List Ent} (S : St [] w0 w (A ++ a0)) {M : List Nat} (hM : ∀ g ∈ M, g < w0.heap.size) : ∀ g ∈ M, g ∉ T8a a0 := fun g hg hb => by
 obtain ⟨x, hx, b0⟩ := v3a.1 hb;have h2 := hM g hg;rcases (S.own x (List.mem_append_right _ hx) g b0).1 with h | h
 ·omega
 ·cases h
theorem w0a.fresh2 {a b c : World} {Q : List Nat} {g : Nat} (h : w0a Q a b) (k : w0a [g] b c) (hg : a.heap.size ≤ g ∨ g ∈ Q) : w0a Q a c :=
 ⟨Nat.le_trans h.size k.size, fun i hi hm => (k.same i (Nat.lt_of_lt_of_le hi h.size) (fun hh => by rw [List.mem_singleton] at hh; subst hh; rcases hg with hg | hg; omega; exact hm hg)).trans (h.same i hi hm)⟩
theorem w0a.freshL {a b c : World} {Q Gs : List Nat} (h : w0a Q a b) (k : w0a Gs b c) (hg : ∀ g ∈ Gs, a.heap.size ≤ g ∨ g ∈ Q) : w0a Q a c :=
 ⟨Nat.le_trans h.size k.size, fun i hi hm => (k.same i (Nat.lt_of_lt_of_le hi h.size) (fun hh => by rcases hg i hh with hg | hg; omega; exact hm hg)).trans (h.same i hi hm)⟩
def t6c (M : List Nat) (w0 w : World) (c : r0a) (v : Value) : Prop :=
 ∃ (Gm Ga : Option Nat) (csm csa : List Value) (vm va : Value) (gb : Nat) (rows : List Ent) (vs : List Value), v = .agg #[vm, va, .slice (some ⟨gb, 0, none⟩) c.buf.length c.buf.length] ∧ C3a Gm 1 c.mem.length csm vm (c.mem.map (Value.int .i64)) ∧ C3a Ga 1 c.at_.length csa va (c.at_.map (Value.int .i64)) ∧
  St [] w0 w ([(some gb, 79, vs), (Ga, 3, csa), (Gm, 3, csm)] ++ rows) ∧ j3a 81 (Gm.toList ++ (Ga.toList ++ (gb :: M))) w rows vs c.buf
theorem D0b {M : List Nat} {w0 w : World} {L : List Ent} (S : St M w0 w L) {G : Option Nat} {t : TypeId} {cs : List Value} {k : Nat} (hk : L[k]? = some (G, t, cs)) : ∀ g ∈ G.toList, g < w.heap.size := fun g hg => by
 have : G = some g := by cases G <;> simp at hg ⊢; exact hg.symm
 subst this;exact S.lt k hk
theorem x2b (Mx M : List Nat) (w0 : World) (v : Value) (l : List Int) (hR : RdI M w0 v l) (hl : l.length ≤ 100000000) (hM : ∀ g ∈ Mx, g < w0.heap.size) :
 M0a Tryz.prog 141 #[v] w0 fun v w' => RdI Mx w' v l ∧ Below w0.heap.size w0 w' :=
 (f7a M w0 v l hR hl).mono fun _ _ h => ⟨h.1.rd hM hR.i64s h.2 (by omega), h.2⟩
theorem q5b (p : f0a) (hp : a1a p) (c : r0a) (M : List Nat) (w0 : World) (hM : ∀ g ∈ M, g < w0.heap.size) (xs : List Value) (hX : t0a M w0 c xs) (hf : F3a p c) :
 M0a Tryz.prog 146 #[.agg xs.toArray] w0 fun v w' => t6c M w0 w' c v ∧ Below w0.heap.size w0 w' := by
 obtain ⟨Xm, xm, ym, Xa, xa, ya, Xb, xb, yb, rfl, y1, p2, u1, _, _, Q1, _, _, _⟩ := hX.open_;have S := St.refl w0;have f1 := hf.mem.len;have f2 := hf.nat;have n1 := hp.ncells;have n2 := hp.nthreads;have f3 := hf.nbuf;refine a0a Tryz.func146 rfl Tryz.ntmps146 rfl ?_;refine wO0 rfl ⟨⟩ (j0a S (by conv => lhs; whnf) rfl ?_);intro g1 w1 S1 X1 G1;refine n0a S1 U5a rfl rfl ?_;intro g2 w2 S2 X2 G2;refine lC0 rfl ⟨⟩ (t0c b0a (by kernel_rfl) (fun f ε w => ε 1 = .pointer (some ⟨g1, 0, none⟩) ∧ ε 2 = .pointer (some ⟨g2, 0, none⟩) ∧ ∃ f0 E9 E5 E2 : Ent, St [] w0 w [f0, E9, E5, E2, (some g2, 38, [.slice none 0 0, .slice none 0 0, .slice none 0 0]), (some g1, 38, [.slice Xm xm ym, .slice Xa xa ya, .slice Xb xb yb])] ∧ (f 0 = true → ε 8 = .pointer (some ⟨g1, 0, none⟩)) ∧ (f 1 = true → ε 9 = .slice Xm xm ym) ∧ (f 2 = true → ∃ G cs A n c', ε 10 = .slice A n c' ∧ E2 = (G, 3, cs) ∧ C3a G 1 c.mem.length cs (.slice A n c') (c.mem.map (Value.int .i64))) ∧ (f 3 = true → ε 11 = .pointer (some ⟨g1, 1, none⟩)) ∧ (f 4 = true → ε 12 = .slice Xa xa ya) ∧ (f 5 = true → ∃ G cs A n c', ε 13 = .slice A n c' ∧ E5 = (G, 3, cs) ∧ C3a G 1 c.at_.length cs (.slice A n c') (c.at_.map (Value.int .i64))) ∧ (f 6 = true → ε 14 = .pointer (some ⟨g1, 2, none⟩)) ∧ (f 7 = true → ε 15 = .slice Xb xb yb) ∧ (f 8 = true → ε 16 = .int .i64 xb) ∧ (f 9 = true → ∃ g, ε 17 = .slice (some ⟨g, 0, none⟩) xb xb ∧ E9 = (some g, 79, List.replicate xb (.slice none 0 0))) ∧ (f 10 = true → (f 2 = true ∧ f 5 = true ∧ f 9 = true) ∧ ε 18 = .agg #[ε 10, ε 13, ε 17]) ∧ (f 11 = true → f 12 = false → ∃ g, ε 3 = .pointer (some ⟨g, 0, none⟩) ∧ f0 = (some g, 38, [.slice none 0 0, .slice none 0 0, .slice none 0 0])) ∧ (f 12 = true → (∀ k, k < 12 → f k = true) ∧ ∃ g, ε 3 = .pointer (some ⟨g, 0, none⟩) ∧ f0 = (some g, 38, [ε 10, ε 13, ε 17]))) ?_ ?_ ?_)
 ·exact ⟨rfl, rfl, (none, 0, []), (none, 0, []), (none, 0, []), (none, 0, []), ((((S2.drew.nilEnt 0).nilEnt 0).nilEnt 0).nilEnt 0), by simp, by simp, by simp, by simp, by simp, by simp, by simp, by simp, by simp, by simp, by simp, by simp, by simp⟩
 ·rintro f ε w i o ⟨e1, e2, f0, E9, E5, E2, S, h0, h1, h2, h3, h4, h5, h6, h7, h8, h9, b0, p0, i0⟩ ho g0 q0;have hi : i < 13 := (List.getElem?_eq_some_iff.1 ho).1;refine V1a 1 e1 (V1a 2 e2 ?_);rcases (show i = 0 ∨ i = 1 ∨ i = 2 ∨ i = 3 ∨ i = 4 ∨ i = 5 ∨ i = 6 ∨ i = 7 ∨ i = 8 ∨ i = 9 ∨ i = 10 ∨ i = 11 ∨ i = 12 by omega) with rfl | rfl | rfl | rfl | rfl | rfl | rfl | rfl | rfl | rfl | rfl | rfl | rfl
  ·cases ho;refine M6a M4b rfl rfl ?_;refine S0a ⟨rfl, rfl, rfl, f0, E9, E5, E2, S, fun _ => rfl, fun hh => h1 (by simpa using hh), fun hh => h2 (by simpa using hh), fun hh => h3 (by simpa using hh), fun hh => h4 (by simpa using hh), fun hh => h5 (by simpa using hh), fun hh => h6 (by simpa using hh), fun hh => h7 (by simpa using hh), fun hh => h8 (by simpa using hh), fun hh => h9 (by simpa using hh), fun hh => ⟨⟨by simp [(b0 (by simpa using hh)).1.1], by simp [(b0 (by simpa using hh)).1.2.1], by simp [(b0 (by simpa using hh)).1.2.2]⟩, (b0 (by simpa using hh)).2⟩, fun hh e0 => p0 (by simpa using hh) (by simpa using e0), fun hh => absurd ((i0 (by simpa using hh)).1 0 (by omega)) (by simp [g0])⟩
  ·cases ho;refine V1a 8 (h0 (q0 0 (by decide))) ?_;refine s0a O3a rfl (S.cell 5 rfl rfl) rfl ?_;refine S0a ⟨rfl, rfl, rfl, f0, E9, E5, E2, S, fun _ => rfl, fun _ => rfl, fun hh => h2 (by simpa using hh), fun hh => h3 (by simpa using hh), fun hh => h4 (by simpa using hh), fun hh => h5 (by simpa using hh), fun hh => h6 (by simpa using hh), fun hh => h7 (by simpa using hh), fun hh => h8 (by simpa using hh), fun hh => h9 (by simpa using hh), fun hh => ⟨⟨by simp [(b0 (by simpa using hh)).1.1], by simp [(b0 (by simpa using hh)).1.2.1], by simp [(b0 (by simpa using hh)).1.2.2]⟩, (b0 (by simpa using hh)).2⟩, fun hh e0 => p0 (by simpa using hh) (by simpa using e0), fun hh => absurd ((i0 (by simpa using hh)).1 1 (by omega)) (by simp [g0])⟩
  ·cases ho;refine V1a 9 (h1 (q0 1 (by decide))) ?_;refine e2a L9a rfl rfl (f7a M _ _ c.mem (y1.keep (S.keep0 M)) (by omega)) ?_;rintro v w1 ⟨hN, hB⟩;obtain ⟨G, C0, R1, S1⟩ := hN.open_ (S.later hB) S;obtain ⟨A, n, c', rfl⟩ := R1.form;refine S0a ⟨rfl, rfl, rfl, f0, E9, E5, (G, 3, C0), S1.place 3, fun hh => h0 (by simpa using hh), fun _ => rfl, fun _ => ⟨G, C0, A, n, c', rfl, rfl, R1⟩, fun hh => h3 (by simpa using hh), fun hh => h4 (by simpa using hh), fun hh => h5 (by simpa using hh), fun hh => h6 (by simpa using hh), fun hh => h7 (by simpa using hh), fun hh => h8 (by simpa using hh), fun hh => h9 (by simpa using hh), fun hh => absurd (b0 (by simpa using hh)).1.1 (by simp [g0]), fun hh e0 => p0 (by simpa using hh) (by simpa using e0), fun hh => absurd ((i0 (by simpa using hh)).1 2 (by omega)) (by simp [g0])⟩
  ·cases ho;refine M6a w4b rfl rfl ?_;refine S0a ⟨rfl, rfl, rfl, f0, E9, E5, E2, S, fun hh => h0 (by simpa using hh), fun hh => h1 (by simpa using hh), fun hh => h2 (by simpa using hh), fun _ => rfl, fun hh => h4 (by simpa using hh), fun hh => h5 (by simpa using hh), fun hh => h6 (by simpa using hh), fun hh => h7 (by simpa using hh), fun hh => h8 (by simpa using hh), fun hh => h9 (by simpa using hh), fun hh => ⟨⟨by simp [(b0 (by simpa using hh)).1.1], by simp [(b0 (by simpa using hh)).1.2.1], by simp [(b0 (by simpa using hh)).1.2.2]⟩, (b0 (by simpa using hh)).2⟩, fun hh e0 => p0 (by simpa using hh) (by simpa using e0), fun hh => absurd ((i0 (by simpa using hh)).1 3 (by omega)) (by simp [g0])⟩
  ·cases ho;refine V1a 11 (h3 (q0 3 (by decide))) ?_;refine s0a O3a rfl (S.cell 5 rfl rfl) rfl ?_;refine S0a ⟨rfl, rfl, rfl, f0, E9, E5, E2, S, fun hh => h0 (by simpa using hh), fun hh => h1 (by simpa using hh), fun hh => h2 (by simpa using hh), fun _ => rfl, fun _ => rfl, fun hh => h5 (by simpa using hh), fun hh => h6 (by simpa using hh), fun hh => h7 (by simpa using hh), fun hh => h8 (by simpa using hh), fun hh => h9 (by simpa using hh), fun hh => ⟨⟨by simp [(b0 (by simpa using hh)).1.1], by simp [(b0 (by simpa using hh)).1.2.1], by simp [(b0 (by simpa using hh)).1.2.2]⟩, (b0 (by simpa using hh)).2⟩, fun hh e0 => p0 (by simpa using hh) (by simpa using e0), fun hh => absurd ((i0 (by simpa using hh)).1 4 (by omega)) (by simp [g0])⟩
  ·cases ho;refine V1a 12 (h4 (q0 4 (by decide))) ?_;refine e2a L9a rfl rfl (f7a M _ _ c.at_ (p2.keep (S.keep0 M)) (by omega)) ?_;rintro v w1 ⟨hN, hB⟩;obtain ⟨G, C0, R1, S1⟩ := hN.open_ (S.later hB) S;obtain ⟨A, n, c', rfl⟩ := R1.form;refine S0a ⟨rfl, rfl, rfl, f0, E9, (G, 3, C0), E2, S1.place 2, fun hh => h0 (by simpa using hh), fun hh => h1 (by simpa using hh), fun hh => h2 (by simpa using hh), fun hh => h3 (by simpa using hh), fun _ => rfl, fun _ => ⟨G, C0, A, n, c', rfl, rfl, R1⟩, fun hh => h6 (by simpa using hh), fun hh => h7 (by simpa using hh), fun hh => h8 (by simpa using hh), fun hh => h9 (by simpa using hh), fun hh => absurd (b0 (by simpa using hh)).1.2.1 (by simp [g0]), fun hh e0 => p0 (by simpa using hh) (by simpa using e0), fun hh => absurd ((i0 (by simpa using hh)).1 5 (by omega)) (by simp [g0])⟩
  ·cases ho;refine M6a a5a rfl rfl ?_;refine S0a ⟨rfl, rfl, rfl, f0, E9, E5, E2, S, fun hh => h0 (by simpa using hh), fun hh => h1 (by simpa using hh), fun hh => h2 (by simpa using hh), fun hh => h3 (by simpa using hh), fun hh => h4 (by simpa using hh), fun hh => h5 (by simpa using hh), fun _ => rfl, fun hh => h7 (by simpa using hh), fun hh => h8 (by simpa using hh), fun hh => h9 (by simpa using hh), fun hh => ⟨⟨by simp [(b0 (by simpa using hh)).1.1], by simp [(b0 (by simpa using hh)).1.2.1], by simp [(b0 (by simpa using hh)).1.2.2]⟩, (b0 (by simpa using hh)).2⟩, fun hh e0 => p0 (by simpa using hh) (by simpa using e0), fun hh => absurd ((i0 (by simpa using hh)).1 6 (by omega)) (by simp [g0])⟩
  ·cases ho;refine V1a 14 (h6 (q0 6 (by decide))) ?_;refine s0a o6a rfl (S.cell 5 rfl rfl) rfl ?_;refine S0a ⟨rfl, rfl, rfl, f0, E9, E5, E2, S, fun hh => h0 (by simpa using hh), fun hh => h1 (by simpa using hh), fun hh => h2 (by simpa using hh), fun hh => h3 (by simpa using hh), fun hh => h4 (by simpa using hh), fun hh => h5 (by simpa using hh), fun _ => rfl, fun _ => rfl, fun hh => h8 (by simpa using hh), fun hh => h9 (by simpa using hh), fun hh => ⟨⟨by simp [(b0 (by simpa using hh)).1.1], by simp [(b0 (by simpa using hh)).1.2.1], by simp [(b0 (by simpa using hh)).1.2.2]⟩, (b0 (by simpa using hh)).2⟩, fun hh e0 => p0 (by simpa using hh) (by simpa using e0), fun hh => absurd ((i0 (by simpa using hh)).1 7 (by omega)) (by simp [g0])⟩
  ·cases ho;refine V1a 15 (h7 (q0 7 (by decide))) ?_;refine U7c P4a.slT rfl rfl ?_;refine S0a ⟨rfl, rfl, rfl, f0, E9, E5, E2, S, fun hh => h0 (by simpa using hh), fun hh => h1 (by simpa using hh), fun hh => h2 (by simpa using hh), fun hh => h3 (by simpa using hh), fun hh => h4 (by simpa using hh), fun hh => h5 (by simpa using hh), fun hh => h6 (by simpa using hh), fun _ => rfl, fun _ => rfl, fun hh => h9 (by simpa using hh), fun hh => ⟨⟨by simp [(b0 (by simpa using hh)).1.1], by simp [(b0 (by simpa using hh)).1.2.1], by simp [(b0 (by simpa using hh)).1.2.2]⟩, (b0 (by simpa using hh)).2⟩, fun hh e0 => p0 (by simpa using hh) (by simpa using e0), fun hh => absurd ((i0 (by simpa using hh)).1 8 (by omega)) (by simp [g0])⟩
  ·cases ho;refine V1a 16 (h8 (q0 8 (by decide))) ?_;refine F8b (n := xb) (c := xb) S P4a rfl rfl (by omega) (by omega) (by omega) rfl rfl ?_;intro g w1 S1 X1 G1;refine S0a ⟨rfl, rfl, rfl, f0, (some g, 79, List.replicate xb (.slice none 0 0)), E5, E2, S1.place 1, fun hh => h0 (by simpa using hh), fun hh => h1 (by simpa using hh), fun hh => h2 (by simpa using hh), fun hh => h3 (by simpa using hh), fun hh => h4 (by simpa using hh), fun hh => h5 (by simpa using hh), fun hh => h6 (by simpa using hh), fun hh => h7 (by simpa using hh), fun _ => rfl, fun _ => ⟨g, rfl, rfl⟩, fun hh => absurd (b0 (by simpa using hh)).1.2.2 (by simp [g0]), fun hh e0 => p0 (by simpa using hh) (by simpa using e0), fun hh => absurd ((i0 (by simpa using hh)).1 9 (by omega)) (by simp [g0])⟩
  ·cases ho;obtain ⟨G2, cs2, A2, n2, c2, q2, r2⟩ := h2 (q0 2 (by decide));obtain ⟨G5, p1, A5, n5, c5, q5, r5⟩ := h5 (q0 5 (by decide));obtain ⟨g9, q9, r9⟩ := h9 (q0 9 (by decide));refine V1a 10 q2 (V1a 13 q5 (V1a 17 q9 ?_));refine j1a o5a (vs := [(0, .slice _ _ _), (1, .slice _ _ _), (2, .slice _ _ _)]) (cs := [_, _, _]) rfl rfl rfl rfl ?_;refine S0a ⟨rfl, rfl, rfl, f0, E9, E5, E2, S, fun hh => h0 (by simpa using hh), fun hh => h1 (by simpa using hh), fun _ => ⟨G2, cs2, A2, n2, c2, rfl, r2⟩, fun hh => h3 (by simpa using hh), fun hh => h4 (by simpa using hh), fun _ => ⟨G5, p1, A5, n5, c5, rfl, r5⟩, fun hh => h6 (by simpa using hh), fun hh => h7 (by simpa using hh), fun hh => h8 (by simpa using hh), fun _ => ⟨g9, rfl, r9⟩, fun _ => ⟨⟨by simp [q0 2 (by decide)], by simp [q0 5 (by decide)], by simp [q0 9 (by decide)]⟩, rfl⟩, fun hh e0 => p0 (by simpa using hh) (by simpa using e0), fun hh => absurd ((i0 (by simpa using hh)).1 10 (by omega)) (by simp [g0])⟩
  ·cases ho;refine n0a S U5a rfl rfl ?_;intro g w1 S1 X1 G1;refine S0a ⟨rfl, rfl, rfl, (some g, 38, [.slice none 0 0, .slice none 0 0, .slice none 0 0]), E9, E5, E2, S1.place 0, fun hh => h0 (by simpa using hh), fun hh => h1 (by simpa using hh), fun hh => h2 (by simpa using hh), fun hh => h3 (by simpa using hh), fun hh => h4 (by simpa using hh), fun hh => h5 (by simpa using hh), fun hh => h6 (by simpa using hh), fun hh => h7 (by simpa using hh), fun hh => h8 (by simpa using hh), fun hh => h9 (by simpa using hh), fun hh => ⟨⟨by simp [(b0 (by simpa using hh)).1.1], by simp [(b0 (by simpa using hh)).1.2.1], by simp [(b0 (by simpa using hh)).1.2.2]⟩, (b0 (by simpa using hh)).2⟩, fun _ _ => ⟨g, rfl, rfl⟩, fun hh => absurd ((i0 (by simpa using hh)).1 11 (by omega)) (by simp [g0])⟩
  ·cases ho;have d0 : ∀ k, k < 12 → f k = true := fun k hk => q0 k (by revert k; decide);obtain ⟨g, q3, rfl⟩ := p0 (d0 11 (by omega)) g0;have U0 := (b0 (d0 10 (by omega))).2;obtain ⟨G2, cs2, A2, n2, c2, q2, r2⟩ := h2 (d0 2 (by omega));obtain ⟨G5, p1, A5, n5, c5, q5, r5⟩ := h5 (d0 5 (by omega));obtain ⟨g9, q9, r9⟩ := h9 (d0 9 (by omega));rw [q2, q5, q9] at U0;refine V1a 10 q2 (V1a 13 q5 (V1a 17 q9 (V1a 3 q3 (V1a 18 U0 ?_))));refine e0a (kk := 0) (vs := [_, _, _]) S S2a rfl rfl rfl rfl rfl rfl rfl ?_;intro w1 S1 X1;dsimp only [k0a, List.set] at S1;refine S0a ⟨rfl, rfl, rfl, (some g, 38, [.slice A2 n2 c2, .slice A5 n5 c5, .slice (some ⟨g9, 0, none⟩) xb xb]), E9, E5, E2, S1, fun hh => h0 (by simpa using hh), fun hh => h1 (by simpa using hh), fun _ => ⟨G2, cs2, A2, n2, c2, rfl, r2⟩, fun hh => h3 (by simpa using hh), fun hh => h4 (by simpa using hh), fun _ => ⟨G5, p1, A5, n5, c5, rfl, r5⟩, fun hh => h6 (by simpa using hh), fun hh => h7 (by simpa using hh), fun hh => h8 (by simpa using hh), fun _ => ⟨g9, rfl, r9⟩, fun _ => ⟨⟨by simp [d0 2 (by omega)], by simp [d0 5 (by omega)], by simp [d0 9 (by omega)]⟩, rfl⟩, fun _ hh => by simp at hh, fun _ => ⟨fun k hk => by simp [d0 k hk], g, rfl, rfl⟩⟩
 rintro f ε w ⟨e1, e2, f0, E9, E5, E2, S, h0, h1, h2, h3, h4, h5, h6, h7, h8, h9, b0, p0, i0⟩ d0;obtain ⟨-, g3, q3, rfl⟩ := i0 (d0 12 (by decide));obtain ⟨Gm, r1, Am, nm, cm, U0, rfl, Rm⟩ := h2 (d0 2 (by decide));obtain ⟨Ga, q1, Aa, na, ca, U1, rfl, Ra⟩ := h5 (d0 5 (by decide));obtain ⟨gb, V1, rfl⟩ := h9 (d0 9 (by decide));rw [U0, U1, V1] at S;clear d0 h0 h1 h2 h3 h4 h5 h6 h7 h8 h9 b0 p0 i0 U0 U1 V1;refine fN 1 e1 (fN 2 e2 (fN 3 q3 ?_));replace S := S.nils (R := List.replicate xb (none, 81, [])) (fun b hb => by rw [List.eq_of_mem_replicate hb]);refine fC S.k [.o 5] rfl ⟨rfl,⟨⟩⟩ ?_;refine wL (fun μk D ε w => D = [] ∧ ∃ k : Nat, ∃ s0 : List Ent, ∃ vs : List Value, (k + μk = (c.buf.length)) ∧ (j3a 81 (Gm.toList ++ (Ga.toList ++ ([gb, g3, g2] ++ M))) w s0 vs (U2a c.buf [] k)) ∧ St [] w0 w ([(some g3, 38, [.slice Am nm cm, .slice Aa na ca, .slice (some ⟨gb, 0, none⟩) xb xb]), (some gb, 79, vs), (Ga, 3, q1), (Gm, 3, r1), (some g2, 38, [.slice none 0 0, .slice none 0 0, .slice none 0 0]), (some g1, 38, [.slice Xm xm ym, .slice Xa xa ya, .slice Xb xb yb])] ++ s0) ∧ Sl ε [(2, .pointer (some ⟨g2, 0, none⟩)), (3, .pointer (some ⟨g3, 0, none⟩)), (20, .slice Xb xb yb), (21, .int .i64 xb), (22, .int .i64 k)]) (μ := (c.buf.length)) ⟨rfl, 0, List.replicate xb (none, 81, []), List.replicate xb (.slice none 0 0), by omega, by rw [t6a, ← Q1]; exact j3a.nil xb, S, rfl⟩ ?_;rintro μk D ε w ⟨rfl, k, s0, vs, hk, hR, S, eZ⟩;refine wK eZ (wB0 rfl ⟨⟩ (fun m2 => ?_) fun m2 => ?_)
 ·obtain ⟨b, i2, t2, _, I1, s1, _, _, z1, C1⟩ := RdS.get (u1) (k) (by omega);obtain ⟨X0, T0, m1, rfl, N0, _, _⟩ := s5a.open_ C1;have q3 := (hf.bufs k b I1);have s2 : j3a 81 (Gm.toList ++ (Ga.toList ++ ([gb, g3, g2] ++ M))) w s0 vs ((U2a c.buf [] k).set k (b.take 0)) := by rw [List.take_zero, s6b (q7b (R1a I1))]; exact hR
  refine lC (S.k.a z1) [.x i2 t2,.f 0 0] rfl ⟨rfl,⟨s1,by omega⟩,⟨⟩⟩ (wL (fun μj D ε w => D = [] ∧ ∃ j : Nat, ∃ a0 : List Ent, ∃ z0 : List Value, (j + μj = (b.length)) ∧ (j3a 81 (Gm.toList ++ (Ga.toList ++ ([gb, g3, g2] ++ M))) w a0 z0 ((U2a c.buf [] k).set k (b.take j))) ∧ St [] w0 w ([(some g3, 38, [.slice Am nm cm, .slice Aa na ca, .slice (some ⟨gb, 0, none⟩) xb xb]), (some gb, 79, z0), (Ga, 3, q1), (Gm, 3, r1), (some g2, 38, [.slice none 0 0, .slice none 0 0, .slice none 0 0]), (some g1, 38, [.slice Xm xm ym, .slice Xa xa ya, .slice Xb xb yb])] ++ a0) ∧ Sl ε [(2, .pointer (some ⟨g2, 0, none⟩)), (3, .pointer (some ⟨g3, 0, none⟩)), (4, .int .i64 k), (20, .slice Xb xb yb), (21, .int .i64 xb), (22, .int .i64 k), (27, .slice X0 T0 m1), (28, .int .i64 T0), (29, .int .i64 j)]) (μ := (b.length)) ⟨rfl, 0, s0, vs, by omega, s2, S, rfl⟩ ?_);rintro μj D ε w ⟨rfl, j, a0, z0, _, P0, S, eZ⟩;refine wK eZ ?_;have K := w0a.refl [] w;have N1 : ∀ g ∈ (Gm.toList ++ (Ga.toList ++ ([gb, g3, g2] ++ M))) ++ T8a a0, g < w.heap.size := by
   intro g hg;simp only [List.mem_append, List.mem_cons, List.not_mem_nil, or_false] at hg;rcases hg with (hg | hg | (rfl | rfl | rfl) | hg) | hg
   ·exact D0b S (k := 3) rfl g hg
   ·exact D0b S (k := 2) rfl g hg
   ·exact S.lt 1 rfl
   ·exact S.lt 0 rfl
   ·exact S.lt 4 rfl
   ·have := hM g hg; have := S.size; omega
   ·obtain ⟨x, hx, hg⟩ := v3a.1 hg; exact (S.own x (List.mem_append_right _ hx) g hg).2.lt
  refine wB0 rfl ⟨⟩ (fun o2 => ?_) fun o2 => ?_
  ·obtain ⟨en, j2, u2, _, F0, t1, _, B1, A1, D1⟩ := RdS.get (N0) (j) (by omega);obtain ⟨_, _, _, _, _, _, rfl, O0, Q0, _, _, _, _⟩ := V0a.open_ D1;have q4 := (q3.2.1 en (c0a F0)).len;have q5 := (q3.2.1 en (c0a F0)).even;unfold G0a.even at q5;refine lO (S.k.a A1) [.x j2 u2,.v 0] rfl ⟨⟨rfl,B1⟩,⟨t1,by omega⟩,⟨⟩⟩ (n0a S n9a rfl rfl ?_);intro g7 w7 S7 X7 G7;have b2 := Nat.le_trans K.size G7;replace K := K.trans X7;refine e0a (kk := 0) (vs := [_, _]) S7 X9a rfl rfl rfl rfl rfl rfl rfl ?_;intro G0 B0 i1;dsimp only [k0a, List.set] at B0;replace K := K.fresh i1 (by first | exact b2);obtain ⟨G, C0, v, W0, T1, E1⟩ := P0.2.2 k (b.take j) (by rw [List.getElem?_set_self (by simp; omega)]);obtain ⟨_, _, rfl⟩ := E1.form;have C2 : z0.length = c.buf.length := by have := P0.2.1; simpa using this
   have P1 : (b.take j).length = j := by rw [List.length_take]; omega
   have M1 : ∀ g ∈ G.toList, g ∈ (Gm.toList ++ (Ga.toList ++ ([gb, g3, g2] ++ M))) ++ T8a a0 := fun g hg => List.mem_append_right _ (v3a.2 ⟨_, List.mem_of_getElem? W0, by cases G <;> simp at hg ⊢; exact hg.symm⟩);refine lC0 rfl ⟨⟩ (g0b b0a (fun i => [0, 1, 2, 3, 4, 5, 6, 7, 8, 9, 11, 12, 14, 17].contains i) [0, 1, 2, 3, 4, 5, 6, 7, 8, 9, 10, 11, 12, 13, 14, 15, 16, 17] 18 (by kernel_rfl) (by kernel_rfl) (clF (A := [_, _, _, _, _, _, _]) (R := a0) B0 G.toList) _ rfl ?_);have n0 := B0.drew;have j1 : w0a [] G0 G0.drew := x2a _ _;generalize G0.drew = y2 at n0 j1 ⊢;have t0 : w0a (G.toList) _ _ := j1.of_nil;replace K := K.trans j1;refine N1a ⟨(St.front (A := [_, _, _, _, _, _, _]) n0), t0⟩ rfl rfl rfl ?_;refine F0a a5a rfl rfl ?_;refine d0a ?_;refine N1a ⟨(St.front (A := [_, _, _, _, _, _, _]) n0), t0⟩ rfl rfl rfl ?_;refine h0a o6a rfl (fun w1 hw => by exact hw.1.cell 1 rfl rfl) rfl ?_;refine d0a ?_;refine N1a ⟨(St.front (A := [_, _, _, _, _, _, _]) n0), t0⟩ rfl rfl rfl ?_;refine f1a (v := .int .i64 _) rfl rfl ?_;refine d0a ?_;refine N1a ⟨(St.front (A := [_, _, _, _, _, _, _]) n0), t0⟩ rfl rfl rfl ?_;refine F0a a5a rfl rfl ?_;refine d0a ?_;refine N1a ⟨(St.front (A := [_, _, _, _, _, _, _]) n0), t0⟩ rfl rfl rfl ?_;refine h0a o6a rfl (fun w1 hw => by exact hw.1.cell 1 rfl rfl) rfl ?_;refine d0a ?_;refine N1a ⟨(St.front (A := [_, _, _, _, _, _, _]) n0), t0⟩ rfl rfl rfl ?_;refine f1a (v := .int .i64 _) rfl rfl ?_;refine d0a ?_;refine N1a ⟨(St.front (A := [_, _, _, _, _, _, _]) n0), t0⟩ rfl rfl rfl ?_;refine m0a P4a.slT rfl (by rfl) rfl (by omega) (by omega) rfl ?_;refine d0a ?_;refine N1a ⟨(St.front (A := [_, _, _, _, _, _, _]) n0), t0⟩ rfl rfl rfl ?_;refine h0a a3b rfl (fun w1 hw => by exact hw.1.cell 2 rfl ((congrArg (z0[·]?) (show 0 + (k : Int).toNat * 1 = k by simp)).trans T1)) rfl ?_;refine d0a ?_;refine N1a ⟨(St.front (A := [_, _, _, _, _, _, _]) n0), t0⟩ rfl rfl rfl ?_;refine F0a o4b rfl rfl ?_;refine d0a ?_;refine N1a ⟨(St.front (A := [_, _, _, _, _, _, _]) n0), t0⟩ rfl rfl rfl ?_;refine h0a O3a rfl (fun w1 hw => by exact hw.1.cell 0 rfl rfl) rfl ?_;refine d0a ?_;refine T9a ⟨(St.front (A := [_, _, _, _, _, _, _]) n0), t0⟩ rfl rfl rfl rfl ?_;have v1 : ∀ g ∈ (Gm.toList ++ (Ga.toList ++ ([gb, g3, g2] ++ M))) ++ T8a a0, g < y2.heap.size := fun g hg => Nat.lt_of_lt_of_le (N1 g hg) K.size;refine B0a n0 L9a rfl rfl (x2b _ M _ _ en.cells (O0.keep (n0.keep0 M)) (by omega) v1) ?_;rintro D2 x2 r0 H0 J1;have o0 := t0.trans (J1.mono (by simp));replace K := K.trans J1;obtain ⟨_, _, _, rfl⟩ := r0.form;refine S0a ⟨rfl, ?_⟩;refine N1a ⟨(St.front (A := [_, _, _, _, _, _, _]) H0), o0⟩ rfl rfl rfl ?_;refine F0a r9b rfl rfl ?_;refine d0a ?_;refine N1a ⟨(St.front (A := [_, _, _, _, _, _, _]) H0), o0⟩ rfl rfl rfl ?_;refine h0a O3a rfl (fun w1 hw => by exact hw.1.cell 0 rfl rfl) rfl ?_;refine d0a ?_;refine T9a ⟨(St.front (A := [_, _, _, _, _, _, _]) H0), o0⟩ rfl rfl rfl rfl ?_;have x1 : ∀ g ∈ (Gm.toList ++ (Ga.toList ++ ([gb, g3, g2] ++ M))) ++ T8a a0, g < x2.heap.size := fun g hg => Nat.lt_of_lt_of_le (N1 g hg) K.size;refine B0a H0 L9a rfl rfl (x2b _ M _ _ en.values (Q0.keep (H0.keep0 M)) (by omega) x1) ?_;rintro F2 H2 x0 Z0 d1;have u0 := o0.trans (d1.mono (by simp));replace K := K.trans d1;replace r0 := r0.keep (d1.of_nil);obtain ⟨_, _, _, rfl⟩ := x0.form;refine S0a ⟨rfl, ?_⟩;refine N1a ⟨(St.front (A := [_, _, _, _, _, _, _]) Z0), u0⟩ rfl rfl rfl ?_;refine h2a f7c (vs := [(0, .slice _ _ _), (1, .slice _ _ _)]) (cs := [_, _]) rfl rfl rfl rfl ?_;refine d0a ?_;refine T9a ⟨(St.front (A := [_, _, _, _, _, _, _]) Z0), u0⟩ rfl rfl rfl rfl ?_;refine E0a Z0 Q4a (vs := [.agg _]) (cs := [_, _]) (by rfl) rfl rfl rfl rfl rfl rfl ?_;intro B2 I2 a1 V0 z2;have y0 := u0.trans (V0.mono (by simp));replace K := K.trans V0;replace r0 := r0.keep (V0.of_nil);replace x0 := x0.keep (V0.of_nil);refine S0a ⟨rfl, ?_⟩;refine T9a ⟨(St.front (A := [_, _, _, _, _, _, _, _]) a1).tail, y0⟩ rfl rfl rfl rfl ?_;have O1 := P0.keep (K.of_nil);obtain ⟨G', o1, _, R0, H1, S0⟩ := O1.2.2 k (b.take j) (by rw [List.getElem?_set_self (by simp; omega)]);obtain ⟨rfl, rfl⟩ : G = G' ∧ C0 = o1 := by rw [W0] at R0; cases R0; exact ⟨rfl, rfl⟩
   obtain rfl := Option.some.inj (T1.symm.trans H1);refine C1a k2a (k := 8 + k) (e1 := en) a1 Q4a (by decide) ((F6c [_, _, _, _, _, _, _, _] a0 k 8 rfl).trans W0) S0 rfl rfl (a1.cells 0 rfl) ⟨_, _, rfl, r0.more (by omega) (fun g hg => .inl (by rcases List.mem_append.1 hg with h | h; exact M1 g h; exact h)), x0.more (by omega) (fun g hg => .inl (by rcases List.mem_append.1 hg with h | h; exact M1 g h; exact h))⟩ (by omega) rfl ?_;intro v2 Y0 D0 Y1 b1 v0 K1 a2;have d2 : St [] w0 Y1 ([_, _, _, _, _, _, _, _] ++ a0.set k (Y0, 81, D0)) := (a9c [_, _, _, _, _, _, _, _] a0 k 8 rfl _) ▸ b1;have A0 := d2.tail;have L0 := y0.trans K1;have E0 : j3a 81 (Gm.toList ++ (Ga.toList ++ ([gb, g3, g2] ++ M))) Y1 (a0.set k (Y0, 81, D0)) (z0.set k v2) ((U2a c.buf [] k).set k (b.take (j + 1))) := by
    have := O1.put (k := k) (by simp; omega) v0 K1 a2 W0;rw [List.set_set] at this;rw [J0a F0]; exact this
   obtain ⟨_, _, F1⟩ := v0.form;subst F1;refine S0a ⟨rfl, ?_⟩;refine N1a ⟨(St.front (A := [_, _, _, _, _, _, _]) A0), L0⟩ rfl rfl rfl ?_;refine m0a P4a.slT rfl (by rfl) rfl (by omega) (by omega) rfl ?_;refine d0a ?_;refine K5a ⟨(St.front (A := [_, _, _, _, _, _, _]) A0), L0⟩ ?_
   first | refine I0a (kk := 2) A0 r4c rfl (by conv => lhs; whnf) rfl rfl (by (simp; omega)) ?_
   intro Z1 I0 K0;replace E0 := E0.keep (K0.mono (by simp));refine S0a ⟨rfl, ?_⟩;refine fP0 rfl ⟨by omega,⟨⟩⟩ ⟨μj - 1, by omega, rfl, (j + 1), (a0.set k (Y0, 81, D0)), (z0.set k _), (by omega), (E0), (I0.tail.setEnt 1 rfl (by simp)), rfl⟩
  refine lP0 rfl ⟨by omega,⟨⟩⟩ ?_;refine ⟨μk - 1, by omega, rfl, (k + 1), (a0), (z0), (by omega), (by rw [← y7a I1 rfl]; rw [List.take_of_length_le (by omega)] at P0; exact P0), S, rfl⟩
 refine lO0 rfl ⟨⟩ (x1a o1a rfl (S.cells 0 rfl) rfl rfl ?_)
 first | refine e0a (kk := 4) (vs := [_, _, _]) S S2a rfl rfl rfl rfl rfl rfl rfl ?_
 intro W1 j0 J0;dsimp only [k0a, List.set] at j0;replace hR := hR.keep (J0.mono (by simp));refine lR0 rfl ⟨⟩ ?_;rw [m8a _ _ (by omega)] at hR;refine r1a (n := 3) rfl o1a rfl (j0.cells 4 rfl) rfl ⟨⟨Gm, Ga, r1, q1, _, _, gb, s0, vs, by rw [← Q1], Rm, Ra, j0.sublist ?_, hR.less ?_⟩, j0.fin⟩
 ·exact .cons _ (.cons_cons _ (.cons_cons _ (.cons_cons _ (.cons _ (.cons _ (List.Sublist.refl _))))))
 ·intro g hg;simp only [List.mem_append, List.mem_cons] at hg ⊢;rcases hg with h | h | h | h <;> simp [h]
section
variable {P : Program} {r : Option Nat} {N : Nat} {D : List Deferred} {e : Env} {w w0 : World} {ops : Array Oper} {rest : List Oper} {K : List Deferred → Env → World → Prop} {L : List Ent} {M : List Nat}
variable {d : Nat} {t : TypeId} {p : String} {af : Array Edge} {x y : Operand} {kd : IntKind}
theorem x6c {o : Oper} {v : Value} {w' : World} (hg : o.guard = none) (b0 : o.dst = none) (a0 : ∀ c, o.op ≠ .defer c)
 (e0 : (execOp (ev e) o).run P w = .ok (.value v) w') (h : WL P r N ops rest K D e w') : WL P r N ops (o :: rest) K D e w := by
 unfold WL at *; intro a Q hs f0 he hK;have d0 := h a Q hs f0 he hK;simp only [wpListIn, Region.wanted, hg, if_true];refine ⟨u0a o w _, ?_⟩;have : Oper.semAt (fc r).round a.eval o = execOp (ev e) o := by rw [Oper.semAt_eq _ _ _ a0, c2a, he]
 rw [this, e0, Oper.uponIn_value, b0];exact d0
theorem g3b {ty el size e0 k n m c b o g d0 : Nat} {z : Value} {cs xs news : List Value} (S : St M w0 w L) (hS : SlZ P ty el size z e0) (hk : L[k]? = some (some g, el, cs)) (hR : C3a (some g) size n cs (.slice (some ⟨g, 0, none⟩) n d0) xs)
 (hx : ev e x = .slice (some ⟨g, 0, none⟩) n d0) (hy : ev e y = .slice (some ⟨b, o, none⟩) m c) (f0 : i1a w b o news) (hl : news.length = m * size) (h1 : ∀ u ∈ news, u.oneCell' = true) (h0 : n + m ≤ d0) (hd : Nat.ble (d + 1) N = true)
 (h : ∀ i0 w1, St M w0 w1 (L.set k (some g, el, i0)) → C3a (some g) size (n + m) i0 (.slice (some ⟨g, 0, none⟩) (n + m) d0) (xs ++ news) → w0a [g] w w1 → WL P r N ops rest K D (upd e d (.slice (some ⟨g, 0, none⟩) (n + m) d0)) w1) :
 WL P r N ops (⟨some d, .call { callee := .builtin .append, args := #[x, y], argTypes := #[ty, ty] }, t, p, af, none⟩ :: rest) K D e w := by
 obtain ⟨i, hi, _, t0, _⟩ := hS.parts;obtain ⟨o0, _⟩ := hR.own S hk;obtain ⟨w1, p0, g0, a0⟩ := run_append_fits (P := P) w 0 ty t el i size hS.und hi t0 g n d0 xs o0 ⟨b, o, none⟩ m c news hl (fun j u hj => by rw [Addr.add_lit]; exact f0 j u hj) h1 h0;obtain ⟨G', i0, r0, q0, n0⟩ := g8a g0;obtain rfl : G' = some g := q0.symm;obtain ⟨_, j0⟩ := n0 g rfl;have b0 : ∀ q, q < w.heap.size → some g ≠ some q → w1.heap[q]? = w.heap[q]? := fun q hq s0 => a0.block q hq s0.symm;have hB : v0a [g] w w1 := ⟨a0.os, a0.tape, a0.output, a0.size, fun q hq hm => b0 q hq (fun hh => hm (by cases hh; simp))⟩;refine c1a (v := .slice (some ⟨g, 0, none⟩) (n + m) d0) (w' := w1) rfl rfl hd (by simp) ?_ (h i0 w1 (S.changed1 k hk hB j0) r0 ⟨a0.size, fun q hq hm => b0 q hq (fun hh => hm (by cases hh; simp))⟩);simp [execOp, resolve, invoke, builtin, hx, hy, p0]
theorem X0c {ty el size a0 g o c tb kk : Nat} {z : Value} {cs : List Value} (S : St M w0 w L) (hS : SlZ P ty el size z a0) (hx : ev e x = .slice (some ⟨g, o, none⟩) 1 c) (hk : L[kk]? = some (some g, tb, cs)) (ho : o + z.cells.toList.length ≤ cs.length) (h1 : ∀ v ∈ z.cells.toList, T4c v = true)
 (h : ∀ w1, St M w0 w1 (L.set kk (some g, tb, k0a cs o z.cells.toList)) → w0a [g] w w1 → WL P r N ops rest K D e w1) :
 WL P r N ops (⟨none, .call { callee := .builtin .clear, args := #[x], argTypes := #[ty] }, t, p, af, none⟩ :: rest) K D e w := by
 obtain ⟨_, hi, hz, _, _⟩ := hS.parts;obtain ⟨w1, h2, h3, h4⟩ := St.setN (P := P) (o := o) z.cells.toList 0 cs w L hk S (by simpa using ho) h1;have b0 : (Builtin.zeroCells z.cells 1).toList = z.cells.toList := by
  apply List.ext_getElem
  ·simp [Builtin.zeroCells]
  ·intro j q1 q2;simp [Builtin.zeroCells] at q1 q2 ⊢;simp [Nat.mod_eq_of_lt q2, q2]
 have d0 : ∀ w, (zeroValue el).run P w = .ok z w := fun w => by simp [zeroValue, typeInfo, hi, hz]
 refine x6c (v := .tuple #[]) rfl rfl (by simp) ?_ (h w1 h3 h4);simp [execOp, resolve, invoke, builtin, Builtin.clear_, hx, run_underlying hS.und, d0, b0, h2]
theorem f1c {ty size lo hi mx c n o b : Nat} {xl xh xm : Operand} (hT : SlT P ty size) (hx : ev e x = .slice (some ⟨b, o, none⟩) n c) (hl : ev e xl = .int kd (lo : Int)) (hh : ev e xh = .int kd (hi : Int)) (hm : ev e xm = .int kd (mx : Int)) (h1 : lo ≤ hi) (h2 : hi ≤ mx) (h3 : mx ≤ c) (hd : Nat.ble (d + 1) N = true)
 (h : ∀ v, WL P r N ops rest K D (upd e d v) w) :
 WL P r N ops (⟨some d, .slice ty x (some xl) (some xh) (some xm), t, p, af, none⟩ :: rest) K D e w := by
 obtain ⟨_, hu, b0⟩ := Z4a hT;have e0 : (0 : Int) ≤ (mx : Int) ∧ (mx : Int) ≤ (c : Int) := by omega
 have e1 : (0 : Int) ≤ (lo : Int) ∧ (lo : Int) ≤ (hi : Int) := by omega
 have e2 : (0 : Int) ≤ (hi : Int) ∧ (hi : Int) ≤ (mx : Int) := by omega
 refine c1a (v := .slice (if mx = lo then some ⟨b, o, none⟩ else some ⟨b, o + lo * size, none⟩) (hi - lo) (mx - lo)) rfl rfl hd (by simp) ?_ (h _);have a0 : (Instr.slice ty (.slice (some ⟨b, o, none⟩) n c) (some (.int kd (lo : Int))) (some (.int kd (hi : Int))) (some (.int kd (mx : Int)))).run P w = .ok (.slice (if mx = lo then some ⟨b, o, none⟩ else some ⟨b, o + lo * size, none⟩) (hi - lo) (mx - lo)) w := by
  simp [Instr.slice, Instr.sliceBounds, Instr.sliceBound, asIntOf, run_underlying hu, b0, e0, e1, e2, h1, h2, h3, Addr.add_lit]
 simp only [execOp, Instr.sliceAt, Sem.run_bind, run_underlying hu, Result.andThen_ok, hx, Option.map_some, hl, hh, hm, a0, Sem.run_pure]
end
theorem y2b {size : Nat} : ∀ (css : List (List Value)) (i : Nat), (∀ x ∈ css, x.length = size) → css.flatten.take (i * size) = (css.take i).flatten
 | [], i, _ => by simp
 | x :: css, 0, _ => by simp
 | x :: css, i + 1, h => by
   have hx := h x (by simp);rw [List.flatten_cons, List.take_succ_cons, List.flatten_cons, ← y2b css i (fun y hy => h y (by simp [hy])), Nat.add_mul, Nat.one_mul, List.take_append, hx, Nat.add_sub_cancel, List.take_of_length_le (by omega)]
theorem o3b {size : Nat} : ∀ (css : List (List Value)) (i : Nat), (∀ x ∈ css, x.length = size) → css.flatten.drop (i * size) = (css.drop i).flatten
 | [], i, _ => by simp
 | x :: css, 0, _ => by simp
 | x :: css, i + 1, h => by
   have hx := h x (by simp);rw [List.flatten_cons, List.drop_succ_cons, ← o3b css i (fun y hy => h y (by simp [hy])), Nat.add_mul, Nat.one_mul, List.drop_append, hx, Nat.add_sub_cancel, List.drop_eq_nil_of_le (by omega), List.nil_append]
theorem U3a : ∀ (vs cs : List Value) (o : Nat), (k0a cs o vs).length = cs.length
 | [], _, _ => rfl
 | v :: vs, cs, o => by rw [k0a, U3a vs, List.length_set]
theorem E9a : ∀ (vs cs : List Value) (o n : Nat), n ≤ o → (k0a cs o vs).take n = cs.take n
 | [], _, _, _, _ => rfl
 | v :: vs, cs, o, n, h => by rw [k0a, E9a vs _ _ _ (by omega), List.take_set_of_le h]
theorem n0c (g a0 n i : Nat) (css : List (List Value)) (cs : List Value) (w0 : World) (hB : o0a w0 (g, 81, cs)) (hR : C3a (some g) 2 n cs (.slice (some ⟨g, 0, none⟩) n a0) css.flatten) (hn : css.length = n) (h2 : ∀ x ∈ css, x.length = 2) (h1 : ∀ u ∈ css.flatten, u.oneCell' = true) (hi : i < n) (y0 : n ≤ 1000000) :
 M0a Tryz.prog 147 #[.slice (some ⟨g, 0, none⟩) n a0, .int .i64 i, .int .i64 ((i : Int) + 1)] w0 fun v w' => v = .slice (some ⟨g, 0, none⟩) (n - 1) a0 ∧ v0a [g] w0 w' ∧ ∃ q0, o0a w' (g, 81, q0) ∧ C3a (some g) 2 (n - 1) q0 (.slice (some ⟨g, 0, none⟩) (n - 1) a0) (css.eraseIdx i).flatten := by
 have S := St.borrow1 hB;obtain ⟨_, r2⟩ := hR;obtain ⟨d0, g0, z0, r0⟩ : n ≤ a0 ∧ a0 ≤ maxLen ∧ cs.length = a0 * 2 ∧ cs.take (n * 2) = css.flatten := by
  rcases r2 with ⟨h, _⟩ | ⟨g', h0, h, h', a, b, c, d⟩
  ·cases h
  ·cases h; cases h'; exact ⟨a, b, c, d⟩
 have j0 : C3a (some g) 2 i cs (.slice (some ⟨g, 0, none⟩) i a0) (css.take i).flatten := by
  refine ⟨?_, .inr ⟨g, a0, rfl, rfl, by omega, g0, z0, ?_⟩⟩
  ·rw [D3a _ (fun x hx => h2 x (List.mem_of_mem_take hx)), List.length_take]; congr 1; omega
  ·rw [← y2b css i h2, ← r0, List.take_take]; congr 1; omega
 have n0 : ∃ o, (if a0 = i + 1 then (⟨g, 0, none⟩ : Addr) else ⟨g, 0 + (i + 1) * 2, none⟩) = ⟨g, o, none⟩ ∧ i1a w0 g o (css.drop (i + 1)).flatten := by
  by_cases hc : a0 = i + 1
  ·refine ⟨0, by rw [if_pos hc], ?_⟩;rw [List.drop_eq_nil_of_le (by omega)];intro j v hj; simp at hj
  ·refine ⟨0 + (i + 1) * 2, by rw [if_neg hc], fun j v hj => ?_⟩;rw [← o3b css (i + 1) h2, ← r0, List.getElem?_drop, List.getElem?_take] at hj
   split at hj
   ·exact hB.cell (by rw [Nat.zero_add]; exact hj)
   ·cases hj
 obtain ⟨_, B0, e0⟩ := n0;have A0 : (css.drop (i + 1)).flatten.length = (n - (i + 1)) * 2 := by rw [D3a _ (fun x hx => h2 x (List.mem_of_mem_drop hx)), List.length_drop, hn]
 have i0 : ∀ u ∈ (css.drop (i + 1)).flatten, u.oneCell' = true := fun u hu => h1 u (by
  obtain ⟨x, hx, hu⟩ := List.mem_flatten.1 hu;exact List.mem_flatten.2 ⟨x, List.mem_of_mem_drop hx, hu⟩)
 have b0 : ((i : Int) + 1) = ((i + 1 : Nat) : Int) := by omega
 refine a0a Tryz.func147 rfl Tryz.ntmps147 rfl ?_;refine wO0 rfl ⟨⟩ ?_;refine f1c (lo := i) (hi := i + 1) (mx := n) Q4a.slT rfl rfl (by rw [← b0]; rfl) rfl (by omega) (by omega) d0 rfl ?_;intro E0;refine lB0 rfl ⟨⟩ (fun x0 => by exfalso; omega) fun x0 => ?_;refine lC0 rfl ⟨⟩ (D0a b0a [0, 1, 2, 3, 4, 5] [] [6, 7] (by kernel_rfl) rfl (Cl _ _ _ _) (Cl.start S) ?_);refine qO0 rfl ⟨⟩ (X3b (lo := 0) (hi := i) (kd := .i64) Q4a.slT rfl (.inl ⟨rfl, rfl⟩) (.inr rfl) (by omega) (by omega) d0 rfl ?_);simp only [Nat.zero_mul, Nat.add_zero, Nat.sub_zero, ite_self];refine qO0 rfl ⟨⟩ ?_;refine X3b (lo := i + 1) (hi := n) (kd := .i64) Q4a.slT rfl (.inr (by rw [← b0]; rfl)) (.inl ⟨rfl, rfl⟩) (by omega) (by omega) d0 rfl ?_;rw [B0];refine qD rfl ⟨⟩ ?_;rintro H0 ⟨t0, u0⟩;refine g3b (k := 0) t0 Q4a rfl j0 rfl rfl (e0.keep (M := []) u0 (by simp)) A0 i0 (by omega) rfl ?_;intro f0 F0 s0 o0 C0;have v0 : i + (n - (i + 1)) = n - 1 := by omega
 rw [v0] at o0 ⊢;refine lO0 rfl ⟨⟩ (A1b (lo := n - 1) (hi := n) (kd := .i64) Q4a.slT rfl (.inr rfl) (.inr rfl) (by omega) (by omega) (by omega) rfl ?_);rw [if_neg (show ¬ a0 = n - 1 by omega), show n - (n - 1) = 1 by omega];obtain ⟨rc, rt⟩ : f0.length = a0 * 2 ∧ f0.take ((n - 1) * 2) = (css.take i).flatten ++ (css.drop (i + 1)).flatten := by
  rcases o0.2 with ⟨h, _⟩ | ⟨g', h0, h, h', a, b, c, d⟩
  ·cases h
  ·cases h; cases h'; exact ⟨c, d⟩
 refine X0c (kk := 0) s0 Q4a rfl rfl (by rw [rc]; simp [Value.cells]; omega) (by simp [Value.cells, T4c]) ?_;intro G0 p0 D0;refine lT rfl ⟨⟩ rfl ⟨rfl, p0.below, _, p0.blk 0 rfl, ?_, .inr ⟨g, a0, rfl, rfl, by omega, g0, ?_, ?_⟩⟩
 ·rw [D3a _ (fun x hx => h2 x (List.mem_of_mem_eraseIdx hx)), List.length_eraseIdx, if_pos (by omega), hn]
 ·rw [U3a]; exact rc
 ·rw [E9a _ _ _ _ (by omega), rt, List.eraseIdx_eq_take_drop_succ, List.flatten_append]
theorem Y8b (p : f0a) (hp : a1a p) (c : r0a) (t i : Nat) (b : List G0a) (M : List Nat) (w0 : World) (hM : ∀ g ∈ M, g < w0.heap.size) (cs xs : List Value) (m : Int) (hI : InP p M w0 cs) (hX : t0a M w0 c xs) (hf : F3a p c) (r0 : c.buf[t]? = some b) (hi : i < b.length) :
 M0a Tryz.prog 111 #[.agg (xs ++ (cs ++ [Value.int .i64 m])).toArray, .int .i64 t, .int .i64 i] w0 fun v w' => (∃ ys, v = .agg ys.toArray ∧ t0a M w' (B4a c t i) ys) ∧ Below w0.heap.size w0 w' := by
 obtain ⟨_, _, _, _, _, _, _, _, _, _, _, _, rfl, -⟩ := hI.rd.open_;obtain ⟨_, _, _, _, _, _, _, _, _, rfl, _, _, _, _, _, _, _, _, _⟩ := hX.open_;have S := St.refl w0;have f1 := hf.mem.len;have n1 := hp.ncells;have n2 := hp.nthreads;have f3 := hf.nbuf;have ht := R1a r0;have g1 := hf.bufs t b r0;have F0 := G0b hf t i;obtain ⟨en, g0⟩ : ∃ en, b[i]? = some en := ⟨b[i], List.getElem?_eq_getElem hi⟩;have q1 := g1.2.1 en (c0a g0);have q2 := q1.i64s;have q3 : 0 < c.mem.length := by
  cases S0 : en.cells with
  | nil => exact absurd S0 q1.some_
  | cons x l => have := q2 x (by rw [S0]; simp); omega
 have i1 : B4a c t i = ⟨i3a c.mem en, c.at_, c.buf.set t (b.eraseIdx i)⟩ := by unfold B4a; rw [getD_some r0, getD_some g0]
 rw [i1] at F0 ⊢;refine a0a Tryz.func111 rfl Tryz.ntmps111 rfl ?_;refine wO0 rfl ⟨⟩ (j0a S (by conv => lhs; whnf) rfl ?_);intro g3 w3 S3 X3 G3;refine n0a S3 U5a rfl rfl ?_;intro g6 w6 S6 X6 G6;refine lO S6.k [.o 1] rfl ⟨rfl,⟨⟩⟩ ?_;have d1 : t0a (g6 :: g3 :: M) w6 c _ := (hX.more (fun g hg => by rcases List.mem_cons.1 hg with rfl | hg; exact .inr (by simpa using S6.new 0 rfl); rcases List.mem_cons.1 hg with rfl | hg; exact .inr (by simpa using S6.new 1 rfl); exact .inl hg)).keep (S6.keep0 _);have a1 : ∀ g ∈ g6 :: g3 :: M, g < w6.heap.size := fun g hg => by
  rcases List.mem_cons.1 hg with rfl | hg
  ·exact S6.lt 0 rfl
  ·rcases List.mem_cons.1 hg with rfl | hg
   ·exact S6.lt 1 rfl
   ·have := hM g hg; have := S6.size; omega
 refine e2a D9b rfl rfl (q5b p hp c (g6 :: g3 :: M) _ a1 _ d1 hf) ?_;rintro s1 m1 ⟨⟨_, _, _, _, _, _, _, d0, vs, rfl, Rm, Ra, t0, hR⟩, -⟩;have Y0 := S6.joinR t0;obtain ⟨gm, pad, rfl, rfl, rfl, j1⟩ := Rm.pad q3;obtain ⟨_, _, _, rfl⟩ := Ra.form;have K := w0a.refl [] m1;refine n0a Y0 U5a rfl rfl ?_;intro g7 w7 S7 X7 G7;have W0 := Nat.le_trans K.size G7;replace K := K.trans X7;refine e0a (kk := 0) (vs := [_, _, _]) S7 S2a rfl rfl rfl rfl rfl rfl rfl ?_;intro o1 e0 v0;dsimp only [k0a, List.set] at e0;replace K := K.fresh v0 (by first | exact W0);have C0 := hR.keep (K.of_nil);obtain ⟨G, Q0, v, o0, H0, G0⟩ := C0.2.2 t b r0;obtain ⟨g, P0, _, rfl, rfl, _, h1, T0⟩ := G0.get e0 (k := 6 + t) ((F6c [_, _, _, _, _, _] d0 t 6 rfl).trans o0) g0;obtain ⟨_, _, _, _, _, _, rfl, -⟩ := T0.open_;have r1 : vs.length = c.buf.length := C0.2.1;refine lC0 rfl ⟨⟩ (D0a b0a [0, 1, 2, 3, 4, 5, 6, 7, 8, 9] [] [10] (by kernel_rfl) rfl (Cl _ _ _ _) (Cl.start e0) ?_);refine qO e0.q [.o 0,.o 0] rfl ⟨rfl,rfl,⟨⟩⟩ (m0a P4a.slT rfl (by rfl) rfl (by omega) (by omega) rfl ?_);refine h0a a3b rfl (fun w1 hw => by exact hw.1.cell 1 rfl ((congrArg (vs[·]?) (show 0 + (t : Int).toNat * 1 = t by simp)).trans H0)) rfl ?_;refine qO0 rfl ⟨⟩ (m0a Q4a.slT rfl (by rfl) rfl (by omega) (by omega) rfl ?_);refine H1a o5b rfl (fun w1 hw => h1.keep (M := []) hw.2 (by simp)) (by rfl) rfl ?_;refine qD rfl ⟨⟩ ?_;rintro v1 ⟨N0, O0⟩;refine e2a p0c rfl rfl (C5b en c.mem gm _ pad (gm :: []) _ _ (V0a.keep O0.of_nil _ _ (V0a.more (fun x hx => by simp at hx; subst hx; simp) _ _ T0)) (by simp) (N0.blk 3 rfl) q1.even (fun x hx => by have := q2 x hx; omega)) ?_;rintro t1 s0 ⟨D0, J0⟩;have L0 := N0.changed1 3 rfl J0 D0;have Z0 : w0a [gm] _ s0 := w0a.of_belowB J0;have b1 := (C0.keep O0.of_nil).keep (Z0.mono (by simp));refine lC0 rfl ⟨⟩ (g0b b0a (fun i => [0, 1, 2, 3, 4, 5, 6, 7, 8, 9, 10, 12].contains i) [0, 1, 2, 3, 4, 5, 6, 7, 8, 9, 10, 11, 12] 13 (by kernel_rfl) (by kernel_rfl) (clF (A := [_, _, _, _, _, _]) (R := d0) L0 [g]) _ rfl ?_);have a0 := L0.drew;have z0 : w0a [] s0 s0.drew := x2a _ _;generalize s0.drew = x1 at a0 z0 ⊢;have b0 : w0a ([g]) _ _ := z0.of_nil;refine N1a ⟨(St.front (A := [_, _, _, _, _, _]) a0), b0⟩ rfl rfl rfl ?_;refine F0a a5a rfl rfl ?_;refine d0a ?_;refine N1a ⟨(St.front (A := [_, _, _, _, _, _]) a0), b0⟩ rfl rfl rfl ?_;refine h0a o6a rfl (fun w1 hw => by exact hw.1.cell 0 rfl rfl) rfl ?_;refine d0a ?_;refine N1a ⟨(St.front (A := [_, _, _, _, _, _]) a0), b0⟩ rfl rfl rfl ?_;refine f1a (v := .int .i64 _) rfl rfl ?_;refine d0a ?_;refine N1a ⟨(St.front (A := [_, _, _, _, _, _]) a0), b0⟩ rfl rfl rfl ?_;refine F0a a5a rfl rfl ?_;refine d0a ?_;refine N1a ⟨(St.front (A := [_, _, _, _, _, _]) a0), b0⟩ rfl rfl rfl ?_;refine h0a o6a rfl (fun w1 hw => by exact hw.1.cell 0 rfl rfl) rfl ?_;refine d0a ?_;refine N1a ⟨(St.front (A := [_, _, _, _, _, _]) a0), b0⟩ rfl rfl rfl ?_;refine f1a (v := .int .i64 _) rfl rfl ?_;refine d0a ?_;refine N1a ⟨(St.front (A := [_, _, _, _, _, _]) a0), b0⟩ rfl rfl rfl ?_;refine m0a P4a.slT rfl (by rfl) rfl (by omega) (by omega) rfl ?_;refine d0a ?_;refine N1a ⟨(St.front (A := [_, _, _, _, _, _]) a0), b0⟩ rfl rfl rfl ?_;refine h0a a3b rfl (fun w1 hw => by exact hw.1.cell 1 rfl ((congrArg (vs[·]?) (show 0 + (t : Int).toNat * 1 = t by simp)).trans H0)) rfl ?_;refine d0a ?_;refine N1a ⟨(St.front (A := [_, _, _, _, _, _]) a0), b0⟩ rfl rfl rfl ?_;refine f1a (v := .int .i64 _) rfl rfl ?_;refine d0a ?_;refine N1a ⟨(St.front (A := [_, _, _, _, _, _]) a0), b0⟩ rfl rfl rfl ?_;refine f1a (v := .int .i64 _) rfl rfl ?_;refine d0a ?_;refine N1a ⟨(St.front (A := [_, _, _, _, _, _]) a0), b0⟩ rfl rfl rfl ?_;refine D9c rfl rfl (by unfold i64; omega) rfl ?_;refine d0a ?_;refine T9a ⟨(St.front (A := [_, _, _, _, _, _]) a0), b0⟩ rfl rfl rfl rfl ?_;have R0 := b1.keep z0.of_nil;obtain ⟨G', A0, _, p0, I0, q0⟩ := R0.2.2 t b r0;obtain ⟨rfl, rfl⟩ : some g = G' ∧ Q0 = A0 := by rw [o0] at p0; cases p0; exact ⟨rfl, rfl⟩
 obtain rfl := Option.some.inj (H0.symm.trans I0);obtain ⟨css, l1, l2, rv, l4⟩ := q0;refine e2a S3c rfl rfl (n0c g P0 b.length i css Q0 _ (a0.blk (6 + t) ((F6c [_, _, _, _, _, _] d0 t 6 rfl).trans o0)) rv l1 l2 (y5c l1 l4) hi (by omega)) ?_;rintro u1 U0 ⟨rfl, K0, B0, E0, X0⟩;have x0 : w0a [g] _ U0 := w0a.of_belowB K0;have u0 : St [] w0 U0 ([_, _, _, _, _, _] ++ d0.set t (some g, 81, B0)) := (a9c [_, _, _, _, _, _] d0 t 6 rfl _) ▸ a0.changed1 (6 + t) ((F6c [_, _, _, _, _, _] d0 t 6 rfl).trans o0) K0 E0;have j0 := b0.trans x0;have n0 := R0.put (k := t) ht (P1a.erase k2a l1 l2 l4 hi X0 (x0.mono (by simp))) (G := some g) (by simpa using x0) (fun g hg => .inl hg) o0;refine S0a ⟨rfl, ?_⟩;refine N1a ⟨(St.front (A := [_, _, _, _, _, _]) u0), j0⟩ rfl rfl rfl ?_;refine m0a P4a.slT rfl (by rfl) rfl (by omega) (by omega) rfl ?_;refine d0a ?_;refine K5a ⟨(St.front (A := [_, _, _, _, _, _]) u0), j0⟩ ?_
 first | refine I0a (kk := 1) u0 r4c rfl (by conv => lhs; whnf) rfl rfl (by (simp; omega)) ?_
 intro V0 f0 i0;replace n0 := n0.keep (i0.mono (by simp));refine S0a ⟨rfl, ?_⟩;refine fO f0.k [.w 0] rfl ⟨⟨rfl,by rfl⟩,⟨⟩⟩ ?_
 first | refine e0a (kk := 4) (vs := [_, _, _]) f0 S2a rfl rfl rfl rfl rfl rfl rfl ?_
 intro p1 h0 y0;dsimp only [k0a, List.set] at h0;replace n0 := n0.keep (y0.mono (by simp));refine lR0 rfl ⟨⟩ ?_;have SF := h0.setEnt 1 rfl (show _ = vs.set t (.slice (some ⟨g, 0, none⟩) (b.length - 1) P0) by simp);refine r1a (n := 3) rfl o1a rfl (SF.cells 4 rfl) rfl ⟨⟨_, rfl, _, _, _, rfl, ?_, Ra.rdI SF (k := 2) rfl hM (v8a hp hf) (by omega), ?_⟩, SF.fin⟩
 ·have := (C3a.ofPad (g := gm) (l := i3a c.mem en) (pad := pad) (by simpa using j1)).rdI SF (k := 3) rfl hM (d5a hp F0.mem) (by simp; omega);simpa using this
 ·have hA := SF.apartM (A := [_, _, _, _, _, _]) hM;have := SF.rdBs (M := M) 1 rfl (U0a hM (SF.new 1 rfl)) (bs := c.buf.set t (b.eraseIdx i)) (by simp; omega) (n0.rd (A := [_, _, _, _, _, _]) SF (Mx := M) (fun g hg => by simp [hg]) hA (fun x hx => by
   obtain ⟨k, hk, rfl⟩ := List.getElem_of_mem hx;have := (F0.bufs k _ (List.getElem?_eq_getElem hk)).1;omega))
  rw [List.length_set] at this;exact this
def p2b (p : f0a) (s : t1a) (k : Nat) : List E1a := if s.kind = 3 then (s.set.take k).filter (fun a => y1a p.cells a.cell = -1) else []
def b0b (p : f0a) (s : t1a) (k : Nat) : List E1a := if s.kind = 3 then (s.set.take k).filter (fun a => y1a p.cells a.cell ≠ -1) else s.set.take k
section
variable {p : f0a} {s : t1a} {k : Nat} {a : E1a}
theorem e3b : p2b p s 0 = [] := by unfold p2b; simp
theorem k9b : b0b p s 0 = [] := by unfold b0b; simp
theorem p1b (h3 : s.kind = 3) (hx : s.set[k]? = some a) (ht : y1a p.cells a.cell = -1) : p2b p s (k + 1) = p2b p s k ++ [a] ∧ b0b p s (k + 1) = b0b p s k := by
 unfold p2b b0b;rw [if_pos h3, if_pos h3, if_pos h3, if_pos h3, J0a hx, List.filter_append, List.filter_append];simp [ht]
theorem B7a (hx : s.set[k]? = some a) (ht : s.kind = 3 → ¬ y1a p.cells a.cell = -1) : p2b p s (k + 1) = p2b p s k ∧ b0b p s (k + 1) = b0b p s k ++ [a] := by
 unfold p2b b0b;by_cases h3 : s.kind = 3
 ·rw [if_pos h3, if_pos h3, if_pos h3, if_pos h3, J0a hx, List.filter_append, List.filter_append];simp [ht h3]
 ·rw [if_neg h3, if_neg h3, if_neg h3, if_neg h3, J0a hx]; simp
theorem N8a : (p2b p s k).length ≤ s.set.length := by
 unfold p2b
 split
 ·exact Nat.le_trans (List.length_filter_le _ _) (by rw [List.length_take]; omega)
 ·simp
end
theorem o4c {p : f0a} {t n : Int} {s : t1a} (h : X6a p t n s) : s.set.length ≤ p.cells.length := by
 have := g7a p.cells.length (s.set.map E1a.cell) (by unfold List.Nodup; rw [List.pairwise_map]; exact h.once) (fun x hx => by
  obtain ⟨a, ha, rfl⟩ := List.mem_map.1 hx;exact (h.set a ha).1)
 simpa using this
theorem O0b {p : f0a} {m : Int} (hm : ¬ m = 0) {c : r0a} {t : Nat} {s : t1a} {b : List G0a} (h3 : s.kind = 3) (hb : c.buf[t]? = some b) {k : Nat} (hk : s.set.length ≤ k) : n3a p m c t s = ⟨z7a (b0b p s k) (B1a c t) c.mem, atC c t s, c.buf.set t (b ++ [⟨(p2b p s k).map E1a.cell, (p2b p s k).map fun a => a.to.evl (B1a c t) (B1a c t)⟩])⟩ := by
 unfold n3a p2b b0b t7a;rw [if_pos ⟨h3, hm⟩, if_pos h3, if_pos h3, List.take_of_length_le hk, getD_some hb]
theorem H0b {p : f0a} {m : Int} {c : r0a} {t : Nat} {s : t1a} (h3 : ¬ s.kind = 3) {k : Nat} (hk : s.set.length ≤ k) : n3a p m c t s = ⟨z7a (b0b p s k) (B1a c t) c.mem, atC c t s, c.buf⟩ := by
 unfold n3a b0b;rw [if_neg (fun h => h3 h.1), if_neg h3, List.take_of_length_le hk]
theorem J3c {c : r0a} {t : Nat} {s : t1a} {pad : List Value} (h : ¬ s.kind = 6) (ht : t < c.at_.length) {i : Nat} (hi : i = t) : (c.at_.map (Value.int .i64) ++ pad).set i (.int .i64 s.to) = (atC c t s).map (Value.int .i64) ++ pad := by
 subst hi; rw [j8a ht]; unfold atC; rw [if_neg h]
theorem f9b {c : r0a} {t : Nat} {s : t1a} {pad : List Value} (h : s.kind = 6) (ht : t < c.at_.length) (hg : s.target.toNat < c.at_.length) {i j : Nat} (hi : i = t) (hj : j = s.target.toNat) : ((c.at_.map (Value.int .i64) ++ pad).set i (.int .i64 s.to)).set j (.int .i64 0) = (atC c t s).map (Value.int .i64) ++ pad := by
 subst hi; subst hj; rw [j8a ht, j8a (by simpa using hg)]; unfold atC; rw [if_pos h]
abbrev i8c : List Nat → World → List Value → Int → Prop := fun _ _ => O9c
theorem r7b (p : f0a) (c : r0a) (m : Int) (hm : m = 1 ∨ m = 2) (t i : Nat) (th : Q0a) (s : t1a) (M : List Nat) (w0 : World) (cs xs : List Value) (L2 : Value) (hI : InP p M w0 cs) (hX : t0a M w0 c xs) (hV : RdI M w0 L2 (B1a c t)) (hf : F3a p c) (S0 : p.threads[t]? = some th) (z2 : th.steps[i]? = some s) (p0 : F3a p (n3a p m c t s)) :
 M0a Tryz.prog 112 #[.agg (xs ++ (cs ++ [Value.int .i64 m])).toArray, .agg #[.int .i64 t, .int .i64 i, .int .i64 0], L2] w0 fun v w' => (∃ ys, v = .agg ys.toArray ∧ t0a M w' (n3a p m c t s) ys) ∧ Below w0.heap.size w0 w' := by
 obtain ⟨Ac, nc, cc, Am, nm, cm, Al, nl, cl, At, nt, ct, rfl, hC, _, _, v3, _, _, _, _, _, _, _, _⟩ := hI.rd.open_;obtain ⟨Xm, xm, ym, Xa, xa, ya, Xb, xb, yb, rfl, _, _, _, _, _, _, _, _, _⟩ := hX.open_;obtain ⟨Av, nv, cv, rfl⟩ := hV.form;have S := St.refl w0;have hM := hI.lt;have f1 := hf.mem.len;have f2 := hf.nat;have f3 := hf.nbuf;have hp := hI.ok;have n1 := hp.ncells;have n2 := hp.nthreads;have ht := R1a S0;have hi := R1a z2;have v1 := (hp.thread S0).steps s (c0a z2);have a4 := o4c v1;have I2 : 6 ≤ s.kind → 0 ≤ s.target ∧ s.target < p.threads.length := fun h => (v1.row.k6 h).1;have J2 : ¬ m = 0 := by omega
 obtain ⟨b, x1⟩ : ∃ b, c.buf[t]? = some b := ⟨c.buf[t]'(by omega), List.getElem?_eq_getElem _⟩;have Z3 := hf.bufs t b x1;refine a0a Tryz.func112 rfl Tryz.ntmps112 rfl ?_;refine wO0 rfl ⟨⟩ (j0a S (by conv => lhs; whnf) rfl ?_);intro g3 w3 S3 X3 G3;refine j0a S3 (by conv => lhs; whnf) rfl ?_;intro g4 w4 S4 X4 G4;refine n0a S4 U5a rfl rfl ?_;intro g6 w6 S6 X6 G6;refine lO S6.k [.o 2] rfl ⟨rfl,⟨⟩⟩ ?_;have x3 : t0a (g6 :: g4 :: g3 :: M) w6 c _ := (hX.more (fun g hg => by rcases List.mem_cons.1 hg with rfl | hg; exact .inr (by simpa using S6.new 0 rfl); rcases List.mem_cons.1 hg with rfl | hg; exact .inr (by simpa using S6.new 1 rfl); rcases List.mem_cons.1 hg with rfl | hg; exact .inr (by simpa using S6.new 2 rfl); exact .inl hg)).keep (S6.keep0 _);have u3 : ∀ g ∈ g6 :: g4 :: g3 :: M, g < w6.heap.size := fun g hg => by
  rcases List.mem_cons.1 hg with rfl | hg
  ·exact S6.lt 0 rfl
  ·rcases List.mem_cons.1 hg with rfl | hg
   ·exact S6.lt 1 rfl
   ·rcases List.mem_cons.1 hg with rfl | hg
    ·exact S6.lt 2 rfl
    ·have := hM g hg; have := S6.size; omega
 refine e2a D9b rfl rfl (q5b p hp c (g6 :: g4 :: g3 :: M) _ u3 _ x3 hf) ?_;rintro e4 E1 ⟨⟨Gm, _, r3, _, _, _, gb, i0, vs, rfl, Rm, Ra, I1, hR⟩, -⟩;have D0 := S6.joinR I1;obtain ⟨ga, j0, rfl, rfl, rfl, F0⟩ := Ra.pad (by omega);obtain ⟨Bm, G2, dm, rfl⟩ := Rm.form;have KM := w0a.refl Gm.toList E1;have j1 : ∀ g ∈ (Gm.toList ++ ((some ga).toList ++ (gb :: g6 :: g4 :: g3 :: M))) ++ T8a i0, g < E1.heap.size := by
  intro g hg;simp only [List.mem_append, List.mem_cons] at hg;rcases hg with (hg | hg | rfl | rfl | rfl | rfl | hg) | hg
  ·exact D0b D0 (k := 2) rfl g hg
  ·exact D0b D0 (k := 1) rfl g hg
  ·exact D0.lt 0 rfl
  ·exact D0.lt 3 rfl
  ·exact D0.lt 4 rfl
  ·exact D0.lt 5 rfl
  ·have := hM g hg; have := D0.size; omega
  ·obtain ⟨x, hx, hg⟩ := v3a.1 hg; exact (D0.own x (List.mem_append_right _ hx) g hg).2.lt
 refine n0a D0 U5a rfl rfl ?_;intro g7 w7 S7 X7 G7;have G1 := Nat.le_trans KM.size G7;replace KM := KM.trans (X7.of_nil);refine e0a (kk := 0) (vs := [_, _, _]) S7 S2a rfl rfl rfl rfl rfl rfl rfl ?_;intro H3 E0 N1;dsimp only [k0a, List.set] at E0;replace KM := KM.fresh2 N1 (by exact .inl G1);refine lC0 rfl ⟨⟩ (D0a b0a [0, 1, 2, 3, 4, 5, 6, 7, 8, 9, 10, 11] [12] [13] (by kernel_rfl) rfl (Cl _ _ _ _) (Cl.start E0) ?_);obtain ⟨_, i3, C3, _, x2, W1, _, _, b2, o2⟩ := RdS.get (v3) (t) (by omega);obtain rfl := Option.some.inj (S0.symm.trans x2);obtain ⟨_, _, _, _, _, _, _, _, _, _, _, _, rfl, _, _, _, m1, _, _, _, _, _, _, _, _, _⟩ := N0a.open_ o2;obtain ⟨_, j3, D3, _, y2, X1, _, i2, d2, p2⟩ := RdS.get (m1) (i) (by omega);obtain rfl := Option.some.inj (z2.symm.trans y2);obtain ⟨F1, B2, Q1, U0, T0, d1, rfl, ⟨_, _, _, _, _⟩, _, Q0, _, _⟩ := n2a.open_ p2;refine qN ((E0.q.a d2).a b2) [.o 6,.o 5,.x i3 C3,.f 0 4,.o 5,.x j3 D3,.v 1] rfl ⟨⟨rfl,i2⟩,⟨X1,by omega⟩,rfl,rfl,⟨W1,by omega⟩,rfl,rfl,⟨⟩⟩ (t5a ?_);refine t2b rfl rfl t7b rfl ?_;refine q2a ?_;rintro s4 ⟨M1, h3⟩;intro g8 y3 G8 B3;dsimp only [K3a];have H1 := Nat.le_trans KM.size G8;replace KM := KM.trans (h3.of_nil);clear B3;replace M1 := M1.push_new E0 y3 G8;refine e0a (kk := 0) (vs := [_, _, _, _, _, _, _, _, _, _, _]) M1 A7b rfl rfl rfl rfl rfl rfl rfl ?_;intro O2 G0 a1;dsimp only [k0a, List.set] at G0;replace KM := KM.fresh2 a1 (by exact .inl H1);refine lO0 rfl ⟨⟩ (n0a G0 n9a rfl rfl ?_);intro g9 w9 S9 X9 G9;have W0 := Nat.le_trans KM.size G9;replace KM := KM.trans (X9.of_nil);refine lC S9.k [.o 1] rfl ⟨rfl,⟨⟩⟩ ?_;refine wL (fun μk D ε w => D = [] ∧ ∃ k : Nat, ∃ Gc : Option Nat, ∃ U1 : List Value, ∃ vc : Value, ∃ Gv : Option Nat, ∃ V1 : List Value, ∃ vv : Value, ∃ N0 : List Value, (k + μk = (s.set.length)) ∧ (P1a i8c 1 [] w0 Gc U1 vc ((p2b p s k).map E1a.cell)) ∧ (P1a i8c 1 [] w0 Gv V1 vv ((p2b p s k).map fun a => a.to.evl (B1a c t) (B1a c t))) ∧ (∀ g ∈ Gc.toList ++ Gv.toList, E1.heap.size ≤ g) ∧ (C3a Gm 1 c.mem.length N0 (.slice Bm G2 dm) ((z7a (b0b p s k) (B1a c t) c.mem).map (Value.int .i64))) ∧ (w0a Gm.toList E1 w) ∧ St [] w0 w ([(Gc, 3, U1), (Gv, 3, V1), (some g9, 81, [vc, vv]), (some g8, 90, [.int .i64 s.kind, .int .i64 s.frm, .int .i64 s.to, .int .i64 s.guard.op, .int .i64 s.guard.w, .int .i64 s.guard.n, .slice F1 B2 Q1, .slice U0 T0 d1, .bool s.release, .int .i64 s.target, .int .i64 s.module_]), (some g7, 38, [.slice Bm G2 dm, .slice (some ⟨ga, 0, none⟩) c.at_.length (c.at_.length + j0.length), .slice (some ⟨gb, 0, none⟩) c.buf.length c.buf.length]), (some gb, 79, vs), (some ga, 3, c.at_.map (Value.int .i64) ++ j0), (Gm, 3, N0), (some g6, 38, [.slice none 0 0, .slice none 0 0, .slice none 0 0]), (some g4, 44, [.int .i64 t, .int .i64 i, .int .i64 0]), (some g3, 165, [.slice Xm xm ym, .slice Xa xa ya, .slice Xb xb yb, .slice Ac nc cc, .slice Am nm cm, .slice Al nl cl, .slice At nt ct, .int .i64 m])] ++ i0) ∧ Sl ε [(2, .slice Av nv cv), (3, .pointer (some ⟨g3, 0, none⟩)), (4, .pointer (some ⟨g4, 0, none⟩)), (6, .pointer (some ⟨g6, 0, none⟩)), (7, .pointer (some ⟨g7, 0, none⟩)), (8, .pointer (some ⟨g8, 0, none⟩)), (9, .pointer (some ⟨g9, 0, none⟩)), (29, .slice U0 T0 d1), (30, .int .i64 T0), (31, .int .i64 k)]) (μ := (s.set.length)) ⟨rfl, 0, none, [], .slice none 0 0, none, [], .slice none 0 0, r3, by omega, by rw [e3b]; exact P1a.nil, by rw [e3b]; exact P1a.nil, by simp, by rw [k9b]; exact Rm, KM, ((S9.nilEnt 3).nilEnt 3), rfl⟩ ?_;rintro μk D ε w ⟨rfl, k, Gc, U1, vc, Gv, V1, vv, N0, _, o1, t1, J0, R0, KM, S, eZ⟩;refine wK eZ (wB0 rfl ⟨⟩ (fun t3 => ?_) fun t3 => ?_)
 ·obtain ⟨a, m3, E3, _, A3, Y1, _, j2, g2, r2⟩ := RdS.get (Q0) (k) (by omega);obtain ⟨_, _, _, rfl, A2, a2⟩ := R0a.open_ r2;have f0 := A3;have q1 := (v1.set a (c0a f0)).1;unfold t2a at q1;have q2 := H9a (v1.set a (c0a f0)).2.1 (B1a c t) (B1a c t);rw [(v1.set a (c0a f0)).2.2] at q2;have d4 := B5b hp a.cell;have q3 : i64 (a.to.evl (B1a c t) (B1a c t)) := by unfold i64; omega
  refine lO (S.k.a g2) [.x m3 E3,.v 0] rfl ⟨⟨rfl,j2⟩,⟨Y1,by omega⟩,⟨⟩⟩ (n0a S q2b rfl rfl ?_);intro U3 k4 U2 Y2 S2;have V0 := Nat.le_trans KM.size S2;replace KM := KM.trans (Y2.of_nil);refine e0a (kk := 0) (vs := [_, _, _, _, _]) U2 Q2b rfl rfl rfl rfl rfl rfl rfl ?_;intro I3 q0 O1;dsimp only [k0a, List.set] at q0;replace KM := KM.fresh2 O1 (by exact .inl V0);refine lO q0.k [.o 0] rfl ⟨rfl,⟨⟩⟩ (g0a q0 c0b rfl rfl (b8a a.to M _ _ _ _ (B1a c t) (B1a c t) (RdE.keep (q0.keep0 M) _ _ a2) (hI.keep (q0.keep0 M)).msk (hV.keep (q0.keep0 M)) (hV.keep (q0.keep0 M))) ?_);intro m4 u0 Z2;replace KM := KM.trans (Z2.of_nil);refine lO0 rfl ⟨⟩ (s0a C0a rfl (by exact u0.cell 4 rfl rfl) rfl ?_);refine lB0 rfl ⟨⟩ (fun O0 => ?_) fun O0 => ?_
  ·refine lO0 rfl ⟨⟩ (s0a J9a rfl (by exact u0.cell 11 rfl rfl) rfl ?_);obtain ⟨_, n3, F3, _, y1, Z1, _, _, h2, s2⟩ := RdS.get (hC) (a.cell.toNat) (by omega);obtain ⟨rfl, _, _, _, _⟩ := Z2a.open_ s2;have t0 := e1a y1;refine lB (u0.k.a h2) [.o 0,.x n3 F3,.f 0 3] rfl ⟨rfl,⟨Z1,by omega⟩,rfl,⟨⟩⟩ (fun P0 => ?_) fun P0 => ?_
   ·refine lO0 rfl ⟨⟩ (s0a O3a rfl (by exact u0.cell 3 rfl rfl) rfl ?_);refine lO u0.k [.o 0] rfl ⟨rfl,⟨⟩⟩ (E0a u0 Y0a (vs := [.int .i64 _]) (cs := [_]) (by rfl) rfl rfl rfl rfl rfl rfl ?_);intro V3 n4 D2 a3 M3;replace KM := KM.trans (a3.of_nil);refine C1a M1b (k := 2) (M2 := []) (e1 := a.cell) D2 Y0a (by decide) rfl o1 rfl rfl (D2.cells 0 rfl) ⟨rfl, A2⟩ (by have := N8a (p := p) (s := s) (k := k); simp; omega) rfl ?_;intro h4 P3 p3 o4 V2 p1 b3 P2;have R3 := KM.size;obtain ⟨_, _, rfl⟩ := p1.form;replace KM := KM.freshL b3 (fun g hg => .inl (J0 g (List.mem_append_left _ hg)));refine lO0 rfl ⟨⟩ ?_
    first | refine I0a (kk := 4) V2 X6c rfl (by conv => lhs; whnf) rfl rfl (by exact Nat.le_of_ble_eq_true rfl) ?_
    intro K3 Y0 P1;replace KM := KM.fresh2 P1 (by exact .inl W0);refine lO0 rfl ⟨⟩ (s0a O3a rfl (by exact Y0.cell 4 rfl rfl) rfl ?_);refine lO0 rfl ⟨⟩ (E0a Y0 Y0a (vs := [.int .i64 _]) (cs := [_]) (by rfl) rfl rfl rfl rfl rfl rfl ?_);intro W3 p4 E2 d3 N3;replace KM := KM.trans (d3.of_nil);refine C1a M1b (k := 4) (M2 := []) (e1 := a.to.evl (B1a c t) (B1a c t)) E2 Y0a (by decide) rfl t1 rfl rfl (E2.cells 0 rfl) ⟨rfl, q3⟩ (by have := N8a (p := p) (s := s) (k := k); simp; omega) rfl ?_;intro i4 Q3 s3 q4 W2 u1 e3 Q2;have T3 := KM.size;obtain ⟨_, _, rfl⟩ := u1.form;replace KM := KM.freshL e3 (fun g hg => .inl (J0 g (List.mem_append_right _ hg)));refine lO0 rfl ⟨⟩ ?_
    first | refine I0a (kk := 5) W2 X6c rfl (by conv => lhs; whnf) rfl rfl (by exact Nat.le_of_ble_eq_true rfl) ?_
    intro N2 X0 Z0;replace KM := KM.fresh2 Z0 (by exact .inl W0);refine lP0 rfl ⟨by omega,⟨⟩⟩ ⟨μk - 1, by omega, rfl, (k + 1), (_), (_), (_), (_), (_), (_), (_), (by omega), ?_, ?_, ?_, ?_, (KM), X0.tail.tail.tail, rfl⟩
    ·rw [(p1b O0 f0 (t0.trans P0)).1, List.map_append]; exact p1
    ·rw [(p1b O0 f0 (t0.trans P0)).1, List.map_append]; exact u1
    ·intro g hg;rcases List.mem_append.1 hg with hg | hg
     ·rcases P2 g hg with h | h
      ·exact J0 g (List.mem_append_left _ h)
      ·omega
     ·rcases Q2 g hg with h | h
      ·exact J0 g (List.mem_append_right _ h)
      ·omega
    ·rw [(p1b O0 f0 (t0.trans P0)).2]; exact R0
   obtain ⟨gm, pad, rfl, w2, rfl, m2⟩ := R0.pad (by simp; omega);have z3 : (z7a (b0b p s k) (B1a c t) c.mem).length = c.mem.length := by simp
   cases w2;refine lO0 rfl ⟨⟩ (s0a O3a rfl (by exact u0.cell 5 rfl rfl) rfl ?_);refine lO u0.k [.o 0] rfl ⟨rfl,⟨⟩⟩ (x0a Y0a.slT rfl (by rfl) rfl (by omega) (by omega) rfl ?_)
   first | refine I0a (kk := 8) u0 c1b rfl (by conv => lhs; whnf) rfl rfl (by (simp; omega)) ?_
   intro z1 v0 x0;replace KM := KM.fresh2 x0 (by exact .inr (by simp));refine lP0 rfl ⟨by omega,⟨⟩⟩ ⟨μk - 1, by omega, rfl, (k + 1), (_), (_), (_), (_), (_), (_), (_), (by omega), ?_, ?_, ?_, ?_, (KM), v0.tail, rfl⟩
   ·rw [(B7a f0 (fun _ => by rw [t0]; exact P0)).1]; exact o1
   ·rw [(B7a f0 (fun _ => by rw [t0]; exact P0)).1]; exact t1
   ·exact J0
   ·have e2 : b0b p s (k + 1) = b0b p s k ++ [a] := by exact (B7a f0 (fun _ => by rw [t0]; exact P0)).2
    rw [e2, f9a];have := C3a.ofPad (g := gm) (l := (z7a (b0b p s k) (B1a c t) c.mem).set a.cell.toNat (a.to.evl (B1a c t) (B1a c t))) (pad := pad) (by simpa using m2);rw [← j8a (by omega)] at this;simpa using this
  obtain ⟨gm, pad, rfl, w2, rfl, m2⟩ := R0.pad (by simp; omega);have z3 : (z7a (b0b p s k) (B1a c t) c.mem).length = c.mem.length := by simp
  cases w2;refine lO0 rfl ⟨⟩ (s0a O3a rfl (by exact u0.cell 5 rfl rfl) rfl ?_);refine lO u0.k [.o 0] rfl ⟨rfl,⟨⟩⟩ (x0a Y0a.slT rfl (by rfl) rfl (by omega) (by omega) rfl ?_)
  first | refine I0a (kk := 8) u0 c1b rfl (by conv => lhs; whnf) rfl rfl (by (simp; omega)) ?_
  intro z1 v0 x0;replace KM := KM.fresh2 x0 (by exact .inr (by simp));refine lP0 rfl ⟨by omega,⟨⟩⟩ ⟨μk - 1, by omega, rfl, (k + 1), (_), (_), (_), (_), (_), (_), (_), (by omega), ?_, ?_, ?_, ?_, (KM), v0.tail, rfl⟩
  ·rw [(B7a f0 (fun h => absurd h O0)).1]; exact o1
  ·rw [(B7a f0 (fun h => absurd h O0)).1]; exact t1
  ·exact J0
  ·have e2 : b0b p s (k + 1) = b0b p s k ++ [a] := by exact (B7a f0 (fun h => absurd h O0)).2
   rw [e2, f9a];have := C3a.ofPad (g := gm) (l := (z7a (b0b p s k) (B1a c t) c.mem).set a.cell.toNat (a.to.evl (B1a c t) (B1a c t))) (pad := pad) (by simpa using m2);rw [← j8a (by omega)] at this;simpa using this
 refine lO0 rfl ⟨⟩ (s0a C0a rfl (by exact S.cell 3 rfl rfl) rfl ?_);refine lB0 rfl ⟨⟩ (fun g1 => ?_) fun g1 => ?_
 ·have I0 := hR.keep (KM.mono (fun g hg => List.mem_append_left _ (List.mem_append_left _ hg)));obtain ⟨G, o3, v, D1, K2, t2⟩ := I0.2.2 t b x1;obtain ⟨_, _, rfl⟩ := t2.form;obtain ⟨_, _, rfl⟩ := o1.form;obtain ⟨_, _, rfl⟩ := t1.form;have b4 : vs.length = c.buf.length := I0.2.1;have H2 : ∀ g ∈ G.toList, g ∈ (Gm.toList ++ ((some ga).toList ++ (gb :: g6 :: g4 :: g3 :: M))) ++ T8a i0 := fun g hg => List.mem_append_right _ (v3a.2 ⟨_, List.mem_of_getElem? D1, by cases G <;> simp at hg ⊢; exact hg.symm⟩);have h1 : RdI ((Gm.toList ++ ((some ga).toList ++ (gb :: g6 :: g4 :: g3 :: M))) ++ T8a i0) w _ _ := P1a.rd (M := (Gm.toList ++ ((some ga).toList ++ (gb :: g6 :: g4 :: g3 :: M))) ++ T8a i0) (w := w) M1b o1 S (k := 0) rfl (fun g hg hm => by have := J0 g (by rw [hg]; simp); have := j1 g hm; omega) (by have := N8a (p := p) (s := s) (k := k); simp; omega);have i1 : RdI ((Gm.toList ++ ((some ga).toList ++ (gb :: g6 :: g4 :: g3 :: M))) ++ T8a i0) w _ _ := P1a.rd (M := (Gm.toList ++ ((some ga).toList ++ (gb :: g6 :: g4 :: g3 :: M))) ++ T8a i0) (w := w) M1b t1 S (k := 1) rfl (fun g hg hm => by have := J0 g (by rw [hg]; simp); have := j1 g hm; omega) (by have := N8a (p := p) (s := s) (k := k); simp; omega);refine lC0 rfl ⟨⟩ (g0b b0a (fun i => [0, 1, 2, 3, 4, 5, 6, 7, 8, 9, 10, 13].contains i) [0, 1, 2, 3, 4, 5, 6, 7, 8, 9, 10, 11, 12, 13] 14 (by kernel_rfl) (by kernel_rfl) (clF (A := [_, _, _, _, _, _, _, _, _, _, _]) (R := i0) S G.toList) _ rfl ?_);have d0 := S.drew;have A0 : w0a [] w w.drew := x2a _ _;generalize w.drew = L3 at d0 A0 ⊢;have e0 : w0a (G.toList) _ _ := A0.of_nil;replace I0 := I0.keep A0.of_nil;replace h1 := h1.keep A0.of_nil;replace i1 := i1.keep A0.of_nil;refine N1a ⟨(St.front (A := [_, _, _, _, _, _, _, _, _, _, _]) d0), e0⟩ rfl rfl rfl ?_;refine F0a a5a rfl rfl ?_;refine d0a ?_;refine N1a ⟨(St.front (A := [_, _, _, _, _, _, _, _, _, _, _]) d0), e0⟩ rfl rfl rfl ?_;refine h0a o6a rfl (fun w1 hw => by exact hw.1.cell 4 rfl rfl) rfl ?_;refine d0a ?_;refine N1a ⟨(St.front (A := [_, _, _, _, _, _, _, _, _, _, _]) d0), e0⟩ rfl rfl rfl ?_;refine F0a N4b rfl rfl ?_;refine d0a ?_;refine N1a ⟨(St.front (A := [_, _, _, _, _, _, _, _, _, _, _]) d0), e0⟩ rfl rfl rfl ?_;refine h0a C0a rfl (fun w1 hw => by exact hw.1.cell 9 rfl rfl) rfl ?_;refine d0a ?_;refine N1a ⟨(St.front (A := [_, _, _, _, _, _, _, _, _, _, _]) d0), e0⟩ rfl rfl rfl ?_;refine F0a a5a rfl rfl ?_;refine d0a ?_;refine N1a ⟨(St.front (A := [_, _, _, _, _, _, _, _, _, _, _]) d0), e0⟩ rfl rfl rfl ?_;refine h0a o6a rfl (fun w1 hw => by exact hw.1.cell 4 rfl rfl) rfl ?_;refine d0a ?_;refine N1a ⟨(St.front (A := [_, _, _, _, _, _, _, _, _, _, _]) d0), e0⟩ rfl rfl rfl ?_;refine F0a N4b rfl rfl ?_;refine d0a ?_;refine N1a ⟨(St.front (A := [_, _, _, _, _, _, _, _, _, _, _]) d0), e0⟩ rfl rfl rfl ?_;refine h0a C0a rfl (fun w1 hw => by exact hw.1.cell 9 rfl rfl) rfl ?_;refine d0a ?_;refine N1a ⟨(St.front (A := [_, _, _, _, _, _, _, _, _, _, _]) d0), e0⟩ rfl rfl rfl ?_;refine m0a P4a.slT rfl (by rfl) rfl (by omega) (by omega) rfl ?_;refine d0a ?_;refine N1a ⟨(St.front (A := [_, _, _, _, _, _, _, _, _, _, _]) d0), e0⟩ rfl rfl rfl ?_;refine h0a a3b rfl (fun w1 hw => by exact hw.1.cell 5 rfl ((congrArg (vs[·]?) (show 0 + (t : Int).toNat * 1 = t by simp)).trans K2)) rfl ?_;refine d0a ?_;refine N1a ⟨(St.front (A := [_, _, _, _, _, _, _, _, _, _, _]) d0), e0⟩ rfl rfl rfl ?_;refine H1a o5b rfl (fun w1 hw => hw.1.cells 2 rfl) rfl rfl ?_;refine d0a ?_;refine T9a ⟨(St.front (A := [_, _, _, _, _, _, _, _, _, _, _]) d0), e0⟩ rfl rfl rfl rfl ?_;refine E0a d0 Q4a (vs := [.agg _]) (cs := [_, _]) (by rfl) rfl rfl rfl rfl rfl rfl ?_;intro Y3 r4 J1 C1 O3;have H0 := e0.trans (C1.mono (by simp));replace I0 := I0.keep (C1.of_nil);replace h1 := h1.keep (C1.of_nil);replace i1 := i1.keep (C1.of_nil);refine S0a ⟨rfl, ?_⟩;refine T9a ⟨(St.front (A := [_, _, _, _, _, _, _, _, _, _, _, _]) J1).tail, H0⟩ rfl rfl rfl rfl ?_;obtain ⟨G', R1, _, r1, v2, s1⟩ := I0.2.2 t b x1;obtain ⟨rfl, rfl⟩ : G = G' ∧ o3 = R1 := by rw [D1] at r1; cases r1; exact ⟨rfl, rfl⟩
  obtain rfl := Option.some.inj (K2.symm.trans v2);refine C1a k2a (k := 12 + t) (e1 := ⟨(p2b p s k).map E1a.cell, (p2b p s k).map fun a => a.to.evl (B1a c t) (B1a c t)⟩) J1 Q4a (by decide) ((F6c [_, _, _, _, _, _, _, _, _, _, _, _] i0 t 12 rfl).trans D1) s1 rfl rfl (J1.cells 0 rfl) ⟨_, _, rfl, h1.more (by omega) (fun g hg => .inl (by rcases List.mem_append.1 hg with h | h; exact H2 g h; exact h)), i1.more (by omega) (fun g hg => .inl (by rcases List.mem_append.1 hg with h | h; exact H2 g h; exact h))⟩ (by omega) rfl ?_;intro j4 T2 T1 J3 K1 B0 F2 R2;have X2 : St [] w0 J3 ([_, _, _, _, _, _, _, _, _, _, _, _] ++ i0.set t (T2, 81, T1)) := (a9c [_, _, _, _, _, _, _, _, _, _, _, _] i0 t 12 rfl _) ▸ K1;have K0 := X2.tail;have b1 := H0.trans F2;have g0 := I0.put (k := t) (by omega) B0 F2 R2 D1;obtain ⟨_, _, u2⟩ := B0.form;subst u2;clear hR;refine S0a ⟨rfl, ?_⟩;refine N1a ⟨(St.front (A := [_, _, _, _, _, _, _, _, _, _, _]) K0), b1⟩ rfl rfl rfl ?_;refine m0a P4a.slT rfl (by rfl) rfl (by omega) (by omega) rfl ?_;refine d0a ?_;refine K5a ⟨(St.front (A := [_, _, _, _, _, _, _, _, _, _, _]) K0), b1⟩ ?_
  first | refine I0a (kk := 5) K0 r4c rfl (by conv => lhs; whnf) rfl rfl (by (simp; omega)) ?_
  intro C2 n0 L0;replace g0 := g0.keep (L0.mono (by simp));refine S0a ⟨rfl, ?_⟩
  try have g0 := hR.keep (KM.mono (fun g hg => List.mem_append_left _ (List.mem_append_left _ hg)))
  refine fO0 rfl ⟨⟩ (s0a O3a rfl (by exact n0.cell 4 rfl rfl) rfl ?_);refine lO0 rfl ⟨⟩ (s0a C0a rfl (by exact n0.cell 9 rfl rfl) rfl ?_);refine lO0 rfl ⟨⟩ (s0a C0a rfl (by exact n0.cell 3 rfl rfl) rfl ?_);refine x0a Y0a.slT rfl (by rfl) rfl (by omega) (by omega) rfl ?_
  first | refine I0a (kk := 6) n0 c1b rfl (by conv => lhs; whnf) rfl rfl (by (simp; omega)) ?_
  intro A1 a0 y0;replace g0 := g0.keep (y0.mono (by simp));refine lO0 rfl ⟨⟩ (s0a C0a rfl (by exact a0.cell 3 rfl rfl) rfl ?_);refine lB0 rfl ⟨⟩ (fun r0 => ?_) fun r0 => ?_
  ·refine lO0 rfl ⟨⟩ (s0a O3a rfl (by exact a0.cell 4 rfl rfl) rfl ?_);refine lO0 rfl ⟨⟩ (s0a C0a rfl (by exact a0.cell 3 rfl rfl) rfl ?_);have q6 := I2 (by omega);refine x0a Y0a.slT rfl (by rfl) rfl (by omega) (by omega) rfl ?_
   first | refine I0a (kk := 6) a0 c1b rfl (by conv => lhs; whnf) rfl rfl (by (simp; omega)) ?_
   intro B1 o0 z0;replace g0 := g0.keep (z0.mono (by simp));refine lO0 rfl ⟨⟩ (x1a o1a rfl (o0.cells 4 rfl) rfl rfl ?_)
   first | refine e0a (kk := 8) (vs := [_, _, _]) o0 S2a rfl rfl rfl rfl rfl rfl rfl ?_
   intro C0 b0 h0;dsimp only [k0a, List.set] at b0;replace g0 := g0.keep (h0.mono (by simp));refine lR0 rfl ⟨⟩ ?_;have SF := b0.setEnt 6 rfl (show _ = (atC c t s).map (Value.int .i64) ++ j0 by exact f9b r0 (by omega) (by omega) (by simp) (by simp));have s0 := H5a c t s;rw [O0b J2 g1 x1 (k := k) (by omega)] at p0 ⊢;have SG := SF.setEnt 5 rfl (congrArg (fun i => vs.set i _) (show 0 + (t : Int).toNat * 1 = t by simp));refine r1a (n := 3) rfl o1a rfl (SG.cells 8 rfl) rfl ⟨⟨_, rfl, _, _, _, rfl, R0.rdI SG (k := 7) rfl hM (d5a hp p0.mem) (by simp; omega), ?_, ?_⟩, SG.fin⟩
   ·have := (C3a.ofPad (g := ga) (l := atC c t s) (pad := j0) (by rw [s0]; exact F0)).rdI SG (k := 6) rfl hM (v8a hp p0) (by rw [s0]; omega);rw [s0] at this;exact this
   ·have hA := SG.apartM (A := [_, _, _, _, _, _, _, _, _, _, _]) hM;have := SG.rdBs (M := M) 5 rfl (U0a hM (SG.new 5 rfl)) (bs := c.buf.set t _) (by simp; omega) (g0.rd (A := [_, _, _, _, _, _, _, _, _, _, _]) SG (Mx := M) (fun g hg => by simp [hg]) hA (fun x hx => by
     obtain ⟨q, hq, rfl⟩ := List.getElem_of_mem hx;have := (p0.bufs q _ (List.getElem?_eq_getElem hq)).1;omega))
    rw [List.length_set] at this;exact this
  refine lO0 rfl ⟨⟩ (x1a o1a rfl (a0.cells 4 rfl) rfl rfl ?_)
  first | refine e0a (kk := 8) (vs := [_, _, _]) a0 S2a rfl rfl rfl rfl rfl rfl rfl ?_
  intro C0 b0 h0;dsimp only [k0a, List.set] at b0;replace g0 := g0.keep (h0.mono (by simp));refine lR0 rfl ⟨⟩ ?_;have SF := b0.setEnt 6 rfl (show _ = (atC c t s).map (Value.int .i64) ++ j0 by exact J3c r0 (by omega) (by simp));have s0 := H5a c t s;rw [O0b J2 g1 x1 (k := k) (by omega)] at p0 ⊢;have SG := SF.setEnt 5 rfl (congrArg (fun i => vs.set i _) (show 0 + (t : Int).toNat * 1 = t by simp));refine r1a (n := 3) rfl o1a rfl (SG.cells 8 rfl) rfl ⟨⟨_, rfl, _, _, _, rfl, R0.rdI SG (k := 7) rfl hM (d5a hp p0.mem) (by simp; omega), ?_, ?_⟩, SG.fin⟩
  ·have := (C3a.ofPad (g := ga) (l := atC c t s) (pad := j0) (by rw [s0]; exact F0)).rdI SG (k := 6) rfl hM (v8a hp p0) (by rw [s0]; omega);rw [s0] at this;exact this
  ·have hA := SG.apartM (A := [_, _, _, _, _, _, _, _, _, _, _]) hM;have := SG.rdBs (M := M) 5 rfl (U0a hM (SG.new 5 rfl)) (bs := c.buf.set t _) (by simp; omega) (g0.rd (A := [_, _, _, _, _, _, _, _, _, _, _]) SG (Mx := M) (fun g hg => by simp [hg]) hA (fun x hx => by
    obtain ⟨q, hq, rfl⟩ := List.getElem_of_mem hx;have := (p0.bufs q _ (List.getElem?_eq_getElem hq)).1;omega))
   rw [List.length_set] at this;exact this
 try have g0 := hR.keep (KM.mono (fun g hg => List.mem_append_left _ (List.mem_append_left _ hg)))
 refine lO0 rfl ⟨⟩ (s0a O3a rfl (by exact S.cell 4 rfl rfl) rfl ?_);refine lO0 rfl ⟨⟩ (s0a C0a rfl (by exact S.cell 9 rfl rfl) rfl ?_);refine lO0 rfl ⟨⟩ (s0a C0a rfl (by exact S.cell 3 rfl rfl) rfl ?_);refine x0a Y0a.slT rfl (by rfl) rfl (by omega) (by omega) rfl ?_
 first | refine I0a (kk := 6) S c1b rfl (by conv => lhs; whnf) rfl rfl (by (simp; omega)) ?_
 intro A1 a0 y0;replace g0 := g0.keep (y0.mono (by simp));refine lO0 rfl ⟨⟩ (s0a C0a rfl (by exact a0.cell 3 rfl rfl) rfl ?_);refine lB0 rfl ⟨⟩ (fun r0 => ?_) fun r0 => ?_
 ·refine lO0 rfl ⟨⟩ (s0a O3a rfl (by exact a0.cell 4 rfl rfl) rfl ?_);refine lO0 rfl ⟨⟩ (s0a C0a rfl (by exact a0.cell 3 rfl rfl) rfl ?_);have q6 := I2 (by omega);refine x0a Y0a.slT rfl (by rfl) rfl (by omega) (by omega) rfl ?_
  first | refine I0a (kk := 6) a0 c1b rfl (by conv => lhs; whnf) rfl rfl (by (simp; omega)) ?_
  intro B1 o0 z0;replace g0 := g0.keep (z0.mono (by simp));refine lO0 rfl ⟨⟩ (x1a o1a rfl (o0.cells 4 rfl) rfl rfl ?_)
  first | refine e0a (kk := 8) (vs := [_, _, _]) o0 S2a rfl rfl rfl rfl rfl rfl rfl ?_
  intro C0 b0 h0;dsimp only [k0a, List.set] at b0;replace g0 := g0.keep (h0.mono (by simp));refine lR0 rfl ⟨⟩ ?_;have SF := b0.setEnt 6 rfl (show _ = (atC c t s).map (Value.int .i64) ++ j0 by exact f9b r0 (by omega) (by omega) (by simp) (by simp));have s0 := H5a c t s;rw [H0b g1 (k := k) (by omega)] at p0 ⊢;have SG := SF;refine r1a (n := 3) rfl o1a rfl (SG.cells 8 rfl) rfl ⟨⟨_, rfl, _, _, _, rfl, R0.rdI SG (k := 7) rfl hM (d5a hp p0.mem) (by simp; omega), ?_, ?_⟩, SG.fin⟩
  ·have := (C3a.ofPad (g := ga) (l := atC c t s) (pad := j0) (by rw [s0]; exact F0)).rdI SG (k := 6) rfl hM (v8a hp p0) (by rw [s0]; omega);rw [s0] at this;exact this
  ·have hA := SG.apartM (A := [_, _, _, _, _, _, _, _, _, _, _]) hM;have := SG.rdBs (M := M) 5 rfl (U0a hM (SG.new 5 rfl)) (bs := c.buf) (by omega) (g0.rd (A := [_, _, _, _, _, _, _, _, _, _, _]) SG (Mx := M) (fun g hg => by simp [hg]) hA (fun x hx => by
    obtain ⟨q, hq, rfl⟩ := List.getElem_of_mem hx;have := (p0.bufs q _ (List.getElem?_eq_getElem hq)).1;omega))
   exact this
 refine lO0 rfl ⟨⟩ (x1a o1a rfl (a0.cells 4 rfl) rfl rfl ?_)
 first | refine e0a (kk := 8) (vs := [_, _, _]) a0 S2a rfl rfl rfl rfl rfl rfl rfl ?_
 intro C0 b0 h0;dsimp only [k0a, List.set] at b0;replace g0 := g0.keep (h0.mono (by simp));refine lR0 rfl ⟨⟩ ?_;have SF := b0.setEnt 6 rfl (show _ = (atC c t s).map (Value.int .i64) ++ j0 by exact J3c r0 (by omega) (by simp));have s0 := H5a c t s;rw [H0b g1 (k := k) (by omega)] at p0 ⊢;have SG := SF;refine r1a (n := 3) rfl o1a rfl (SG.cells 8 rfl) rfl ⟨⟨_, rfl, _, _, _, rfl, R0.rdI SG (k := 7) rfl hM (d5a hp p0.mem) (by simp; omega), ?_, ?_⟩, SG.fin⟩
 ·have := (C3a.ofPad (g := ga) (l := atC c t s) (pad := j0) (by rw [s0]; exact F0)).rdI SG (k := 6) rfl hM (v8a hp p0) (by rw [s0]; omega);rw [s0] at this;exact this
 ·have hA := SG.apartM (A := [_, _, _, _, _, _, _, _, _, _, _]) hM;have := SG.rdBs (M := M) 5 rfl (U0a hM (SG.new 5 rfl)) (bs := c.buf) (by omega) (g0.rd (A := [_, _, _, _, _, _, _, _, _, _, _]) SG (Mx := M) (fun g hg => by simp [hg]) hA (fun x hx => by
   obtain ⟨q, hq, rfl⟩ := List.getElem_of_mem hx;have := (p0.bufs q _ (List.getElem?_eq_getElem hq)).1;omega))
  exact this
def NC (w : World) (rs : List (Nat × Obj)) : Prop := ∀ x ∈ rs, w.heap[x.1]? = some x.2 ∧ ∀ a t f, x.2 ≠ .cells a t f
theorem NC.nil {w : World} : NC w [] := fun x hx => by cases hx
theorem NC.lt {w : World} {rs : List (Nat × Obj)} (h : NC w rs) : ∀ x ∈ rs, x.1 < w.heap.size := fun x hx => by
 have := (h x hx).1;rcases Nat.lt_or_ge x.1 w.heap.size with h' | h'
 ·exact h'
 ·rw [Array.getElem?_eq_none h'] at this; cases this
theorem NC.keep {w w' : World} {rs : List (Nat × Obj)} (h : NC w rs) (k : w0a [] w w') : NC w' rs := fun x hx => ⟨(k.same x.1 (h.lt x hx) (by simp)).trans (h x hx).1, (h x hx).2⟩
theorem NC.ne {w : World} {rs : List (Nat × Obj)} (h : NC w rs) {g t : Nat} {cs : List Value} (hg : o0a w (g, t, cs)) : ∀ x ∈ rs, x.1 ≠ g := fun x hx he => by
 have h1 := (h x hx).1;rw [he] at h1;unfold o0a at hg;rw [hg] at h1;exact (h x hx).2 _ _ _ (Option.some.inj h1).symm
theorem NC.keepS {w w' : World} {rs : List (Nat × Obj)} (h : NC w rs) {g t : Nat} {cs : List Value} (k : w0a [g] w w') (hg : o0a w (g, t, cs)) : NC w' rs := fun x hx =>
 ⟨(k.same x.1 (h.lt x hx) (by rw [List.mem_singleton]; exact h.ne hg x hx)).trans (h x hx).1, (h x hx).2⟩
theorem NC.keepL {w w' : World} {rs : List (Nat × Obj)} (h : NC w rs) {Gs : List Nat} (k : w0a Gs w w') (hg : ∀ g ∈ Gs, ∃ t cs, o0a w (g, t, cs)) : NC w' rs := fun x hx =>
 ⟨(k.same x.1 (h.lt x hx) (fun hh => by obtain ⟨t, cs, hb⟩ := hg _ hh; exact h.ne hb x hx rfl)).trans (h x hx).1, (h x hx).2⟩
theorem NC.tail {w : World} {x : Nat × Obj} {rs : List (Nat × Obj)} (h : NC w (x :: rs)) : NC w rs := fun y hy => h y (List.mem_cons_of_mem _ hy)
theorem NC.cons {w : World} {x : Nat × Obj} {rs : List (Nat × Obj)} (h : NC w rs) (h1 : w.heap[x.1]? = some x.2) (h2 : ∀ a t f, x.2 ≠ .cells a t f) : NC w (x :: rs) := fun y hy => by
 rcases List.mem_cons.1 hy with rfl | hy
 ·exact ⟨h1, h2⟩
 ·exact h y hy
theorem NC.put {w : World} {l : Nat} {o o' : Obj} {rs : List (Nat × Obj)} (h : NC w ((l, o) :: rs)) (hl : ∀ x ∈ rs, x.1 ≠ l) (ho : ∀ a t f, o' ≠ .cells a t f) : NC (w.putObj l o') ((l, o') :: rs) := by
 have a0 := h.lt (l, o) (by simp);refine NC.cons (fun x hx => ⟨?_, (h.tail x hx).2⟩) (World.putObj_heap_same a0) ho;rw [World.putObj_heap_other (hl x hx)]; exact (h.tail x hx).1
theorem St.putObj {M : List Nat} {w0 w : World} {L : List Ent} (S : St M w0 w L) {l : Nat} (o : Obj) {rs : List (Nat × Obj)} {o1 : Obj} (h : NC w rs) (hx : (l, o1) ∈ rs) (hl : w0.heap.size ≤ l ∨ l ∈ M) : St M w0 (w.putObj l o) L := by
 refine ⟨S.below.putObj o hl, fun b hb g hg => ⟨(S.own b hb g hg).1, (S.own b hb g hg).2.putObj (fun he => ?_)⟩, S.apart⟩;exact h.ne (S.own b hb g hg).2 _ hx he.symm
def O6a (rs : List Nat) : List (Nat × Obj) := rs.map fun r => (r, .deferred (some []))
theorem Q8b {rs : List Nat} {x : Nat × Obj} (h : x ∈ O6a rs) : x.1 ∈ rs := by
 obtain ⟨_, hr, rfl⟩ := List.mem_map.1 h; exact hr
def e6a (P : Program) (fn : Func) (R : Value → World → Prop) (D : List Deferred) (e : Env) (w : World) : Prop :=
 ∃ rs : List Nat, D = rs.map Z6a ∧ rs.Nodup ∧ NC w (O6a rs) ∧ ∀ w', v0a rs w w' → w'.heap.size = w.heap.size → ∀ tmps : Array Value, P0a { tmps, defers := [] } = e → ∃ v, (results fn tmps).run P w' = .ok v w' ∧ R v w'
theorem r8a {P : Program} {fn : Func} {tmps : Array Value} {R : Value → World → Prop} : ∀ (rs : List Nat) (w : World), rs.Nodup → NC w (O6a rs) → (∀ w', v0a rs w w' → w'.heap.size = w.heap.size → ∃ v, (results fn tmps).run P w' = .ok v w' ∧ R v w') →
 LeavesInM Fence.wide 0 P fn tmps (fun en w' => ∃ v, en = .returned v ∧ R v w') (rs.map Z6a) .returning w
 | [], w, _, _, h => by
   obtain ⟨v, h1, h2⟩ := h w (v0a.refl _ _) rfl;exact ⟨v, h1, v, rfl, h2⟩
 | r :: rs, w, hn, hO, h => by
   obtain ⟨a0, b0⟩ := List.nodup_cons.1 hn;have hr : w.heap[r]? = some (.deferred (some [])) := (hO (r, .deferred (some [])) (by simp [O6a])).1;refine ⟨by simp, .inl ⟨r, _, rfl, run_takeDeferred hr, r8a rs _ b0 (fun x hx => ⟨?_, (hO x (by simp [O6a] at hx ⊢; exact .inr hx)).2⟩) fun w' hb hs => ?_⟩⟩
   ·rw [World.putObj_heap_other (show x.1 ≠ r from fun he => a0 (by rw [← he]; exact Q8b hx))];exact (hO x (by simp [O6a] at hx ⊢; exact .inr hx)).1
   ·refine h w' ⟨hb.os, hb.tape, hb.output, by simpa using hb.size, fun k hk hm => ?_⟩ (by simpa using hs);simp only [List.mem_cons, not_or] at hm;rw [hb.block k (by simpa using hk) hm.2, World.putObj_heap_other hm.1]
theorem H6a {P : Program} {N : Nat} {w : World} {f : FuncId} {fn : Func} {c : Code} {args : Array Value} {R : Value → World → Prop} (hf : P.funcs[f]? = some fn) (hb : fn.body = some c) (hN : fn.ntmps = N) (a0 : Nat.ble args.size N = true)
 (h : W P none N c ⟨e6a P fn R, fun _ _ _ _ => False, e6a P fn R⟩ [] (O9a args) w) : M0a P f args w R := by
 subst hN;unfold W at h;have b0 : (args ++ Array.replicate (fn.ntmps - args.size) undef).size = fn.ntmps := by
  have := Nat.le_of_ble_eq_true a0;simp; omega
 have h1 := h { tmps := args ++ Array.replicate (fn.ntmps - args.size) undef, defers := [] } b0 rfl (c9a _ _);have key : ∀ (a : Act) (w : World), e6a P fn R a.defers (P0a a) w → LeavesInM Fence.wide 0 P fn a.tmps (fun en w' => ∃ v, en = .returned v ∧ R v w') a.defers .returning w := by
  intro a w hq;obtain ⟨rs, hD, hn, hO, hq⟩ := hq;rw [hD];exact r8a rs w hn hO fun w' hb hs => hq w' hb hs a.tmps rfl
 refine callsIn_wide (n := 0).1 (callsIn_of_wp_marks hf hb trivial (wpIn_mono h1 fun ex a w hq => ?_));cases ex with
 | normal => exact key a w hq.2
 | ret => exact key a w hq.2
 | exit id => exact hq.2
 | goto l => exact hq
 | panic c => exact hq.elim
 | outgrown => exact hq.elim
section
variable {P : Program} {fn : Func} {R : Value → World → Prop} {D : List Deferred} {e : Env} {w : World}
theorem o3c {t : Nat} (h : fn.results = #[.tmp t]) {v : Value} (hv : e t = v) (rs : List Nat) (hD : D = rs.map Z6a) (hn : rs.Nodup) (hO : NC w (O6a rs)) (hR : ∀ w', v0a rs w w' → R v w') : e6a P fn R D e w :=
 ⟨rs, hD, hn, hO, fun w' hb _ tmps he => by subst he; subst hv; exact ⟨_, by simp [results, h]; rfl, by simpa [P0a] using hR w' hb⟩⟩
theorem W1a {a1 t1 n a2 t2 g1 g2 : Nat} {cs : List Value} {v2 : Value} (h : fn.results = #[.cell a1 t1, .cell a2 t2]) (hM : Q6a P t1 n) (a0 : One P t2) (e1 : e a1 = .pointer (some ⟨g1, 0, none⟩)) (e2 : e a2 = .pointer (some ⟨g2, 0, none⟩)) (g0 : cs.length = n)
 (rs : List Nat) (hD : D = rs.map Z6a) (hn : rs.Nodup) (hO : NC w (O6a rs)) (b0 : i1a w g1 0 cs) (d0 : w.cell? ⟨g2, 0, none⟩ = some v2) (e0 : g1 ∉ rs) (f0 : g2 ∉ rs) (hR : ∀ w', v0a rs w w' → R (.tuple #[.agg cs.toArray, v2]) w') : e6a P fn R D e w :=
 ⟨rs, hD, hn, hO, fun w' hb _ tmps he => by
  have hk : w0a rs w w' := ⟨hb.size, hb.block⟩;have c1 := b0.keep hk e0;have c2 := hk.cell (a := ⟨g2, 0, none⟩) f0 d0;subst he; subst g0;simp only [P0a, Array.getD_eq_getD_getElem?] at e1 e2;have h1 := run_loadCells_list (P := P) w' ⟨g1, 0, none⟩ cs (fun j v hj => by rw [Addr.add_lit]; exact c1 j v hj);have h2 : (loadVar t2 ⟨g2, 0, none⟩).run P w' = .ok v2 w' := by rw [a0 w']; simp [load, Sem.run, c2]
  exact ⟨_, by simp [results, h, asAddr, e1, e2, hM w', h1, h2], hR w' hb⟩⟩
end
theorem w0a.of_belowM {M : List Nat} {w w' : World} (h : v0a M w w') : w0a M w w' := ⟨h.size, h.block⟩
theorem w6a {w wi : World} {rs : List (Nat × Obj)} {rc : Loop} (hO : NC w rs) (a0 : wi.heap[w.heap.size]? = some (.deferred (some []))) (hl : wi.heap[w.heap.size + 1]? = some (.loop rc)) (hB : Below w.heap.size w wi) : NC wi ((w.heap.size + 1, .loop rc) :: (w.heap.size, .deferred (some [])) :: rs) :=
 ((hO.keep (w0a.of_below hB)).cons a0 (by simp)).cons hl (by simp)
theorem P6a {m : Int} {b : List G0a} {i : Nat} {en : G0a} (h : b[i]? = some en) : T2a m b i = (decide (i = 0) || (decide (m = 2) && !((b.take i).any fun o => t3b o en))) := by
 unfold T2a
 congr 2
 rw [Bool.eq_iff_iff];rw [List.all_eq_true, Bool.not_eq_true', List.any_eq_false];have a0 := R1a h;constructor
 ·intro h1 o ho;obtain ⟨j, hj, rfl⟩ := List.getElem_of_mem ho;rw [List.length_take] at hj;have := h1 j (List.mem_range.2 (by omega));rw [h, List.getElem?_eq_getElem (by omega)] at this;rw [List.getElem_take];simpa using this
 ·intro h1 j hj;have hj := List.mem_range.1 hj;rw [h, List.getElem?_eq_getElem (show j < b.length by omega)];have := h1 b[j] (by rw [List.mem_take_iff_getElem]; exact ⟨j, by omega, rfl⟩);simpa using this
theorem m9b (cs : List Value) (h8 : cs.length = 8) (t : Int) (w0 : World) :
 M0a Tryz.prog 109 #[.agg cs.toArray, .int .i64 t] w0 fun v w' => (∃ gs gt, v = .func (.func 143) #[] #[.pointer (some ⟨gs, 0, none⟩), .pointer (some ⟨gt, 0, none⟩)] ∧ w0.heap.size ≤ gs ∧ w0.heap.size ≤ gt ∧ o0a w' (gs, 165, cs) ∧ o0a w' (gt, 3, [.int .i64 t])) ∧ Below w0.heap.size w0 w' := by
 have S := St.refl w0
 match cs, h8 with
 | [c0, c1, c2, c3, c4, c5, c6, c7], _ =>
 refine a0a Tryz.func109 rfl Tryz.ntmps109 rfl ?_;refine wO0 rfl ⟨⟩ (j0a S (by conv => lhs; whnf) rfl ?_);intro g2 w2 S2 X2 G2;refine q6a S2 (v := .int .i64 _) rfl rfl rfl ?_;intro g3 w3 S3 X3 G3;refine lO0 rfl ⟨⟩ (F1a rfl rfl ?_);refine lR0 rfl ⟨⟩ (q0a rfl (by conv => lhs; whnf) ?_);exact ⟨⟨g2, g3, rfl, by simpa using S3.new 1 rfl, by simpa using S3.new 0 rfl, S3.blk 1 rfl, S3.blk 0 rfl⟩, S3.fin⟩
theorem c6b (c : r0a) (m : Int) (t : Nat) (b : List G0a) (S0 : c.buf[t]? = some b) (gs gt l : Nat) (Mf : List Nat) (w0 : World) (xs ps : List Value) (d1 : ps.length = 4) (J : Nat → World → Prop) (Q : World → Prop)
 (hX : t0a Mf w0 c xs) (b1 : gs ∉ Mf) (Q0 : o0a w0 (gs, 165, xs ++ (ps ++ [.int .i64 m]))) (a1 : o0a w0 (gt, 3, [.int .i64 t]))
 (Y0 : J 0 w0) (Z0 : ∀ i w, J i w → w0a Mf w0 w) (s0 : ∀ i w w', J i w → Below w.heap.size w w' → J i w') (P0 : ∀ i w, J i w → i < b.length → T2a m b i = false → J (i + 1) w)
 (hY : ∀ (i : Nat) (en : G0a) (w : World) (es : List Value), b[i]? = some en → T2a m b i = true → J i w → (∀ (M' : List Nat) (w' : World), (∀ g ∈ M', g ∈ Mf ∨ w0.heap.size ≤ g) → w0a M' w0 w' → V0a M' w' es en) → Yld Tryz.prog l #[.int .i64 i, .agg es.toArray] w fun v w' => (v = .bool true ∧ J (i + 1) w') ∨ (v = .bool false ∧ Q w')) :
 M0a Tryz.prog 143 #[.func (.yield l) #[] #[], .pointer (some ⟨gs, 0, none⟩), .pointer (some ⟨gt, 0, none⟩)] w0 fun _ w' => J b.length w' ∨ Q w' := by
 obtain ⟨_, _, _, _, _, _, Xb, xb, yb, rfl, _, _, y0, _, _, _, _, _, _⟩ := hX.open_
 match ps, d1 with
 | [c3, c4, c5, c6], _ =>
 have S := St.refl w0;have A0 : w0.cell? ⟨gs, 2, none⟩ = some (.slice Xb xb yb) := Q0.cell rfl;have B0 : w0.cell? ⟨gt, 0, none⟩ = some (.int .i64 t) := a1.cell rfl;have ht := R1a S0;refine a0a Tryz.func143 rfl Tryz.ntmps143 rfl ?_;refine wO0 rfl ⟨⟩ (s0a o6a rfl (by exact S.old A0) rfl ?_);refine s0a C0a rfl (by exact S.old B0) rfl ?_;obtain ⟨_, V0, f1, _, H0, v0, _, _, C0, F0⟩ := RdS.get (y0) (t) (by omega);obtain rfl := Option.some.inj (S0.symm.trans H0);obtain ⟨q0, d0, h0, rfl, f0, _, _⟩ := s5a.open_ F0;refine lC (S.k.a C0) [.x V0 f1,.f 0 0] rfl ⟨rfl,⟨v0,by omega⟩,⟨⟩⟩ (wL (fun μ D ε w => D = [] ∧ ∃ k : Nat, (k + μ = b.length) ∧ (J k w) ∧ ε 0 = .func (.yield l) #[] #[] ∧ ε 1 = .pointer (some ⟨gs, 0, none⟩) ∧ ε 4 = .slice q0 d0 h0 ∧ ε 13 = .slice q0 d0 h0 ∧ ε 14 = .int .i64 d0 ∧ ε 15 = .int .i64 k) (μ := b.length) ⟨rfl, 0, by omega, Y0, rfl, rfl, rfl, rfl, rfl, rfl⟩ ?_);rintro μ D ε w ⟨rfl, k, hk, hJ, e0, e1, e4, K0, L0, N0⟩;refine p0a 0 e0 (p0a 1 e1 (p0a 4 e4 (p0a 13 K0 (p0a 14 L0 (p0a 15 N0 ?_)))));clear e0 e1 e4 K0 L0 N0;have r0 := Z0 _ _ hJ;have x0 := RdS.keepW f0 r0 (V0a.keep r0);have j0 := (RdS.mono f0 (R' := fun cs x => ∀ (M' : List Nat) (w' : World), (∀ g ∈ M', g ∈ Mf ∨ w0.heap.size ≤ g) → w0a M' w0 w' → V0a M' w' cs x) (fun cs x h M' w' hm hk => V0a.keep hk _ _ (V0a.more hm _ _ h))).keep r0;have z0 : w.cell? ⟨gs, 7, none⟩ = some (.int .i64 m) := r0.cell (a := ⟨gs, 7, none⟩) b1 (Q0.cell rfl);replace S := St.refl w;refine wB0 rfl ⟨⟩ (fun W0 => ?_) fun W0 => ?_
 ·obtain ⟨en, J0, T0, _, a0, i0, _, E0, D0, p0⟩ := RdS.get (j0) (k) (by omega);have R0 := p0 Mf _ (fun g hg => .inl hg) r0;obtain ⟨_, _, _, _, _, _, rfl, -⟩ := V0a.open_ R0;refine lO (S.k.a D0) [.x J0 T0,.v 0] rfl ⟨⟨rfl,E0⟩,⟨i0,by omega⟩,⟨⟩⟩ (n0a S n9a rfl rfl ?_);intro g6 w6 S6 X6 G6;refine lO0 rfl ⟨⟩ ?_
  first | refine e0a (kk := 0) (vs := [_, _]) S6 X9a rfl rfl rfl rfl rfl rfl rfl ?_
  intro i1 g0 U0;dsimp only [k0a, List.set] at g0;refine lC0 rfl ⟨⟩ (D0a b0a [0, 1, 2, 3, 4, 5, 6, 7, 8, 9, 10, 11, 12, 13] [] [] (by kernel_rfl) rfl (Cl _ _ _ _) (Cl.start g0) ?_);refine qB0 rfl ⟨⟩ (fun X0 => ?_) fun X0 => ?_
  ·refine qO0 rfl ⟨⟩ (h0a C0a rfl (fun w1 hw => by exact hw.1.old z0) rfl ?_);refine qB0 rfl ⟨⟩ (fun O0 => ?_) fun O0 => ?_
   ·refine qD rfl ⟨⟩ ?_;rintro I0 ⟨b0, t0⟩;refine lP0 rfl ⟨by omega,⟨⟩⟩ ?_;exact ⟨μ - 1, by omega, rfl, k + 1, by omega, s0 _ _ _ (P0 _ _ hJ (by omega) (by rw [P6a a0, decide_eq_false (show ¬ k = 0 by omega), decide_eq_false (show ¬ m = 2 from O0)]; rfl)) b0.fin, rfl, rfl, rfl, rfl, rfl, rfl⟩
   refine qO0 rfl ⟨⟩ ?_;refine X3b (lo := 0) (hi := k) (kd := .i64) Q4a.slT (show _ = Value.slice (some ⟨J0, T0, none⟩) d0 h0 by rw [← i0]; rfl) (.inl ⟨rfl, rfl⟩) (.inr rfl) (by omega) (by have := j0.len; omega) j0.len.2.1 rfl ?_;simp only [Nat.zero_mul, Nat.add_zero, Nat.sub_zero, ite_self];refine qO g0.q [.w 0] rfl ⟨⟨rfl,by rfl⟩,⟨⟩⟩ (X1a F5c rfl rfl (fun w1 S1 X1 => d7b (b.take k) en Mf _ _ _ (RdS.take (RdS.keepW (i0 ▸ x0) (S1.keep0 Mf) (V0a.keep (S1.keep0 Mf))) k (by omega)) (V0a.keep (S1.keep0 Mf) _ _ R0)) (fun u0 => ?_) fun u0 => ?_)
   ·refine qD rfl ⟨⟩ ?_;rintro I0 ⟨b0, t0⟩;refine lP0 rfl ⟨by omega,⟨⟩⟩ ?_;exact ⟨μ - 1, by omega, rfl, k + 1, by omega, s0 _ _ _ (P0 _ _ hJ (by omega) (by rw [P6a a0, decide_eq_false (show ¬ k = 0 by omega), u0]; simp)) b0.fin, rfl, rfl, rfl, rfl, rfl, rfl⟩
   refine qD rfl ⟨⟩ ?_;rintro I0 ⟨b0, t0⟩;refine lO b0.k [.w 0] rfl ⟨⟨rfl,by rfl⟩,⟨⟩⟩ ?_;have G0 : T2a m b k = true := by
    rw [P6a a0];rw [decide_eq_true (show m = 2 by omega), u0]; simp
   refine F4b rfl rfl rfl (hY k en _ _ a0 G0 (s0 _ _ _ hJ b0.fin) p0) ?_;rintro g1 h1 (⟨rfl, n0⟩ | ⟨rfl, o0⟩)
   ·exact lP0 rfl ⟨by omega,⟨⟩⟩ ⟨μ - 1, by omega, rfl, k + 1, by omega, n0, rfl, rfl, rfl, rfl, rfl, rfl⟩
   refine lR0 rfl ⟨⟩ (J1a rfl ?_);exact .inr o0
  refine qD rfl ⟨⟩ ?_;rintro I0 ⟨b0, t0⟩;refine lO b0.k [.w 0] rfl ⟨⟨rfl,by rfl⟩,⟨⟩⟩ ?_;have G0 : T2a m b k = true := by
   rw [P6a a0];rw [decide_eq_true (show k = 0 by omega)]; rfl
  refine F4b rfl rfl rfl (hY k en _ _ a0 G0 (s0 _ _ _ hJ b0.fin) p0) ?_;rintro g1 h1 (⟨rfl, n0⟩ | ⟨rfl, o0⟩)
  ·exact lP0 rfl ⟨by omega,⟨⟩⟩ ⟨μ - 1, by omega, rfl, k + 1, by omega, n0, rfl, rfl, rfl, rfl, rfl, rfl⟩
  refine lR0 rfl ⟨⟩ (J1a rfl ?_);exact .inr o0
 refine lF0 rfl ⟨⟩ (J1a rfl ?_);obtain rfl : k = b.length := by omega
 exact .inl hJ
theorem E1b {rc : Loop} (b0 : rc.state = .ready) (a0 : rc.pending = none) : ({ ({ rc with state := .busy } : Loop) with state := if (none : Option Code).isNone then .ready else .done, pending := none } : Loop) = rc := by
 cases rc; simp at b0 a0 ⊢; exact ⟨b0.symm, a0.symm⟩
theorem O7b {M : List Nat} {w0 w : World} {L : List Ent} (S : St M w0 w L) (k : Nat) {G : Option Nat} {t : TypeId} {cs : List Value} (hk : L[k]? = some (G, t, cs)) : ∀ g ∈ G.toList, ∃ t cs, o0a w (g, t, cs) := fun g hg => by
 have : G = some g := by cases G <;> simp at hg ⊢; exact hg.symm
 subst this;exact ⟨_, _, S.blk k hk⟩
theorem a9b {w0 w : World} {L : List Ent} (S : St [] w0 w L) (k : Nat) {G : Option Nat} {t : TypeId} {cs : List Value} (hk : L[k]? = some (G, t, cs)) : ∀ g ∈ G.toList, w0.heap.size ≤ g := fun g hg => by
 have : G = some g := by cases G <;> simp at hg ⊢; exact hg.symm
 subst this;simpa using S.new k hk
theorem E8a (p : f0a) (c : r0a) (m : Int) (hm : (m = 0 ∧ T3a c) ∨ m = 1 ∨ m = 2) (M : List Nat) (w0 : World) (cs xs : List Value) (hI : InP p M w0 cs) (hX : t0a M w0 c xs) (hf : F3a p c) :
 M0a Tryz.prog 82 #[.agg cs.toArray, .int .i64 m, .agg xs.toArray] w0 fun v w' => w1c M w' v (H0a p m c) ∧ Below w0.heap.size w0 w' := by
 obtain ⟨Ac, nc, cc, Am, nm, cm, Al, nl, cl, At, nt, ct, rfl, _, _, _, i2, _, _, _, _, _, _, _, _⟩ := hI.rd.open_;obtain ⟨Xm, xm, ym, Xa, xa, ya, Xb, xb, yb, rfl, _, _, _, _, _, _, _, _, _⟩ := hX.open_;have S := St.refl w0;have hM := hI.lt;have hp := hI.ok;have f2 := hf.nat;have f3 := hf.nbuf;have n2 := hp.nthreads;refine H6a Tryz.func82 rfl Tryz.ntmps82 rfl (wI ?_);refine wO0 rfl ⟨⟩ (j0a S (by conv => lhs; whnf) rfl ?_);intro g3 w3 S3 X3 G3;refine j0a S3 (by conv => lhs; whnf) rfl ?_;intro g5 w5 S5 X5 G5;refine lB0 rfl ⟨⟩ (fun X1 => ?_) fun X1 => ?_
 ·have t2 : m = 0 ∧ T3a c := by rcases hm with h | h | h; exact h; omega; omega
  obtain ⟨rfl, he⟩ := t2;refine lO S5.k [.w 1,.w 0] rfl ⟨⟨rfl,by rfl⟩,⟨rfl,by rfl⟩,⟨⟩⟩ (B0a S5 k6c rfl rfl (J7a p c M _ _ _ (hI.keep (S5.keep0 M)) (hX.keep (S5.keep0 M)) hf he) ?_);rintro Z2 j3 hr O1 N2;refine T0a (by conv => lhs; whnf) rfl ?_;exact lR0 rfl ⟨⟩ (o3c rfl (by conv => lhs; whnf) [] rfl List.nodup_nil NC.nil (fun w' hb => ⟨hr.keep (w0a.of_below hb.nil), (O1.below.trans hb).nil⟩))
 have G1 : m = 1 ∨ m = 2 := by rcases hm with h | h | h; exact absurd h.1 (by assumption); exact .inl h; exact .inr h
 refine lO S5.k [.w 1,.w 0] rfl ⟨⟨rfl,by rfl⟩,⟨rfl,by rfl⟩,⟨⟩⟩ (g0a S5 C9b rfl rfl (x9b p c m G1 M _ _ _ (hI.keep (S5.keep0 M)) (hX.keep (S5.keep0 M)) hf) ?_);intro m3 P1 O2;refine lO0 rfl ⟨⟩ (n0a P1 V9b rfl rfl ?_);intro g7 w7 S7 X7 G7;refine e0a (kk := 0) (vs := [_, _, _, _, _, _, _, _]) S7 x6b rfl rfl rfl rfl rfl rfl rfl ?_;intro E2 I0 T1;dsimp only [k0a, List.set] at I0;refine lO0 rfl ⟨⟩ (n0a I0 i9c rfl rfl ?_);intro g9 w9 S9 X9 G9;refine lC S9.k [.o 1] rfl ⟨rfl,⟨⟩⟩ (wL (fun μk D ε w => ∃ k : Nat, ∃ rs : List Nat, ∃ G : Option Nat, ∃ R0 : List Value, ∃ v : Value, D = rs.map Z6a ∧ (k + μk = (p.threads.length)) ∧ (rs.Nodup ∧ ∀ r ∈ rs, w0.heap.size ≤ r) ∧ (NC w (O6a rs)) ∧ (P1a (fun _ _ => S1a) 3 [] w0 G R0 v (m2a p m c k)) ∧ St [] w0 w ([(some g9, 41, [v]), (some g7, 165, [.slice Xm xm ym, .slice Xa xa ya, .slice Xb xb yb, .slice Ac nc cc, .slice Am nm cm, .slice Al nl cl, .slice At nt ct, .int .i64 m]), (some g5, 38, [.slice Xm xm ym, .slice Xa xa ya, .slice Xb xb yb]), (some g3, 27, [.slice Ac nc cc, .slice Am nm cm, .slice Al nl cl, .slice At nt ct])] ++ [(G, 44, R0)]) ∧ Sl ε [(3, .pointer (some ⟨g3, 0, none⟩)), (5, .pointer (some ⟨g5, 0, none⟩)), (7, .pointer (some ⟨g7, 0, none⟩)), (9, .pointer (some ⟨g9, 0, none⟩)), (32, .int .i64 xa), (33, .int .i64 k)]) (μ := (p.threads.length)) ⟨0, [], none, [], .slice none 0 0, rfl, by omega, ⟨List.nodup_nil, by simp⟩, NC.nil, P1a.nil, (S9.nils (R := [(none, 44, [])]) (by simp)), rfl⟩ ?_);rintro μk D ε w ⟨k, rs, G, R0, v, rfl, _, S0, hO, C0, S, eZ⟩;refine wK eZ (wB0 rfl ⟨⟩ (fun Y1 => ?_) fun Y1 => ?_)
 ·refine lO0 rfl ⟨⟩ (n0a S h9c rfl rfl ?_);intro d1 h3 v1 Q1 I2;replace hO := hO.keep Q1;refine I0a (kk := 0) v1 c1b rfl (by conv => lhs; whnf) rfl rfl (by exact Nat.le_of_ble_eq_true rfl) ?_;intro P0 b0 Z0;replace hO := by exact hO.keepS Z0 (v1.blk 0 rfl)
  refine lCn 3 b0.k [] rfl ⟨⟩ ?_;obtain ⟨b, z0⟩ : ∃ b, c.buf[k]? = some b := ⟨c.buf[k]'(by omega), List.getElem?_eq_getElem _⟩;have d2 : ∀ g ∈ g9 :: (G.toList ++ M), g < P0.heap.size := fun g hg => by
   rcases List.mem_cons.1 hg with rfl | hg
   ·exact b0.lt 1 rfl
   ·rcases List.mem_append.1 hg with hg | hg
    ·exact D0b b0 (k := 5) rfl g hg
    ·have := hM g hg; have := b0.size; omega
  have m2 : t0a (g9 :: (G.toList ++ M)) P0 c _ := (hX.more (fun g hg => by
   rcases List.mem_cons.1 hg with rfl | hg
   ·exact .inr (by simpa using b0.new 1 rfl)
   ·rcases List.mem_append.1 hg with hg | hg
    ·exact .inr (a9b b0 5 rfl g hg)
    ·exact .inl hg)).keep (b0.keep0 _)
  refine wO0 rfl ⟨⟩ (x1a o1a rfl (b0.cells 3 rfl) rfl rfl ?_);refine lO b0.k [.o 0] rfl ⟨rfl,⟨⟩⟩ (B0a b0 V8b rfl rfl (Y9b p hp c k b (g9 :: (G.toList ++ M)) _ d2 _ m2 hf z0) ?_);rintro a3 u1 hV T0 R1;replace hO := hO.keep R1;obtain ⟨Av, nv, cv, rfl⟩ := hV.form;have KV := w0a.refl (g9 :: G.toList) u1;refine lO0 rfl ⟨⟩ (s0a p6b rfl (by exact T0.cell 4 rfl rfl) rfl ?_);obtain ⟨th, V1, C2, _, o0, g1, _, _, j1, o1⟩ := RdS.get (i2) (k) (by omega);obtain ⟨_, _, _, _, _, _, _, t1, _, _, _, _, rfl, _, _, _, _, _, _, _, _, _, _, _, _, _⟩ := N0a.open_ o1;have V2 := (hp.thread o0).nsteps;refine lC (T0.k.a j1) [.o 0,.x V1 C2,.f 0 4] rfl ⟨rfl,⟨g1,by omega⟩,rfl,⟨⟩⟩ (wL (fun μj D ε w => D = rs.map Z6a ∧ ∃ j : Nat, ∃ G2 : Option Nat, ∃ cs2 : List Value, ∃ v2 : Value, (j + μj = (th.steps.length)) ∧ (NC w (O6a rs)) ∧ (w0a (g9 :: G.toList) u1 w) ∧ (∀ g ∈ G2.toList, u1.heap.size ≤ g ∨ g ∈ g9 :: G.toList) ∧ (P1a (fun _ _ => S1a) 3 [] w0 G2 cs2 v2 (m2a p m c k ++ p2a p m c k j)) ∧ St [] w0 w ([(some d1, 3, [.int .i64 k]), (some g9, 41, [v2]), (some g7, 165, [.slice Xm xm ym, .slice Xa xa ya, .slice Xb xb yb, .slice Ac nc cc, .slice Am nm cm, .slice Al nl cl, .slice At nt ct, .int .i64 m]), (some g5, 38, [.slice Xm xm ym, .slice Xa xa ya, .slice Xb xb yb]), (some g3, 27, [.slice Ac nc cc, .slice Am nm cm, .slice Al nl cl, .slice At nt ct])] ++ [(G2, 44, cs2)]) ∧ Sl ε [(3, .pointer (some ⟨g3, 0, none⟩)), (5, .pointer (some ⟨g5, 0, none⟩)), (7, .pointer (some ⟨g7, 0, none⟩)), (9, .pointer (some ⟨g9, 0, none⟩)), (10, .pointer (some ⟨d1, 0, none⟩)), (11, .slice Av nv cv), (32, .int .i64 xa), (33, .int .i64 k), (45, .int .i64 t1), (46, .int .i64 j)]) (μ := (th.steps.length)) ⟨rfl, 0, G, R0, v, by omega, hO, KV, fun g hg => .inr (List.mem_cons_of_mem _ hg), by simpa [p2a] using C0, T0, rfl⟩ ?_);rintro μj D ε w ⟨rfl, j, G2, cs2, v2, _, hO, KV, i1, h0, S, eZ⟩;refine wK eZ (wB0 rfl ⟨⟩ (fun Z1 => ?_) fun Z1 => ?_)
  ·refine lO0 rfl ⟨⟩ (x1a a6a rfl (S.cells 2 rfl) rfl rfl ?_);refine s0a C0a rfl (by exact S.cell 0 rfl rfl) rfl ?_;refine lO0 rfl ⟨⟩ ?_;obtain ⟨s, r1⟩ : ∃ s, th.steps[j]? = some s := ⟨th.steps[j]'(by omega), List.getElem?_eq_getElem _⟩;refine y0a S o0c rfl rfl (a7a p c m G1 k j th s M _ [.slice Ac nc cc, .slice Am nm cm, .slice Al nl cl, .slice At nt ct] [.slice Xm xm ym, .slice Xa xa ya, .slice Xb xb yb] _ (hI.keep (S.keep0 M)) (hX.keep (S.keep0 M)) ((hV.keep (KV.mono (fun g hg => by rcases List.mem_cons.1 hg with rfl | hg; simp; exact List.mem_cons_of_mem _ (List.mem_append_left _ hg)))).less (fun g hg => List.mem_cons_of_mem _ (List.mem_append_right _ hg))) hf o0 r1) (fun f1 F2 J0 K0 => ?_) (fun f1 F2 J0 K0 => ?_)
   ·replace KV := KV.trans (K0.of_nil);replace hO := hO.keep K0;refine lO0 rfl ⟨⟩ (s0a K5b rfl (by exact J0.cell 1 rfl rfl) rfl ?_);refine s0a C0a rfl (by exact J0.cell 0 rfl rfl) rfl ?_;refine lO0 rfl ⟨⟩ (j1a Z7b (vs := [(0, .int .i64 _), (1, .int .i64 _)]) (cs := [_, _, _]) rfl rfl rfl rfl ?_);refine E0a J0 r3a (vs := [.agg _]) (cs := [_, _, _]) (by rfl) rfl rfl rfl rfl rfl rfl ?_;intro S2 n3 U0 A1 J2;replace KV := KV.trans (A1.of_nil);replace hO := hO.keep A1;have l1 := I2a hp hf m k (by omega);have l2 := e5a p m c k j;refine C1a T1a (k := 6) (M2 := []) (e1 := ⟨k, j, 0⟩) U0 r3a (by decide) rfl h0 rfl rfl (U0.cells 0 rfl) (S1a.of (by unfold i64; omega) (by unfold i64; omega) (by unfold i64; omega)) (by rw [List.length_append]; omega) rfl ?_;intro b3 K2 W1 o3 y1 n0 B1 J1;have P2 := KV.size;obtain ⟨_, _, rfl⟩ := n0.form;replace hO := hO.keepL B1 (O7b U0 6 rfl);replace KV := KV.freshL B1 i1
    first | refine I0a (kk := 2) y1 i7c rfl (by conv => lhs; whnf) rfl rfl (by exact Nat.le_of_ble_eq_true rfl) ?_
    intro I1 G0 s0;replace KV := KV.fresh2 s0 (by exact .inr (by simp));replace hO := by exact hO.keepS s0 (y1.blk 2 rfl)
    refine lP0 rfl ⟨by omega,⟨⟩⟩ ⟨μj - 1, by omega, rfl, (j + 1), (_), (_), (_), (by omega), (hO), (KV), ?_, ?_, G0.tail, rfl⟩
    ·intro g hg; rcases J1 g hg with h | h
     ·exact i1 g h
     ·left; omega
    ·rw [F9a o0 r1 f1, ← List.append_assoc]; exact n0
   replace KV := KV.trans (K0.of_nil);replace hO := hO.keep K0;refine lP0 rfl ⟨by omega,⟨⟩⟩ ⟨μj - 1, by omega, rfl, (j + 1), (_), (_), (_), (by omega), (hO), (KV), ?_, ?_, J0, rfl⟩
   ·exact i1
   ·rw [q0b o0 r1 f1]; exact h0
  refine lO0 rfl ⟨⟩ (x1a a6a rfl (S.cells 2 rfl) rfl rfl ?_);refine s0a C0a rfl (by exact S.cell 0 rfl rfl) rfl ?_;refine B0a S I9b rfl rfl (m9b _ rfl (k : Int) _) ?_;rintro d3 j0 ⟨gs, gt, rfl, _, _, E1, p2⟩ E0 U1;replace hO := hO.keep U1;refine lC0 rfl ⟨⟩ (wJ ?_);refine I6a (vs := fun y => #[y, _, _]) n9b rfl (fun _ => rfl) (fun rc wi q1 H1 y2 m1 u2 has o2 r2 hl hB W2 => ?_);obtain ⟨l, s2⟩ : ∃ l, l = j0.heap.size + 1 := ⟨_, rfl⟩;have C1 := w6a hO r2 hl hB;rw [← s2] at hl C1 ⊢;have Si := E0.later hB;have Ki : w0a [] j0 wi := w0a.of_below hB;have Zw := E0.size;have Y2 : gs < j0.heap.size := E1.lt;have X2 : g9 < j0.heap.size := E0.lt 1 rfl;have B2 : w0.heap.size ≤ g9 := by simpa using E0.new 1 rfl
  have b2 : ∀ g ∈ (l :: g9 :: (G2.toList ++ M)), g ∈ M ∨ w0.heap.size ≤ g := fun g hg => by
   simp only [List.mem_cons, List.mem_append] at hg;rcases hg with rfl | rfl | hg | hg
   ·right; omega
   ·right; exact B2
   ·right; exact a9b E0 5 rfl g hg
   ·exact .inl hg
  have j2 : t0a (l :: g9 :: (G2.toList ++ M)) wi c _ := (hX.more b2).keep (Si.keep0 _);have A2 := S.lt 1 rfl;have n1 : gs ∉ (l :: g9 :: (G2.toList ++ M)) := fun hh => by
   simp only [List.mem_cons, List.mem_append] at hh;rcases hh with h | h | h | h
   ·omega
   ·omega
   ·have := D0b S (k := 5) rfl gs h; omega
   ·have := hM gs h; have := S.size; omega
  have B0 : ∀ x ∈ (j0.heap.size, Obj.deferred (some [])) :: O6a rs, x.1 ≠ l := fun x hx => by
   rcases List.mem_cons.1 hx with rfl | hx
   ·show j0.heap.size ≠ l; omega
   ·have := hO.lt x hx; omega
  refine M0a.mono (c6b c m k b z0 gs gt l (l :: g9 :: (G2.toList ++ M)) wi _ [.slice Ac nc cc, .slice Am nm cm, .slice Al nl cl, .slice At nt ct] rfl (fun i w => ∃ (G3 : Option Nat) (p0 : List Value) (v3 : Value), NC w ((l, .loop rc) :: (j0.heap.size, .deferred (some [])) :: O6a rs) ∧ St [] w0 w ([(some d1, 3, [.int .i64 k]), (some g9, 41, [v3]), (some g7, 165, [.slice Xm xm ym, .slice Xa xa ya, .slice Xb xb yb, .slice Ac nc cc, .slice Am nm cm, .slice Al nl cl, .slice At nt ct, .int .i64 m]), (some g5, 38, [.slice Xm xm ym, .slice Xa xa ya, .slice Xb xb yb]), (some g3, 27, [.slice Ac nc cc, .slice Am nm cm, .slice Al nl cl, .slice At nt ct])] ++ [(G3, 44, p0)]) ∧ P1a (fun _ _ => S1a) 3 [] w0 G3 p0 v3 (m2a p m c k ++ (p2a p m c k th.steps.length ++ f3a m c k i)) ∧ (∀ g ∈ G3.toList, wi.heap.size ≤ g ∨ g ∈ (l :: g9 :: (G2.toList ++ M))) ∧ w0a (l :: g9 :: (G2.toList ++ M)) wi w) (fun _ => False) j2 n1 (s3a Ki E1) (s3a Ki p2) ⟨G2, cs2, v2, C1, Si, by rw [show j = th.steps.length by omega] at h0; simpa [f3a] using h0, fun g hg => .inr (List.mem_cons_of_mem _ (List.mem_cons_of_mem _ (List.mem_append_left _ hg))), w0a.refl _ _⟩ (fun i w hJ => by obtain ⟨_, _, _, _, _, _, _, h⟩ := hJ; exact h) ?_ ?_ (fun i en w es D0 w2 hJ hE => ?_)) ?_
  ·rintro i w w' ⟨G3, p0, v3, f0, S3, a0, y0, K3⟩ h1;exact ⟨G3, p0, v3, f0.keep (w0a.of_below h1), S3.later h1, a0, y0, K3.trans (w0a.of_below h1)⟩
  ·rintro i w ⟨G3, p0, v3, f0, S3, a0, y0, K3⟩ hi hr;exact ⟨G3, p0, v3, f0, S3, by rw [M6b (by rw [getD_some z0]; exact hr)]; exact a0, y0, K3⟩
  ·obtain ⟨G3, p0, v3, f0, S3, a0, y0, K3⟩ := hJ;obtain ⟨_, _, _, _, _, _, rfl, -⟩ := V0a.open_ (hE _ _ (fun g hg => .inl hg) K3);have qE := (hf.bufs k b z0).2.1 en (c0a D0);have D2 : 0 < en.cells.length := by
    rcases Nat.eq_zero_or_pos en.cells.length with h | h
    ·exact absurd (List.length_eq_zero_iff.1 h) qE.some_
    ·exact h
   have li := R1a D0;have l4 := (hf.bufs k b z0).1;refine c8b (f0 (l, .loop rc) (by simp)).1 q1 y2 m1 u2 has o2 rfl rfl ?_;refine wI ?_;refine wO0 rfl ⟨⟩ (n0a S3 n9a rfl rfl ?_);intro R2 i3 x1 z1 M1;have F0 := Nat.le_trans K3.size M1;replace K3 := K3.trans (z1.of_nil);replace f0 := f0.keep z1;refine e0a (kk := 0) (vs := [_, _]) x1 X9a rfl rfl rfl rfl rfl rfl rfl ?_;intro A0 r0 t0;dsimp only [k0a, List.set] at r0;replace K3 := K3.fresh2 t0 (by exact .inl F0);replace f0 := by exact f0.keepS t0 (x1.blk 0 rfl)
   refine lF0 rfl ⟨⟩ ?_;refine ⟨(f0 (l, .loop rc) (by simp)).1, ?_⟩;have Sb := r0.putObj (.loop { rc with state := .busy }) f0 (List.mem_cons_self) (.inl (by omega));have i0 := f0.put (o' := .loop { rc with state := .busy }) B0 (by simp);have Kb := K3.fresh2 (M1a A0 l (.loop { rc with state := .busy })) (.inr (by simp));generalize A0.putObj l (.loop { rc with state := .busy }) = wb at Sb i0 Kb ⊢;have a2 : ∀ g ∈ G3.toList ++ (l :: g9 :: (G2.toList ++ M)), g ∈ (l :: g9 :: (G2.toList ++ M)) ∨ wi.heap.size ≤ g := fun g hg => by
    rcases List.mem_append.1 hg with h | h
    ·exact (y0 g h).symm
    ·exact .inl h
   obtain ⟨_, _, _, _, _, _, F1, L0, -⟩ := V0a.open_ (hE (G3.toList ++ (l :: g9 :: (G2.toList ++ M))) wb a2 (Kb.mono (fun g hg => List.mem_append_right _ hg)));simp only [List.cons.injEq, Value.slice.injEq, and_true] at F1;obtain ⟨⟨rfl, rfl, rfl⟩, rfl, rfl, rfl⟩ := F1;have U2 := L0.len.1;refine wI ?_;obtain ⟨x0, bx, _, _, s1, _, g2, _, q2, x2⟩ := RdS.get L0 0 D2;obtain ⟨rfl, z2⟩ := x2;refine wC0 rfl ⟨⟩ (g0b b0a (fun i => [0, 1, 2, 3, 4, 5, 6].contains i) [0, 1, 2, 3, 4, 5, 6, 7, 8] 9 (by kernel_rfl) (by kernel_rfl) (clF (A := [_, _, _, _, _, _]) (R := [(G3, 44, p0)]) Sb G3.toList) _ rfl ?_);have d0 := Sb.drew;have q0 : w0a [] wb wb.drew := x2a _ _;generalize wb.drew = H2 at d0 q0 ⊢;have e0 : w0a (G3.toList) _ _ := q0.of_nil;replace i0 := i0.keep q0;replace Kb := Kb.trans q0.of_nil;refine N1a ⟨(St.front (A := [_, _, _, _, _, _]) d0), e0⟩ rfl rfl rfl ?_;refine h0a K5b rfl (fun w1 hw => by exact hw.1.cell 2 rfl rfl) rfl ?_;refine d0a ?_;refine N1a ⟨(St.front (A := [_, _, _, _, _, _]) d0), e0⟩ rfl rfl rfl ?_;refine h0a C0a rfl (fun w1 hw => by exact hw.1.cell 1 rfl rfl) rfl ?_;refine d0a ?_;refine N1a ⟨(St.front (A := [_, _, _, _, _, _]) d0), e0⟩ rfl rfl rfl ?_;refine F0a o4b rfl rfl ?_;refine d0a ?_;refine N1a ⟨(St.front (A := [_, _, _, _, _, _]) d0), e0⟩ rfl rfl rfl ?_;refine h0a O3a rfl (fun w1 hw => by exact hw.1.cell 0 rfl rfl) rfl ?_;refine d0a ?_;refine N1a ⟨(St.front (A := [_, _, _, _, _, _]) d0), e0⟩ rfl rfl rfl ?_;refine m0a Y0a.slT rfl (by assumption) rfl (by omega) (by omega) rfl ?_;refine d0a ?_;refine N1a ⟨(St.front (A := [_, _, _, _, _, _]) d0), e0⟩ rfl rfl rfl ?_;refine h0a C0a rfl (fun w1 hw => by exact hw.2.cell (a := ⟨bx, _, none⟩) (fun hh => g2 (List.mem_append_left _ hh)) (q2 0 _ rfl)) rfl ?_;refine d0a ?_;refine N1a ⟨(St.front (A := [_, _, _, _, _, _]) d0), e0⟩ rfl rfl rfl ?_;refine h2a Z7b (vs := [(0, .int .i64 _), (1, .int .i64 _), (2, .int .i64 _)]) (cs := [_, _, _]) rfl rfl rfl rfl ?_;refine d0a ?_;refine T9a ⟨(St.front (A := [_, _, _, _, _, _]) d0), e0⟩ rfl rfl rfl rfl ?_;refine E0a d0 r3a (vs := [.agg _]) (cs := [_, _, _]) (by rfl) rfl rfl rfl rfl rfl rfl ?_;intro T2 p3 Q0 X0 L2;have v0 := e0.trans (X0.mono (by simp));replace Kb := Kb.trans (X0.of_nil);replace i0 := i0.keep X0;refine S0a ⟨rfl, ?_⟩;refine T9a ⟨(St.front (A := [_, _, _, _, _, _, _]) Q0).tail, v0⟩ rfl rfl rfl rfl ?_;have l1 := I2a hp hf m k (by omega);have l2 := e5a p m c k th.steps.length;have l3 := d9a m c k i;refine C1a T1a (k := 7) (M2 := []) (e1 := ⟨k, -1, x0⟩) Q0 r3a (by decide) rfl a0 rfl rfl (Q0.cells 0 rfl) (S1a.of (by unfold i64; omega) (by unfold i64; omega) z2) (by simp only [List.length_append]; omega) rfl ?_;intro e3 N1 b1 q3 W0 g0 Y0 K1;have Q2 := Kb.size;obtain ⟨_, _, rfl⟩ := g0.form;have V0 := W0.tail;have a1 := v0.trans Y0;replace i0 := i0.keepL Y0 (O7b Q0 7 rfl);replace Kb := Kb.freshL Y0 y0;refine S0a ⟨rfl, ?_⟩;refine K5a ⟨(St.front (A := [_, _, _, _, _, _]) V0), a1⟩ ?_
   first | refine I0a (kk := 2) V0 i7c rfl (by conv => lhs; whnf) rfl rfl (by exact Nat.le_of_ble_eq_true rfl) ?_
   intro O0 H0 u0;replace Kb := Kb.fresh2 u0 (by exact .inr (by simp));replace i0 := by exact i0.keepS u0 (V0.blk 2 rfl)
   refine S0a ⟨rfl, ?_⟩;refine fF0 rfl ⟨⟩ ?_;refine ⟨{ rc with state := .busy }, (i0 (l, _) (by simp)).1, .inl ⟨rfl, ?_⟩⟩;have h2 := i0.put (o' := .loop rc) B0 (by simp);have Sn := H0.tail.putObj (.loop rc) i0 (List.mem_cons_self) (.inl (by omega));have Kn := Kb.fresh2 (M1a O0 l (.loop rc)) (.inr (by simp));rw [E1b q1 H1];refine ⟨N1, b1, _, h2, Sn, ?_, ?_, Kn⟩
   ·rw [c5b (by rw [getD_some z0]; exact w2), getD_some z0, getD_some D0, getD_some s1];simp only [List.append_assoc] at g0 ⊢;exact g0
   ·intro g hg;rcases K1 g hg with h | h
    ·exact y0 g h
    ·left; omega
  rintro v w3 (⟨G3, p0, v3, f0, S3, a0, y0, K3⟩ | hF)
  rotate_left
  ·exact hF.elim
  refine ⟨rc, (f0 (l, .loop rc) (by simp)).1, by rw [q1]; simp, .inl ⟨H1, ?_⟩⟩;have Sa := S3.putObj (.loop { rc with state := .exhausted }) f0 (List.mem_cons_self) (.inl (by omega));have D1 := (f0.put (o' := .loop { rc with state := .exhausted }) B0 (by simp)).tail;have p1 : (j0.heap.size :: rs).Nodup ∧ ∀ r ∈ j0.heap.size :: rs, w0.heap.size ≤ r := ⟨List.nodup_cons.2 ⟨fun hh => by have := hO.lt (j0.heap.size, .deferred (some [])) (List.mem_map.2 ⟨_, hh, rfl⟩); simp at this, S0.1⟩, fun r hr => by
   rcases List.mem_cons.1 hr with rfl | hr
   ·exact E0.size
   ·exact S0.2 r hr⟩
  have N0 : P1a (fun _ _ => S1a) 3 [] w0 G3 p0 v3 (m2a p m c k ++ (p2a p m c k th.steps.length ++ f3a m c k b.length)) := a0;clear a0 hO;generalize w3.putObj l (.loop { rc with state := .exhausted }) = wa at Sa D1 ⊢;have hO : NC wa (O6a (j0.heap.size :: rs)) := D1;refine fP0 rfl ⟨by omega,⟨⟩⟩ ⟨μk - 1, by omega, (k + 1), (j0.heap.size :: rs), (_), (_), (_), rfl, (by omega), (p1), (hO), ?_, Sa.tail, rfl⟩;rw [r4a, D6a, z2a o0, getD_some z0];exact N0
 refine lO0 rfl ⟨⟩ (s0a K5b rfl (by exact S.cell 0 rfl rfl) rfl ?_);refine T0a (by conv => lhs; whnf) rfl ?_;refine lR0 rfl ⟨⟩ ?_;obtain rfl : k = p.threads.length := by omega
 have l1 := I2a hp hf m _ (Nat.le_refl _);rw [N6a] at l1 C0;refine o3c rfl (by conv => lhs; whnf) rs rfl S0.1 hO (fun w' hb => ⟨?_, (v0a.step S.below hb S0.2).nil⟩);refine ((P1a.rd (M := rs ++ M) (w := w) T1a C0 S (k := 4) rfl (fun g hg hm => ?_) (by omega)).keep ((w0a.of_belowM hb).mono (fun g hg => List.mem_append_left _ hg))).less (fun g hg => List.mem_append_right _ hg);subst hg;rcases List.mem_append.1 hm with h | h
 ·exact hO.ne (S.blk 4 rfl) (g, .deferred (some [])) (List.mem_map.2 ⟨_, h, rfl⟩) rfl
 ·exact U0a hM (S.new 4 rfl) h
def X6b (p : f0a) (m : Int) (c : r0a) (x : A0a) : r0a × Int := if x ∈ H0a p m c then (doC p m c x, 0) else (⟨[], [], []⟩, 110)
theorem M8a {p : f0a} {m : Int} {c : r0a} {x : A0a} (h : x ∈ H0a p m c) : X6b p m c x = (doC p m c x, 0) := if_pos h
theorem x3a {p : f0a} {m : Int} {c : r0a} {x : A0a} (h : x ∉ H0a p m c) : X6b p m c x = (⟨[], [], []⟩, 110) := if_neg h
theorem G2a {M : List Nat} {w : World} : t0a M w ⟨[], [], []⟩ [.slice none 0 0, .slice none 0 0, .slice none 0 0] := ⟨_, _, _, rfl, z4a, z4a, z4a⟩
section
variable {p : f0a} {m : Int} {c : r0a} {t : Nat} {b : List G0a}
theorem x0b {x : A0a} (h : x.thread < 0 ∨ p.threads.length ≤ x.thread) : x ∉ H0a p m c := fun hx => by
 obtain ⟨_, _, ⟨i, _, _, _, rfl⟩ | ⟨i, _, _, rfl⟩⟩ := p1a.1 hx
 ·simp at h; omega
 ·simp at h; omega
theorem E1c {x : A0a} (h : x.step < -1) : x ∉ H0a p m c := fun hx => by
 obtain ⟨_, _, ⟨i, _, _, _, rfl⟩ | ⟨i, _, _, rfl⟩⟩ := p1a.1 hx
 ·simp at h; omega
 ·simp at h
theorem Z1c {st cell : Int} (hs : 0 ≤ st) (h : ¬ cell = 0) : (⟨t, st, cell⟩ : A0a) ∉ H0a p m c := fun hx => by
 obtain ⟨t, _, ⟨i, _, _, _, h1⟩ | ⟨i, _, _, h1⟩⟩ := p1a.1 hx
 ·simp at h1; omega
 ·simp at h1; omega
theorem d2c {th : Q0a} (a0 : p.threads[t]? = some th) {st cell : Int} (hs : 0 ≤ st) (h : th.steps.length ≤ st) : (⟨t, st, cell⟩ : A0a) ∉ H0a p m c := fun hx => by
 obtain ⟨t', _, ⟨i, _, h1, _, h2⟩ | ⟨i, _, _, h1⟩⟩ := p1a.1 hx
 ·simp only [A0a.mk.injEq] at h2;obtain ⟨_, rfl, rfl⟩ := h2;obtain rfl : t = t' := by omega
  rw [z2a a0] at h1;have := R1a h1;omega
 ·simp at h1; omega
theorem d6c {th : Q0a} (a0 : p.threads[t]? = some th) {i : Nat} {s : t1a} (hs : th.steps[i]? = some s) {cell : Int} (h : K0a p m c t s = false) : (⟨t, i, cell⟩ : A0a) ∉ H0a p m c := fun hx => by
 obtain ⟨t', _, ⟨i', _, h1, h2, h3⟩ | ⟨i', _, _, h1⟩⟩ := p1a.1 hx
 ·simp only [A0a.mk.injEq] at h3;obtain ⟨_, _, rfl⟩ := h3;obtain rfl : t = t' := by omega
  obtain rfl : i = i' := by omega
  rw [z2a a0, hs] at h1;cases h1;rw [h] at h2; cases h2
 ·simp only [A0a.mk.injEq] at h1; omega
theorem U4c {th : Q0a} (a0 : p.threads[t]? = some th) {i : Nat} {s : t1a} (hs : th.steps[i]? = some s) (h : K0a p m c t s = true) : (⟨t, i, 0⟩ : A0a) ∈ H0a p m c :=
 p1a.2 ⟨t, R1a a0, .inl ⟨i, s, by rw [z2a a0]; exact hs, h, rfl⟩⟩
theorem G9c {th : Q0a} (a0 : p.threads[t]? = some th) {i : Nat} {s : t1a} (hs : th.steps[i]? = some s) : doC p m c ⟨t, i, 0⟩ = n3a p m c t s := f2b (by rw [z2a a0]; exact hs)
theorem v2c (hb : c.buf[t]? = some b) {xc : Int} (h : ∀ q en, q < b.length → b[q]? = some en → T2a m b q = true → en.cells.getD 0 0 ≠ xc) : (⟨t, -1, xc⟩ : A0a) ∉ H0a p m c := fun hx => by
 obtain ⟨t', _, ⟨_, _, h1, h2, h3⟩ | ⟨i, h1, h2, h3⟩⟩ := p1a.1 hx
 ·simp only [A0a.mk.injEq] at h3; omega
 ·simp only [A0a.mk.injEq] at h3;obtain ⟨_, -, h3⟩ := h3;obtain rfl : t = t' := by omega
  rw [getD_some hb] at h1 h2 h3;have hx : b[i]? = some b[i] := List.getElem?_eq_getElem h1;rw [getD_some hx] at h3;exact h i _ h1 hx h2 h3.symm
theorem M5c (ht : t < p.threads.length) (hb : c.buf[t]? = some b) {i : Nat} {en : G0a} (hx : b[i]? = some en) (hr : T2a m b i = true) : (⟨t, -1, en.cells.getD 0 0⟩ : A0a) ∈ H0a p m c :=
 p1a.2 ⟨t, ht, .inr ⟨i, by rw [getD_some hb]; exact R1a hx, by rw [getD_some hb]; exact hr, by rw [getD_some hb, getD_some hx]⟩⟩
theorem a6c (hb : c.buf[t]? = some b) (a0 : ∀ e ∈ b, e.cells ≠ []) {i : Nat} {en : G0a} (hx : b[i]? = some en) (hr : T2a m b i = true) : doC p m c ⟨t, -1, en.cells.getD 0 0⟩ = B4a c t i := by
 unfold doC;rw [if_pos rfl];simp only [Int.toNat_natCast];rw [getD_some hb];have : (b.findIdx? fun e => decide (e.cells.getD 0 0 = en.cells.getD 0 0)) = some i := by
  rw [List.findIdx?_eq_some_iff_getElem];refine ⟨R1a hx, ?_, fun j hj => ?_⟩
  ·have := (List.getElem?_eq_some_iff.1 hx).2;rw [this]; simp
  ·simp only [decide_eq_true_eq];intro he;have g0 := R1a hx;have f0 : b[j]? = some b[j] := List.getElem?_eq_getElem (by omega);have e0 : ¬ i = 0 := by omega
   rw [P6a hx, decide_eq_false e0] at hr;simp only [Bool.false_or, Bool.and_eq_true, Bool.not_eq_true', List.any_eq_false] at hr;have h1 := hr.2 b[j] (by rw [List.mem_take_iff_getElem]; exact ⟨j, by omega, rfl⟩);apply h1;rw [W1b];have d0 := a0 en (c0a hx);have b0 := a0 b[j] (List.getElem_mem _);refine ⟨en.cells.getD 0 0, ?_, ?_⟩
   ·cases hc : en.cells with
    | nil => exact absurd hc d0
    | cons a l => simp
   ·rw [← he];cases hc : (b[j]).cells with
    | nil => exact absurd hc b0
    | cons a l => simp
 rw [this]; rfl
end
theorem f8a {w0 w : World} {L : List Ent} {M : List Nat} (S : St [] w0 w L) {i j g g' t t' : Nat} {cs a0 : List Value} (h0 : L[i]? = some (some g, t, cs)) (h1 : L[j]? = some (some g', t', a0)) : ∀ x ∈ g :: g' :: M, x ∈ M ∨ w0.heap.size ≤ x := fun x hx => by
 rcases List.mem_cons.1 hx with rfl | hx
 ·exact .inr (by simpa using S.new i h0)
 ·rcases List.mem_cons.1 hx with rfl | hx
  ·exact .inr (by simpa using S.new j h1)
  ·exact .inl hx
theorem E0c {w0 w : World} {L : List Ent} {M : List Nat} (S : St [] w0 w L) {i j g g' t t' : Nat} {cs a0 : List Value} (h0 : L[i]? = some (some g, t, cs)) (h1 : L[j]? = some (some g', t', a0)) (hM : ∀ g ∈ M, g < w0.heap.size) : ∀ x ∈ g :: g' :: M, x < w.heap.size := fun x hx => by
 rcases List.mem_cons.1 hx with rfl | hx
 ·exact S.lt i h0
 ·rcases List.mem_cons.1 hx with rfl | hx
  ·exact S.lt j h1
  ·exact Nat.lt_of_lt_of_le (hM x hx) S.size
theorem InP.two {p : f0a} {M : List Nat} {w0 w : World} {cs : List Value} (h : InP p M w0 cs) {L : List Ent} (S : St [] w0 w L) {i j g g' t t' : Nat} {ds a0 : List Value} (h0 : L[i]? = some (some g, t, ds)) (h1 : L[j]? = some (some g', t', a0)) : InP p (g :: g' :: M) w cs :=
 ⟨(h.rd.more (f8a S h0 h1)).keep (S.keep0 _), h.ok, (h.msk.more (f8a S h0 h1)).keep (S.keep0 _), E0c S h0 h1 h.lt⟩
theorem u2b (p : f0a) (c : r0a) (x : A0a) (M : List Nat) (w0 : World) (cs xs : List Value) (hI : InP p M w0 cs) (hX : t0a M w0 c xs) (hf : F3a p c) (he : T3a c) (hx : x ∉ H0a p 0 c) :
 M0a Tryz.prog 110 #[.agg cs.toArray, .agg xs.toArray, .agg #[.int .i64 x.thread, .int .i64 x.step, .int .i64 x.cell]] w0 fun v w' => v = .tuple #[.agg #[.slice none 0 0, .slice none 0 0, .slice none 0 0], .int .i64 110] ∧ Below w0.heap.size w0 w' := by
 obtain ⟨Ac, nc, cc, Am, nm, cm, Al, nl, cl, At, nt, ct, rfl, _, _, _, _, _, _, _, _, _, _, _, _⟩ := hI.rd.open_;obtain ⟨Xm, xm, ym, Xa, xa, ya, Xb, xb, yb, rfl, _, _, _, _, _, _, _, _, _⟩ := hX.open_;have S := St.refl w0;refine a0a Tryz.func110 rfl Tryz.ntmps110 rfl ?_;refine wO0 rfl ⟨⟩ (j0a S (by conv => lhs; whnf) rfl ?_);intro g3 w3 S3 X3 G3;refine j0a S3 (by conv => lhs; whnf) rfl ?_;intro g4 w4 S4 X4 G4;refine j0a S4 (by conv => lhs; whnf) rfl ?_;intro g5 w5 S5 X5 G5;refine n0a S5 U5a rfl rfl ?_;intro g6 w6 S6 X6 G6;refine lO S6.k [.w 3] rfl ⟨⟨rfl,rfl⟩,⟨⟩⟩ (g0a S6 s1b rfl rfl (n4a p M _ _ (hI.keep (S6.keep0 M))) ?_);intro E0 f0 A0;refine lO f0.k [.w 3,.w 2] rfl ⟨⟨rfl,rfl⟩,⟨rfl,rfl⟩,⟨⟩⟩ (g0a f0 p5b rfl rfl (z6a p c M _ _ _ (hI.keep (f0.keep0 M)) (hX.keep (f0.keep0 M)) hf he) ?_);intro F0 g0 B0;refine lO g0.k [.w 3,.w 2] rfl ⟨⟨rfl,rfl⟩,⟨rfl,rfl⟩,⟨⟩⟩ (B0a g0 u4b rfl rfl (u4a p c M _ _ _ (hI.keep (g0.keep0 M)) (hX.keep (g0.keep0 M)) hf he) ?_);rintro D0 q0 hr r0 C0;obtain ⟨Ar, nr, cr, rfl⟩ := hr.form;obtain ⟨_, -, _⟩ := hr.len;have a0 := w0a.refl [] q0;refine lC0 rfl ⟨⟩ (wL (fun μk D ε w => D = [] ∧ ∃ k : Nat, (k + μk = ((H0a p 0 c).length)) ∧ (w0a [] q0 w) ∧ St [] w0 w [(some g6, 38, [.slice none 0 0, .slice none 0 0, .slice none 0 0]), (some g5, 44, [.int .i64 x.thread, .int .i64 x.step, .int .i64 x.cell]), (some g4, 38, [.slice Xm xm ym, .slice Xa xa ya, .slice Xb xb yb]), (some g3, 27, [.slice Ac nc cc, .slice Am nm cm, .slice Al nl cl, .slice At nt ct])] ∧ Sl ε [(3, .pointer (some ⟨g3, 0, none⟩)), (4, .pointer (some ⟨g4, 0, none⟩)), (5, .pointer (some ⟨g5, 0, none⟩)), (6, .pointer (some ⟨g6, 0, none⟩)), (22, .slice Ar nr cr), (23, .int .i64 nr), (24, .int .i64 k)]) (μ := ((H0a p 0 c).length)) ⟨rfl, 0, by omega, a0, r0, rfl⟩ ?_);rintro μk D ε w ⟨rfl, k, _, a0, S, eZ⟩;refine wK eZ (wB0 rfl ⟨⟩ (fun u0 => ?_) fun u0 => ?_)
 ·obtain ⟨y, t0, x0, _, v0, i0, _, n0, j0, o0⟩ := RdS.get ((hr.keep a0.of_nil)) (k) (by omega);obtain ⟨rfl, _, _, _⟩ := id o0;refine lO (S.k.b j0) [.x t0 x0,.v 0] rfl ⟨⟨rfl,n0⟩,⟨i0,by omega⟩,⟨⟩⟩ (n0a S s6c rfl rfl ?_);intro g9 w9 S9 X9 G9;have e0 := Nat.le_trans a0.size G9;replace a0 := a0.trans X9;refine e0a (kk := 0) (vs := [_, _, _]) S9 E4b rfl rfl rfl rfl rfl rfl rfl ?_;intro y0 b0 h0;dsimp only [k0a, List.set] at b0;replace a0 := a0.fresh h0 (by first | exact e0);refine lOn 6 b0.k [.w 2,.w 0] rfl ⟨⟨rfl,by rfl⟩,⟨rfl,rfl⟩,⟨⟩⟩ (E3c X2b rfl rfl rfl (fun p0 => ?_) fun p0 => ?_)
  ·exact absurd (c0a v0) (by obtain ⟨a, b, c⟩ := x; obtain ⟨a', b', c'⟩ := y; obtain ⟨rfl, rfl, rfl⟩ := p0; exact hx)
  refine lP0 rfl ⟨by omega,⟨⟩⟩ ⟨μk - 1, by omega, rfl, (k + 1), (by omega), (a0), b0.tail, rfl⟩
 refine lO0 rfl ⟨⟩ (j1a o5a (vs := []) (cs := [_, _, _]) rfl rfl rfl rfl ?_);refine e0a (kk := 0) (vs := [_, _, _]) S S2a rfl rfl rfl rfl rfl rfl rfl ?_;intro z0 d0 s0;dsimp only [k0a, List.set] at d0;exact lR0 rfl ⟨⟩ (p4a (n := 3) rfl o1a rfl (d0.cells 0 rfl) rfl rfl ⟨rfl, d0.fin⟩)
theorem Y9a (p : f0a) (c : r0a) (x : A0a) (M : List Nat) (w0 : World) (cs xs : List Value) (hI : InP p M w0 cs) (hX : t0a M w0 c xs) (hf : F3a p c) (he : T3a c) :
 M0a Tryz.prog 110 #[.agg cs.toArray, .agg xs.toArray, .agg #[.int .i64 x.thread, .int .i64 x.step, .int .i64 x.cell]] w0 fun v w' => (∃ ys, v = .tuple #[.agg ys.toArray, .int .i64 (X6b p 0 c x).2] ∧ t0a M w' (X6b p 0 c x).1 ys) ∧ Below w0.heap.size w0 w' := by
 by_cases hx : x ∈ H0a p 0 c
 ·rw [M8a hx]; exact R3b p c x M w0 cs xs hI hX hf he hx
 ·rw [x3a hx]; exact (u2b p c x M w0 cs xs hI hX hf he hx).mono fun _ _ h => ⟨⟨_, h.1, G2a⟩, h.2⟩
theorem O2a : One Tryz.prog 31 := s2a Tryz.underlying31 (by intro _ h; cases h) (by intro _ _ h; cases h)
theorem B6b (p : f0a) (c : r0a) (m : Int) (x : A0a) (hm : (m = 0 ∧ T3a c) ∨ m = 1 ∨ m = 2) (M : List Nat) (w0 : World) (cs xs : List Value) (hI : InP p M w0 cs) (hX : t0a M w0 c xs) (hf : F3a p c) :
 M0a Tryz.prog 83 #[.agg cs.toArray, .int .i64 m, .agg xs.toArray, .agg #[.int .i64 x.thread, .int .i64 x.step, .int .i64 x.cell]] w0 fun v w' => (∃ ys, v = .tuple #[.agg ys.toArray, .int .i64 (X6b p m c x).2] ∧ t0a M w' (X6b p m c x).1 ys) ∧ Below w0.heap.size w0 w' := by
 obtain ⟨Ac, nc, cc, Am, nm, cm, Al, nl, cl, At, nt, ct, rfl, _, _, _, A2, _, _, _, K2, _, _, _, _⟩ := hI.rd.open_;obtain ⟨Xm, xm, ym, Xa, xa, ya, Xb, xb, yb, rfl, _, _, _, _, _, _, _, _, _⟩ := hX.open_;have S := St.refl w0;have hM := hI.lt;have hp := hI.ok;have f2 := hf.nat;have f3 := hf.nbuf;have n2 := hp.nthreads;obtain ⟨xt, i1, xc⟩ := x;simp only;refine H6a Tryz.func83 rfl Tryz.ntmps83 rfl (wI ?_);refine wO0 rfl ⟨⟩ (j0a S (by conv => lhs; whnf) rfl ?_);intro g4 w4 S4 X4 G4;refine j0a S4 (by conv => lhs; whnf) rfl ?_;intro g6 w6 S6 X6 G6;refine j0a S6 (by conv => lhs; whnf) rfl ?_;intro g7 w7 S7 X7 G7;refine n0a S7 U5a rfl rfl ?_;intro g8 w8 S8 X8 G8;refine n0a S8 u7c rfl rfl ?_;intro g9 w9 S9 X9 G9;refine lB0 rfl ⟨⟩ (fun y2 => ?_) fun y2 => ?_
 ·have J2 : m = 0 ∧ T3a c := by rcases hm with h | h | h; exact h; omega; omega
  obtain ⟨rfl, he⟩ := J2;refine lO S9.k [.w 4,.w 3,.w 2] rfl ⟨⟨rfl,by rfl⟩,⟨rfl,by rfl⟩,⟨rfl,by rfl⟩,⟨⟩⟩ (B0a S9 s4c rfl rfl (Y9a p c ⟨xt, i1, xc⟩ (g9 :: g8 :: M) _ _ _ (hI.two S9 (i := 0) (j := 1) rfl rfl) ((hX.more (f8a S9 (i := 0) (j := 1) rfl rfl)).keep (S9.keep0 _)) hf he) ?_);rintro n3 t3 ⟨ys, rfl, hy⟩ r2 b3;obtain ⟨Ym, o2, zm, Ya, j2, za, Yb, m2, zb, rfl, -⟩ := hy.open_;refine lO0 rfl ⟨⟩ ?_
  first | refine e0a (kk := 1) (vs := [_, _, _]) r2 S2a rfl rfl rfl rfl rfl rfl rfl ?_
  intro W2 R0 o1;dsimp only [k0a, List.set] at R0;replace hy := hy.keep (o1.mono (by simp))
  first | refine I0a (kk := 0) R0 F7a rfl (by conv => lhs; whnf) rfl rfl (by exact Nat.le_of_ble_eq_true rfl) ?_
  intro X2 L0 p1;replace hy := hy.keep (p1.mono (by simp));exact lR0 rfl ⟨⟩ (W1a (n := 3) rfl o1a O2a rfl rfl rfl [] rfl List.nodup_nil NC.nil (L0.cells 1 rfl) (L0.cell 0 rfl rfl) (by simp) (by simp) (fun w' hb => ⟨⟨_, rfl, (hy.keep (w0a.of_below hb.nil)).less (fun g hg => by simp [hg])⟩, (L0.below.trans hb).nil⟩))
 have B1 : m = 1 ∨ m = 2 := by rcases hm with h | h | h; exact absurd h.1 (by assumption); exact .inl h; exact .inr h
 refine lO S9.k [.w 4,.w 3] rfl ⟨⟨rfl,by rfl⟩,⟨rfl,by rfl⟩,⟨⟩⟩ (g0a S9 C9b rfl rfl (x9b p c m B1 M _ _ _ (hI.keep (S9.keep0 M)) (hX.keep (S9.keep0 M)) hf) ?_);intro u3 s2 d3;refine lO0 rfl ⟨⟩ (n0a s2 V9b rfl rfl ?_);intro K1 r3 q2 a3 Z2;refine e0a (kk := 0) (vs := [_, _, _, _, _, _, _, _]) q2 x6b rfl rfl rfl rfl rfl rfl rfl ?_;intro Y2 b0 u2;dsimp only [k0a, List.set] at b0;refine lB b0.k [.o 3] rfl ⟨rfl,⟨⟩⟩ (fun M1 => ?_) fun M1 => ?_
 ·refine lO0 rfl ⟨⟩ (j1a o5a (vs := []) (cs := [_, _, _]) rfl rfl rfl rfl ?_)
  first | refine e0a (kk := 2) (vs := [_, _, _]) b0 S2a rfl rfl rfl rfl rfl rfl rfl ?_
  intro g1 n0 W0;dsimp only [k0a, List.set] at n0
  first | refine I0a (kk := 1) n0 F7a rfl (by conv => lhs; whnf) rfl rfl (by exact Nat.le_of_ble_eq_true rfl) ?_
  intro h1 e0 X0;refine lR0 rfl ⟨⟩ ?_;rw [x3a (x0b (x := ⟨xt, i1, xc⟩) (.inl M1))];exact W1a (n := 3) rfl o1a O2a rfl rfl rfl [] rfl List.nodup_nil NC.nil (e0.cells 2 rfl) (e0.cell 1 rfl rfl) (by simp) (by simp) (fun w' hb => ⟨⟨_, rfl, G2a⟩, (e0.below.trans hb).nil⟩)
 refine lB b0.k [.o 3,.o 5] rfl ⟨rfl,rfl,⟨⟩⟩ (fun N1 => ?_) fun N1 => ?_
 ·refine lO0 rfl ⟨⟩ (j1a o5a (vs := []) (cs := [_, _, _]) rfl rfl rfl rfl ?_)
  first | refine e0a (kk := 2) (vs := [_, _, _]) b0 S2a rfl rfl rfl rfl rfl rfl rfl ?_
  intro g1 n0 W0;dsimp only [k0a, List.set] at n0
  first | refine I0a (kk := 1) n0 F7a rfl (by conv => lhs; whnf) rfl rfl (by exact Nat.le_of_ble_eq_true rfl) ?_
  intro h1 e0 X0;refine lR0 rfl ⟨⟩ ?_;rw [x3a (x0b (x := ⟨xt, i1, xc⟩) (.inr (by rw [← K2]; exact N1)))];exact W1a (n := 3) rfl o1a O2a rfl rfl rfl [] rfl List.nodup_nil NC.nil (e0.cells 2 rfl) (e0.cell 1 rfl rfl) (by simp) (by simp) (fun w' hb => ⟨⟨_, rfl, G2a⟩, (e0.below.trans hb).nil⟩)
 refine lB b0.k [.o 3] rfl ⟨rfl,⟨⟩⟩ (fun O1 => ?_) fun O1 => ?_
 ·refine lO0 rfl ⟨⟩ (j1a o5a (vs := []) (cs := [_, _, _]) rfl rfl rfl rfl ?_)
  first | refine e0a (kk := 2) (vs := [_, _, _]) b0 S2a rfl rfl rfl rfl rfl rfl rfl ?_
  intro g1 n0 W0;dsimp only [k0a, List.set] at n0
  first | refine I0a (kk := 1) n0 F7a rfl (by conv => lhs; whnf) rfl rfl (by exact Nat.le_of_ble_eq_true rfl) ?_
  intro h1 e0 X0;refine lR0 rfl ⟨⟩ ?_;rw [x3a (E1c (x := ⟨xt, i1, xc⟩) O1)];exact W1a (n := 3) rfl o1a O2a rfl rfl rfl [] rfl List.nodup_nil NC.nil (e0.cells 2 rfl) (e0.cell 1 rfl rfl) (by simp) (by simp) (fun w' hb => ⟨⟨_, rfl, G2a⟩, (e0.below.trans hb).nil⟩)
 obtain ⟨t, rfl⟩ := Int.eq_ofNat_of_zero_le (show 0 ≤ xt by omega);have ht : t < p.threads.length := by omega
 obtain ⟨b, H0⟩ : ∃ b, c.buf[t]? = some b := ⟨c.buf[t]'(by omega), List.getElem?_eq_getElem _⟩;obtain ⟨th, p0⟩ : ∃ th, p.threads[t]? = some th := ⟨p.threads[t]'(by omega), List.getElem?_eq_getElem _⟩;refine lB b0.k [.o 3] rfl ⟨rfl,⟨⟩⟩ (fun P1 => ?_) fun P1 => ?_
 ·subst P1;refine lO b0.k [.w 0,.o 3] rfl ⟨rfl,⟨rfl,by rfl⟩,⟨⟩⟩ ?_;have Zb := b0.size;refine B0a b0 I9b rfl rfl (m9b _ rfl (t : Int) _) ?_;rintro o3 q0 ⟨gs, gt, rfl, _, _, U1, D2⟩ H1 e3;refine lC0 rfl ⟨⟩ (wJ ?_);refine I6a (vs := fun y => #[y, _, _]) n9b rfl (fun _ => rfl) (fun rc wi E1 a2 O2 z1 L2 has C2 G2 hl hB j3 => ?_);obtain ⟨l, I2⟩ : ∃ l, l = q0.heap.size + 1 := ⟨_, rfl⟩;have T1 := w6a (NC.nil (w := q0)) G2 hl hB;rw [← I2] at hl T1 ⊢;have Si := H1.later hB;have Ki : w0a [] q0 wi := w0a.of_below hB;have Zw := H1.size;have m3 : gs < q0.heap.size := U1.lt;have z2 : ∀ g ∈ (l :: M), g ∈ M ∨ w0.heap.size ≤ g := fun g hg => by
   rcases List.mem_cons.1 hg with rfl | hg
   ·right; omega
   ·exact .inl hg
  have B2 : t0a (l :: M) wi c _ := (hX.more z2).keep (Si.keep0 _);have A1 : gs ∉ (l :: M) := fun hh => by
   rcases List.mem_cons.1 hh with h | h
   ·omega
   ·have := hM gs h; omega
  have y0 : ∀ x ∈ [(q0.heap.size, Obj.deferred (some []))], x.1 ≠ l := fun x hx => by
   rcases List.mem_cons.1 hx with rfl | hx
   ·show q0.heap.size ≠ l; omega
   ·cases hx
  refine M0a.mono (c6b c m t b H0 gs gt l (l :: M) wi _ [.slice Ac nc cc, .slice Am nm cm, .slice Al nl cl, .slice At nt ct] rfl (fun i w => NC w [(l, .loop rc), (q0.heap.size, .deferred (some []))] ∧ St [] w0 w [(some K1, 165, [.slice Xm xm ym, .slice Xa xa ya, .slice Xb xb yb, .slice Ac nc cc, .slice Am nm cm, .slice Al nl cl, .slice At nt ct, .int .i64 m]), (some g9, 31, [.int .i64 0]), (some g8, 38, [.slice none 0 0, .slice none 0 0, .slice none 0 0]), (some g7, 44, [.int .i64 t, .int .i64 (-1), .int .i64 xc]), (some g6, 38, [.slice Xm xm ym, .slice Xa xa ya, .slice Xb xb yb]), (some g4, 27, [.slice Ac nc cc, .slice Am nm cm, .slice Al nl cl, .slice At nt ct])] ∧ w0a (l :: M) wi w ∧ (∀ q en, q < i → b[q]? = some en → T2a m b q = true → en.cells.getD 0 0 ≠ xc)) (fun w => ∃ (i : Nat) (en : G0a) (ys : List Value), b[i]? = some en ∧ T2a m b i = true ∧ en.cells.getD 0 0 = xc ∧ (∀ q en, q < i → b[q]? = some en → T2a m b q = true → en.cells.getD 0 0 ≠ xc) ∧ NC w [(l, .loop { rc with state := .done, pending := some .ret }), (q0.heap.size, .deferred (some []))] ∧ St [] w0 w [(some K1, 165, [.slice Xm xm ym, .slice Xa xa ya, .slice Xb xb yb, .slice Ac nc cc, .slice Am nm cm, .slice Al nl cl, .slice At nt ct, .int .i64 m]), (some g9, 31, [.int .i64 0]), (some g8, 38, ys), (some g7, 44, [.int .i64 t, .int .i64 (-1), .int .i64 xc]), (some g6, 38, [.slice Xm xm ym, .slice Xa xa ya, .slice Xb xb yb]), (some g4, 27, [.slice Ac nc cc, .slice Am nm cm, .slice Al nl cl, .slice At nt ct])] ∧ ys.length = 3 ∧ t0a (l :: q0.heap.size :: M) w (B4a c t i) ys) B2 A1 (s3a Ki U1) (s3a Ki D2) ⟨T1, Si, w0a.refl _ _, fun q en hq => absurd hq (by omega)⟩ (fun i w hJ => hJ.2.2.1) ?_ ?_ (fun i en w es o0 m1 hJ hE => ?_)) ?_
  ·rintro i w w' ⟨h0, S3, K3, G0⟩ u1;exact ⟨h0.keep (w0a.of_below u1), S3.later u1, K3.trans (w0a.of_below u1), G0⟩
  ·rintro i w ⟨h0, S3, K3, G0⟩ hi hr;exact ⟨h0, S3, K3, fun q en hq hx a1 => by
    by_cases C1 : q = i
    ·subst C1; rw [hr] at a1; cases a1
    ·exact G0 q en (by omega) hx a1⟩
  ·obtain ⟨h0, S3, K3, G0⟩ := hJ;obtain ⟨_, _, _, _, _, _, rfl, -⟩ := V0a.open_ (hE _ _ (fun g hg => .inl hg) K3);have qE := (hf.bufs t b H0).2.1 en (c0a o0);have T2 : 0 < en.cells.length := by
    rcases Nat.eq_zero_or_pos en.cells.length with h | h
    ·exact absurd (List.length_eq_zero_iff.1 h) qE.some_
    ·exact h
   have li := R1a o0;refine c8b (h0 (l, .loop rc) (by simp)).1 E1 O2 z1 L2 has C2 rfl rfl ?_;refine wI ?_;refine wO0 rfl ⟨⟩ (n0a S3 n9a rfl rfl ?_);intro h3 s3 G1 J1 p2;have P0 := Nat.le_trans K3.size p2;replace K3 := K3.trans (J1.of_nil);replace h0 := h0.keep J1;refine e0a (kk := 0) (vs := [_, _]) G1 X9a rfl rfl rfl rfl rfl rfl rfl ?_;intro I0 z0 B0;dsimp only [k0a, List.set] at z0;replace K3 := K3.fresh2 B0 (by exact .inl P0);replace h0 := by exact h0.keepS B0 (G1.blk 0 rfl)
   refine lF0 rfl ⟨⟩ ?_;refine ⟨(h0 (l, .loop rc) (by simp)).1, ?_⟩;have Sb := z0.putObj (.loop { rc with state := .busy }) h0 (List.mem_cons_self) (.inl (by omega));have i0 := h0.put (o' := .loop { rc with state := .busy }) y0 (by simp);have Kb := K3.fresh2 (M1a I0 l (.loop { rc with state := .busy })) (.inr (by simp));generalize I0.putObj l (.loop { rc with state := .busy }) = wb at Sb i0 Kb ⊢;obtain ⟨_, _, _, _, _, _, W1, Y0, -⟩ := V0a.open_ (hE (l :: M) wb (fun g hg => .inl hg) Kb);simp only [List.cons.injEq, Value.slice.injEq, and_true] at W1;obtain ⟨⟨rfl, rfl, rfl⟩, rfl, rfl, rfl⟩ := W1;have i3 := Y0.len.1;refine wI ?_;obtain ⟨_, _, _, _, d1, _, _, _, F2, N2⟩ := RdS.get Y0 0 T2;obtain ⟨rfl, _⟩ := N2;refine wC0 rfl ⟨⟩ (D0a b0a [0, 1, 2, 3, 4, 5, 6] [] [] (by kernel_rfl) rfl (Cl _ _ _ _) (Cl.start Sb) ?_);refine qO Sb.q [.o 0] rfl ⟨rfl,⟨⟩⟩ (m0a Y0a.slT rfl (by assumption) rfl (by omega) (by omega) rfl ?_);refine h0a C0a rfl (fun w1 hw => by exact hw.2.cell List.not_mem_nil (F2 0 _ rfl)) rfl ?_;refine qO0 rfl ⟨⟩ (h0a C0a rfl (fun w1 hw => by exact hw.1.cell 4 rfl rfl) rfl ?_);refine qB0 rfl ⟨⟩ (fun q1 => ?_) fun q1 => ?_
   ·refine qD rfl ⟨⟩ ?_;rintro N0 ⟨g0, x0⟩;replace Kb := Kb.trans (x0.of_nil);replace i0 := i0.keep x0;refine lO0 rfl ⟨⟩ (x1a a6a rfl (g0.cells 1 rfl) rfl rfl ?_);refine lO0 rfl ⟨⟩ (s0a C0a rfl (by exact g0.cell 4 rfl rfl) rfl ?_);refine lO0 rfl ⟨⟩ ?_;have R1 : ∀ g ∈ l :: q0.heap.size :: g9 :: g8 :: M, g < N0.heap.size := fun g hg => by
     rcases List.mem_cons.1 hg with rfl | hg
     ·exact i0.lt _ List.mem_cons_self
     ·rcases List.mem_cons.1 hg with rfl | hg
      ·exact i0.lt (q0.heap.size, .deferred (some [])) (by simp)
      ·exact E0c g0 (i := 2) (j := 3) rfl rfl hM g hg
    have v1 : ∀ g ∈ l :: q0.heap.size :: g9 :: g8 :: M, g ∈ M ∨ w0.heap.size ≤ g := fun g hg => by
     rcases List.mem_cons.1 hg with rfl | hg
     ·right; omega
     ·rcases List.mem_cons.1 hg with rfl | hg
      ·right; omega
      ·exact f8a g0 (i := 2) (j := 3) rfl rfl g hg
    refine B0a g0 R3c rfl rfl (Y8b p hp c t i b (l :: q0.heap.size :: g9 :: g8 :: M) _ R1 [.slice Ac nc cc, .slice Am nm cm, .slice Al nl cl, .slice At nt ct] [.slice Xm xm ym, .slice Xa xa ya, .slice Xb xb yb] m ⟨(hI.rd.more v1).keep (g0.keep0 _), hI.ok, (hI.msk.more v1).keep (g0.keep0 _), R1⟩ ((hX.more v1).keep (g0.keep0 _)) hf H0 li) ?_;rintro p3 v3 ⟨ys, rfl, hy⟩ I1 v2;replace i0 := i0.keep v2;obtain ⟨Ym, o2, zm, Ya, j2, za, Yb, m2, zb, rfl, -⟩ := hy.open_
    first | refine e0a (kk := 3) (vs := [_, _, _]) I1 S2a rfl rfl rfl rfl rfl rfl rfl ?_
    intro b2 t0 C0;dsimp only [k0a, List.set] at t0;replace i0 := by exact i0.keepS C0 (I1.blk 3 rfl)
    replace hy := hy.keep (C0.mono (by simp))
    first | refine I0a (kk := 2) t0 F7a rfl (by conv => lhs; whnf) rfl rfl (by exact Nat.le_of_ble_eq_true rfl) ?_
    intro f1 Q0 D0;replace i0 := by exact i0.keepS D0 (t0.blk 2 rfl)
    replace hy := hy.keep (D0.mono (by simp));refine lR0 rfl ⟨⟩ ?_;refine ⟨{ rc with state := .busy }, (i0 (l, _) (by simp)).1, .inr ⟨rfl, ?_⟩⟩;have x1 := i0.put (o' := .loop { rc with state := .done, pending := some .ret }) y0 (by simp);have Sn := Q0.tail.putObj (.loop { rc with state := .done, pending := some .ret }) i0 (List.mem_cons_self) (.inl (by omega));exact ⟨i, en, _, o0, m1, by rw [getD_some d1]; exact q1, G0, x1, Sn, rfl, (hy.keep ((M1a f1 l _).mono (by simp))).less (fun g hg => by simp only [List.mem_cons] at hg ⊢; rcases hg with h | h | h <;> simp [h])⟩
   refine qD rfl ⟨⟩ ?_;rintro N0 ⟨g0, x0⟩;replace Kb := Kb.trans (x0.of_nil);replace i0 := i0.keep x0;refine lF0 rfl ⟨⟩ ?_;refine ⟨{ rc with state := .busy }, (i0 (l, _) (by simp)).1, .inl ⟨rfl, ?_⟩⟩;have x1 := i0.put (o' := .loop rc) y0 (by simp);have Sn := g0.tail.putObj (.loop rc) i0 (List.mem_cons_self) (.inl (by omega));have Kn := Kb.fresh2 (M1a N0 l (.loop rc)) (.inr (by simp));rw [E1b E1 a2];exact ⟨x1, Sn, Kn, fun q x2 hq hx a1 => by
    by_cases C1 : q = i
    ·subst C1; obtain rfl := Option.some.inj (o0.symm.trans hx); rw [getD_some d1]; exact q1
    ·exact G0 q x2 (by omega) hx a1⟩
  rintro v w3 (⟨h0, S3, K3, G0⟩ | ⟨i, en, ys, o0, m1, E2, H2, h0, S3, P2, R2⟩)
  rotate_left
  ·refine ⟨{ rc with state := .done, pending := some .ret }, (h0 (l, _) List.mem_cons_self).1, by simp, .inr ⟨rfl, ?_⟩⟩;have Sa := S3.putObj (.loop { rc with state := .exhausted, pending := some .ret }) h0 (List.mem_cons_self) (.inl (by omega));have s0 := (h0.put (o' := .loop { rc with state := .exhausted, pending := some .ret }) y0 (by simp)).tail;have Ka := M1a w3 l (.loop { rc with state := .exhausted, pending := some .ret });have Q2 := R2.keep (Ka.mono (by simp));subst E2;rw [M8a (M5c ht H0 o0 m1), a6c H0 (fun e he => ((hf.bufs t b H0).2.1 e he).some_) o0 m1];exact W1a (n := 3) rfl o1a O2a rfl rfl P2 [q0.heap.size] rfl (by simp) s0 (Sa.cells 2 rfl) (Sa.cell 1 rfl rfl) (by have := s0.ne (Sa.blk 2 rfl) _ (List.mem_cons_self); simpa using fun h : g8 = _ => this h.symm) (by have := s0.ne (Sa.blk 1 rfl) _ (List.mem_cons_self); simpa using fun h : g9 = _ => this h.symm) (fun w' hb => ⟨⟨_, rfl, (Q2.keep ((w0a.of_belowM hb).mono (by simp))).less (fun g hg => by simp [hg])⟩, (v0a.step Sa.below hb (by simp; omega)).nil⟩)
  refine ⟨rc, (h0 (l, .loop rc) (by simp)).1, by rw [E1]; simp, .inl ⟨a2, ?_⟩⟩;have Sa := S3.putObj (.loop { rc with state := .exhausted }) h0 (List.mem_cons_self) (.inl (by omega));have s0 := (h0.put (o' := .loop { rc with state := .exhausted }) y0 (by simp)).tail;generalize w3.putObj l (.loop { rc with state := .exhausted }) = wa at Sa s0 ⊢;refine fO0 rfl ⟨⟩ (j1a o5a (vs := []) (cs := [_, _, _]) rfl rfl rfl rfl ?_)
  first | refine e0a (kk := 2) (vs := [_, _, _]) Sa S2a rfl rfl rfl rfl rfl rfl rfl ?_
  intro d2 u0 S0;dsimp only [k0a, List.set] at u0;replace s0 := by exact s0.keepS S0 (Sa.blk 2 rfl)
  first | refine I0a (kk := 1) u0 F7a rfl (by conv => lhs; whnf) rfl rfl (by exact Nat.le_of_ble_eq_true rfl) ?_
  intro g2 j0 T0;replace s0 := by exact s0.keepS T0 (u0.blk 1 rfl)
  refine lR0 rfl ⟨⟩ ?_;rw [x3a (v2c H0 G0)];exact W1a (n := 3) rfl o1a O2a rfl rfl rfl [q0.heap.size] rfl (by simp) s0 (j0.cells 2 rfl) (j0.cell 1 rfl rfl) (by have := s0.ne (j0.blk 2 rfl) _ (List.mem_cons_self); simpa using fun h : g8 = _ => this h.symm) (by have := s0.ne (j0.blk 1 rfl) _ (List.mem_cons_self); simpa using fun h : g9 = _ => this h.symm) (fun w' hb => ⟨⟨_, rfl, G2a⟩, (v0a.step j0.below hb (by simp; omega)).nil⟩)
 obtain ⟨i, rfl⟩ := Int.eq_ofNat_of_zero_le (show 0 ≤ i1 by omega);refine lO b0.k [.w 4,.o 3] rfl ⟨rfl,⟨rfl,by rfl⟩,⟨⟩⟩ (B0a b0 V8b rfl rfl (Y9b p hp c t b (g9 :: g8 :: M) _ (E0c b0 (i := 1) (j := 2) rfl rfl hM) _ ((hX.more (f8a b0 (i := 1) (j := 2) rfl rfl)).keep (b0.keep0 _)) hf H0) ?_);rintro q3 x3 hV j1 g3;obtain ⟨_, _, _, rfl⟩ := hV.form;refine lC0 rfl ⟨⟩ (D0a b0a [0, 1, 2, 3, 4, 5, 6, 7, 8, 9, 10, 11, 12, 13, 14, 15, 16, 17, 18, 19, 20, 21, 22, 23, 24, 25] [] [] (by kernel_rfl) rfl (Cl _ _ _ _) (Cl.start j1) ?_);refine qB j1.q [.o 3] rfl ⟨rfl,⟨⟩⟩ (fun r1 => ?_) fun r1 => ?_
 ·refine qD rfl ⟨⟩ ?_;rintro O0 ⟨f0, r0⟩;replace hV := hV.keep (r0.of_nil);refine lO0 rfl ⟨⟩ (j1a o5a (vs := []) (cs := [_, _, _]) rfl rfl rfl rfl ?_)
  first | refine e0a (kk := 2) (vs := [_, _, _]) f0 S2a rfl rfl rfl rfl rfl rfl rfl ?_
  intro J0 d0 E0;dsimp only [k0a, List.set] at d0
  first | refine I0a (kk := 1) d0 F7a rfl (by conv => lhs; whnf) rfl rfl (by exact Nat.le_of_ble_eq_true rfl) ?_
  intro K0 a0 F0;refine lR0 rfl ⟨⟩ ?_;rw [x3a (Z1c (t := t) (st := i) (by omega) r1)];exact W1a (n := 3) rfl o1a O2a rfl rfl rfl [] rfl List.nodup_nil NC.nil (a0.cells 2 rfl) (a0.cell 1 rfl rfl) (by simp) (by simp) (fun w' hb => ⟨⟨_, rfl, G2a⟩, (a0.below.trans hb).nil⟩)
 obtain ⟨_, w2, S2, _, F1, t1, _, _, y1, D1⟩ := RdS.get (A2) (t) (by omega);obtain rfl := Option.some.inj (p0.symm.trans F1);obtain ⟨_, _, _, _, _, _, _, _, _, _, _, _, rfl, _, _, _, _, _, _, _, Z0, _, _, _, _, _⟩ := N0a.open_ D1;refine qB (j1.q.a y1) [.o 3,.o 5,.o 3,.x w2 S2,.f 0 4] rfl ⟨rfl,⟨t1,by omega⟩,rfl,rfl,rfl,⟨⟩⟩ (fun Q1 => ?_) fun Q1 => ?_
 ·refine qD rfl ⟨⟩ ?_;rintro O0 ⟨f0, r0⟩;replace hV := hV.keep (r0.of_nil);refine lO0 rfl ⟨⟩ (j1a o5a (vs := []) (cs := [_, _, _]) rfl rfl rfl rfl ?_)
  first | refine e0a (kk := 2) (vs := [_, _, _]) f0 S2a rfl rfl rfl rfl rfl rfl rfl ?_
  intro J0 d0 E0;dsimp only [k0a, List.set] at d0
  first | refine I0a (kk := 1) d0 F7a rfl (by conv => lhs; whnf) rfl rfl (by exact Nat.le_of_ble_eq_true rfl) ?_
  intro K0 a0 F0;refine lR0 rfl ⟨⟩ ?_;rw [x3a (d2c p0 (st := i) (by omega) (by rw [← Z0]; exact Q1))];exact W1a (n := 3) rfl o1a O2a rfl rfl rfl [] rfl List.nodup_nil NC.nil (a0.cells 2 rfl) (a0.cell 1 rfl rfl) (by simp) (by simp) (fun w' hb => ⟨⟨_, rfl, G2a⟩, (a0.below.trans hb).nil⟩)
 refine qO j1.q [.w 0,.o 3,.o 3] rfl ⟨rfl,rfl,⟨rfl,by rfl⟩,⟨⟩⟩ ?_;obtain ⟨s, b1⟩ : ∃ s, th.steps[i]? = some s := ⟨th.steps[i]'(by omega), List.getElem?_eq_getElem _⟩;refine X1a o0c rfl rfl (fun w1 S1 X1 => a7a p c m B1 t i th s M _ [.slice Ac nc cc, .slice Am nm cm, .slice Al nl cl, .slice At nt ct] [.slice Xm xm ym, .slice Xa xa ya, .slice Xb xb yb] _ (hI.keep (S1.keep0 M)) (hX.keep (S1.keep0 M)) ((hV.keep (X1.of_nil)).less (fun g hg => List.mem_cons_of_mem _ (List.mem_cons_of_mem _ hg))) hf p0 b1) (fun s1 => ?_) fun s1 => ?_
 ·refine qD rfl ⟨⟩ ?_;rintro O0 ⟨f0, r0⟩;replace hV := hV.keep (r0.of_nil);subst r1;have Z1 := U4c p0 b1 s1;have V1 : doC p m c ⟨t, i, 0⟩ = n3a p m c t s := G9c p0 b1;have Y1 := O5b hp hf Z1;rw [V1] at Y1;refine lO f0.k [.w 0,.w 3] rfl ⟨⟨rfl,by rfl⟩,⟨rfl,by rfl⟩,⟨⟩⟩ (B0a f0 U3c rfl rfl (r7b p c m B1 t i th s (g9 :: g8 :: M) _ [.slice Ac nc cc, .slice Am nm cm, .slice Al nl cl, .slice At nt ct] [.slice Xm xm ym, .slice Xa xa ya, .slice Xb xb yb] _ (hI.two f0 (i := 1) (j := 2) rfl rfl) ((hX.more (f8a f0 (i := 1) (j := 2) rfl rfl)).keep (f0.keep0 _)) hV hf p0 b1 Y1) ?_);rintro U2 V2 ⟨ys, rfl, hy⟩ n1 t2;obtain ⟨Ym, o2, zm, Ya, j2, za, Yb, m2, zb, rfl, -⟩ := hy.open_
  first | refine e0a (kk := 2) (vs := [_, _, _]) n1 S2a rfl rfl rfl rfl rfl rfl rfl ?_
  intro h2 A0 U0;dsimp only [k0a, List.set] at A0;replace hy := hy.keep (U0.mono (by simp))
  first | refine I0a (kk := 1) A0 F7a rfl (by conv => lhs; whnf) rfl rfl (by exact Nat.le_of_ble_eq_true rfl) ?_
  intro i2 v0 V0;replace hy := hy.keep (V0.mono (by simp));refine lR0 rfl ⟨⟩ ?_;rw [M8a Z1, V1];exact W1a (n := 3) rfl o1a O2a rfl rfl rfl [] rfl List.nodup_nil NC.nil (v0.cells 2 rfl) (v0.cell 1 rfl rfl) (by simp) (by simp) (fun w' hb => ⟨⟨_, rfl, (hy.keep (w0a.of_below hb.nil)).less (fun g hg => by simp [hg])⟩, (v0.below.trans hb).nil⟩)
 refine qD rfl ⟨⟩ ?_;rintro O0 ⟨f0, r0⟩;refine lO0 rfl ⟨⟩ (j1a o5a (vs := []) (cs := [_, _, _]) rfl rfl rfl rfl ?_)
 first | refine e0a (kk := 2) (vs := [_, _, _]) f0 S2a rfl rfl rfl rfl rfl rfl rfl ?_
 intro J0 d0 E0;dsimp only [k0a, List.set] at d0
 first | refine I0a (kk := 1) d0 F7a rfl (by conv => lhs; whnf) rfl rfl (by exact Nat.le_of_ble_eq_true rfl) ?_
 intro K0 a0 F0;refine lR0 rfl ⟨⟩ ?_;rw [x3a (d6c p0 b1 s1)];exact W1a (n := 3) rfl o1a O2a rfl rfl rfl [] rfl List.nodup_nil NC.nil (a0.cells 2 rfl) (a0.cell 1 rfl rfl) (by simp) (by simp) (fun w' hb => ⟨⟨_, rfl, G2a⟩, (a0.below.trans hb).nil⟩)
def B8 (cs : List Value) (n : Int) : Prop := cs = [.int .u8 n]
theorem m9a : W4a (fun (_ : List Nat) (_ : World) => B8) 1 where
 len h := by rw [h]; rfl
 one h u hu := by rw [h] at hu; simp at hu; subst hu; rfl
 keep _ h := h
 more _ h := h
abbrev x7b (w0 : World) (G : Option Nat) (cs : List Value) (v : Value) (l : List Int) : Prop := P1a (fun (_ : List Nat) (_ : World) => B8) 1 [] w0 G cs v l
theorem n6c (n : Int) (h0 : 0 ≤ n) (h1 : n ≤ 255) : IntKind.u8.wrap n = n := by
 simp [IntKind.wrap, IntKind.signed, IntKind.bits]; omega
theorem y3b : ∀ (css : List (List Value)) (l : List Int), css.length = l.length → (∀ (i : Nat) (x : Int), l[i]? = some x → ∃ c, css[i]? = some c ∧ B8 c x) → css.flatten = l.map (Value.int .u8)
 | [], [], _, _ => rfl
 | [], _ :: _, h, _ => by simp at h
 | _ :: _, [], h, _ => by simp at h
 | c :: css, x :: l, h, hh => by
   obtain ⟨_, h1, h2⟩ := hh 0 x rfl;simp at h1; subst h1;rw [List.flatten_cons, List.map_cons, y3b css l (by simpa using h) (fun i y hy => by simpa using hh (i + 1) y (by simpa using hy)), h2];rfl
section
variable {P : Program} {r : Option Nat} {N : Nat} {D : List Deferred} {e : Env} {w w0 : World} {ops : Array Oper} {rest : List Oper} {K : List Deferred → Env → World → Prop} {L : List Ent} {M : List Nat}
variable {d : Nat} {t : TypeId} {p : String} {af : Array Edge} {x y : Operand}
theorem Y7b {src dst el k : TypeId} {G : Option Nat} {cs : List Value} {v : Value} {l : List Int} (S : St M w0 w L) (hs : P.underlying src = some (.slice el)) (b0 : P.underlying el = some (.int .u8)) (ht : P.underlying dst = some .string) (hk : L[k]? = some (G, el, cs)) (hR : x7b w0 G cs v l)
 (hx : ev e x = v) (hd : Nat.ble (d + 1) N = true) (h : WL P r N ops rest K D (upd e d (.string (M3a l))) w) :
 WL P r N ops (⟨some d, .convert src dst x, t, p, af, none⟩ :: rest) K D e w := by
 obtain ⟨css, h1, _, ⟨_, hr⟩, h4⟩ := hR;have d0 := y3b css l h1 h4;refine c1a rfl rfl hd (by simp) ?_ h;rcases hr with ⟨rfl, rfl, h0⟩ | ⟨g, a0, rfl, rfl, q1, q2, q3, q4⟩
 ·have hl : l = [] := List.length_eq_zero_iff.1 h0;subst hl;have h5 : (Conv.bytesToString (.slice none 0 0)).run P w = .ok (.string (M3a [])) w := by simp [Conv.bytesToString, Sem.run_pure, M3a]
  simp only [execOp, hx, Sem.run_bind, run_convert_bytes_string w src dst el none 0 0 hs b0 ht, h5, Result.andThen_ok, Sem.run_pure]
 ·have hb := (S.own _ (List.mem_of_getElem? hk) g rfl).2;have hc : ∀ (i : Nat) (u : Value), (l.map (Value.int .u8))[i]? = some u → w.cell? (Addr.add ⟨g, 0, none⟩ i) = some u := fun i u hu => by
   rw [Addr.add_lit];refine S.cell k hk ?_;have e0 : i < l.length := by have := (List.getElem?_eq_some_iff.1 hu).1; simpa using this
   rw [← d0, ← q4, List.getElem?_take, if_pos (by simpa using e0)] at hu;simpa using hu
  have h6 := run_loadCells_list (P := P) (w := w) ⟨g, 0, none⟩ (l.map (Value.int .u8)) hc;have h5 : (Conv.bytesToString (.slice (some ⟨g, 0, none⟩) l.length a0)).run P w = .ok (.string (M3a l)) w := run_bytesToString w ⟨g, 0, none⟩ l.length a0 l (by simpa using h6);simp only [execOp, hx, Sem.run_bind, run_convert_bytes_string w src dst el (some ⟨g, 0, none⟩) l.length a0 hs b0 ht, h5, Result.andThen_ok, Sem.run_pure]
theorem S5a {src dst : TypeId} {ds : TypeDesc} {kd : IntKind} {a : Int} (hs : P.underlying src = some ds) (ht : P.underlying dst = some (.int .u8)) (hx : ev e x = .int kd a) (a0 : 0 ≤ a ∧ a ≤ 255) (hd : Nat.ble (d + 1) N = true) (h : WL P r N ops rest K D (upd e d (.int .u8 a)) w) :
 WL P r N ops (⟨some d, .convert src dst x, t, p, af, none⟩ :: rest) K D e w :=
 u0c hs ht hx hd (by rw [n6c a a0.1 a0.2]; exact h)
end
theorem D1b {α β : Type} {l : List α} {r : List β} {i : Nat} {a : α} {b : β} (h1 : l[i]? = some a) (h2 : r[i]? = some b) : (l.zip r)[i]? = some (a, b) := by
 rw [List.getElem?_zip_eq_some]; exact ⟨h1, h2⟩
theorem u4c {c : r0a} {b : List G0a} {en : G0a} {k j i : Nat} {n u : Int} (hb : c.buf[k]? = some b) (he : b[j]? = some en) (hn : en.cells[i]? = some n) (hu : en.values[i]? = some u) : n ∈ c.buf.flatMap B2a ∧ u ∈ c.buf.flatMap B2a := by
 have h : ∀ x, x ∈ [n, u] → x ∈ c.buf.flatMap B2a := fun x hx =>
  List.mem_flatMap.2 ⟨b, List.mem_of_getElem? hb, List.mem_cons_of_mem _ (List.mem_flatMap.2 ⟨en, List.mem_of_getElem? he, List.mem_cons_of_mem _ (List.mem_flatMap.2 ⟨(n, u), List.mem_of_getElem? (D1b hn hu), hx⟩)⟩)⟩
 exact ⟨h n (by simp), h u (by simp)⟩
theorem p7c (p : f0a) (hp : a1a p) (c : r0a) (hf : F3a p c) (M : List Nat) (w0 : World) (ys : List Value) (hX : t0a M w0 c ys) :
 M0a Tryz.prog 80 #[.agg ys.toArray] w0 fun v w' => (v = .string (I6b c) ∧ (N7a c).length ≤ 8100) ∧ Below w0.heap.size w0 w' := by
 obtain ⟨Xm, xm, ym, Xa, xa, ya, Xb, xb, yb, rfl, O0, g2, N0, _, _, _, _, _, _⟩ := hX.open_;obtain ⟨r1, r2, r3⟩ := h6a hp hf;have n1 := hp.ncells;have n2 := hp.nthreads;have f1 := hf.mem.len;have f2 := hf.nat;have f3 := hf.nbuf;have S := (St.refl w0).nilEnt 5;refine a0a Tryz.func80 rfl Tryz.ntmps80 rfl ?_;refine wO0 rfl ⟨⟩ (j0a S (by conv => lhs; whnf) rfl ?_);intro g1 w1 S1 X1 G1;refine lC S1.k [.o 0] rfl ⟨rfl,⟨⟩⟩ (wL (fun μk D ε w => D = [] ∧ ∃ k : Nat, ∃ G : Option Nat, ∃ f0 : List Value, ∃ v : Value, ∃ l : List Int, (k + μk = (c.mem.length)) ∧ (l.length ≤ k) ∧ (l = c.mem.take k) ∧ (x7b w0 G f0 v l) ∧ St [] w0 w [(some g1, 38, [.slice Xm xm ym, .slice Xa xa ya, .slice Xb xb yb]), (G, 5, f0)] ∧ Sl ε [(1, .pointer (some ⟨g1, 0, none⟩)), (3, v), (15, .slice Xm xm ym), (16, .int .i64 xm), (17, .int .i64 k)]) (μ := (c.mem.length)) ⟨rfl, 0, none, [], .slice none 0 0, [], by omega, by simp, by simp, P1a.nil, S1, rfl⟩ ?_);rintro μk D ε w ⟨rfl, k, G, f0, v, l, hk, _, hq, b0, S, eZ⟩;refine wK eZ (wB0 rfl ⟨⟩ (fun Y1 => ?_) fun Y1 => ?_)
 ·obtain ⟨n, M1, h2, _, i0, G0, _, _, P0, X0⟩ := RdS.get (O0) (k) (by omega);obtain ⟨rfl, _⟩ := id X0;refine lOn 16 (S.k.a P0) [.x M1 h2,.f 0 0] rfl ⟨rfl,⟨G0,by omega⟩,⟨⟩⟩ (m1a (by conv => lhs; whnf) rfl ?_);refine lO0 rfl ⟨⟩ (S5a Tryz.underlying3 Tryz.underlying5 rfl (r1 n (c0a i0)) rfl ?_);refine E0a S L4a (vs := [.int .u8 _]) (cs := [_]) (by rfl) rfl rfl rfl rfl rfl rfl ?_;intro T2 b3 o1 I2 z2;refine C1a m9a (k := 2) (M2 := []) (e1 := n) o1 L4a (by decide) rfl b0 rfl rfl (o1.cells 0 rfl) rfl (by omega) rfl ?_;intro X2 A2 T1 d3 H1 j0 J2 t2;refine T0a (by conv => lhs; whnf) rfl ?_;refine lP0 rfl ⟨by omega,⟨⟩⟩ ?_;refine ⟨μk - 1, by omega, rfl, (k + 1), (_), (_), (_), (l ++ [n]), (by omega), (by simp; omega), (by rw [hq, J0a i0]), (j0), H1.tail, rfl⟩
 have W0 : l = c.mem := by rw [hq, List.take_of_length_le (by omega)]
 clear hq;refine lC S.k [.o 0] rfl ⟨rfl,⟨⟩⟩ (wL (fun μk D ε w => D = [] ∧ ∃ k : Nat, ∃ G : Option Nat, ∃ f0 : List Value, ∃ v : Value, ∃ l2 : List Int, (k + μk = (c.at_.length)) ∧ (l2.length ≤ 40 + k) ∧ (l2 = c.mem ++ (c.at_.take k).map (fun x => x + 1)) ∧ (x7b w0 G f0 v l2) ∧ St [] w0 w [(some g1, 38, [.slice Xm xm ym, .slice Xa xa ya, .slice Xb xb yb]), (G, 5, f0)] ∧ Sl ε [(1, .pointer (some ⟨g1, 0, none⟩)), (3, v), (28, .slice Xa xa ya), (29, .int .i64 xa), (30, .int .i64 k)]) (μ := (c.at_.length)) ⟨rfl, 0, G, f0, v, l, by omega, by omega, by simp [W0], b0, S, rfl⟩ ?_);rintro μk D ε w ⟨rfl, k, G, f0, v, l2, hk, _, hq, b0, S, eZ⟩;refine wK eZ (wB0 rfl ⟨⟩ (fun Z1 => ?_) fun Z1 => ?_)
 ·obtain ⟨n, N1, i2, _, i0, H0, _, _, Q0, Y0⟩ := RdS.get (g2) (k) (by omega);obtain ⟨rfl, _⟩ := id Y0;refine lOn 16 (S.k.a Q0) [.x N1 i2,.f 0 0] rfl ⟨rfl,⟨H0,by omega⟩,⟨⟩⟩ (m1a (by conv => lhs; whnf) rfl ?_);have W2 := r2 n (c0a i0);refine lO0 rfl ⟨by omega,⟨⟩⟩ (S5a Tryz.underlying3 Tryz.underlying5 rfl (a := n + 1) (by omega) rfl ?_);refine E0a S L4a (vs := [.int .u8 _]) (cs := [_]) (by rfl) rfl rfl rfl rfl rfl rfl ?_;intro U2 e3 p1 K2 B2;refine C1a m9a (k := 2) (M2 := []) (e1 := n + 1) p1 L4a (by decide) rfl b0 rfl rfl (p1.cells 0 rfl) rfl (by omega) rfl ?_;intro Y2 C2 U1 g3 I1 n0 L2 u2;refine T0a (by conv => lhs; whnf) rfl ?_;refine lP0 rfl ⟨by omega,⟨⟩⟩ ?_;refine ⟨μk - 1, by omega, rfl, (k + 1), (_), (_), (_), (l2 ++ [n + 1]), (by omega), (by simp; omega), (by rw [hq, J0a i0]; simp), (n0), I1.tail, rfl⟩
 have W0 : l2 = c.mem ++ c.at_.map (fun x => x + 1) := by rw [hq, List.take_of_length_le (by omega)]
 clear hq;refine lC S.k [.o 0] rfl ⟨rfl,⟨⟩⟩ (wL (fun μk D ε w => D = [] ∧ ∃ k : Nat, ∃ G : Option Nat, ∃ f0 : List Value, ∃ v : Value, ∃ l3 : List Int, (k + μk = (c.buf.length)) ∧ (l3.length ≤ 100 + 2000 * k) ∧ (l3 = c.mem ++ (c.at_.map (fun x => x + 1) ++ (c.buf.take k).flatMap B2a)) ∧ (x7b w0 G f0 v l3) ∧ St [] w0 w [(some g1, 38, [.slice Xm xm ym, .slice Xa xa ya, .slice Xb xb yb]), (G, 5, f0)] ∧ Sl ε [(3, v), (42, .slice Xb xb yb), (43, .int .i64 xb), (44, .int .i64 k)]) (μ := (c.buf.length)) ⟨rfl, 0, G, f0, v, l2, by omega, by omega, by simp [W0], b0, S, rfl⟩ ?_);rintro μk D ε w ⟨rfl, k, G, f0, v, l3, hk, _, hq, b0, S, eZ⟩;refine wK eZ (wB0 rfl ⟨⟩ (fun a2 => ?_) fun a2 => ?_)
 ·obtain ⟨b, O1, j2, _, i1, I0, _, _, R0, Z0⟩ := RdS.get (N0) (k) (by omega);obtain ⟨s0, a0, u0, rfl, x0, _, _⟩ := s5a.open_ Z0;refine lOn 17 (S.k.a R0) [.x O1 j2,.f 0 0] rfl ⟨rfl,⟨I0,by omega⟩,⟨⟩⟩ (m1a (by conv => lhs; whnf) rfl ?_);have q3 := hf.bufs k b i1;refine lO0 rfl ⟨⟩ (S5a Tryz.underlying3 Tryz.underlying5 rfl (a := (a0 : Int)) (by omega) rfl ?_);refine E0a S L4a (vs := [.int .u8 _]) (cs := [_]) (by rfl) rfl rfl rfl rfl rfl rfl ?_;intro y1 h3 q1 N2 D2;refine C1a m9a (k := 2) (M2 := []) (e1 := (a0 : Int)) q1 L4a (by decide) rfl b0 rfl rfl (q1.cells 0 rfl) rfl (by omega) rfl ?_;intro q2 D1 D0 i3 J1 o0 O2 v2;refine T0a (by conv => lhs; whnf) rfl ?_;refine lC0 rfl ⟨⟩ ?_;refine wL (fun μj D ε w => D = [] ∧ ∃ j : Nat, ∃ G4 : Option Nat, ∃ B0 : List Value, ∃ v4 : Value, ∃ l4 : List Int, (j + μj = (b.length)) ∧ (l4.length ≤ 101 + 2000 * k + 65 * j) ∧ (l4 = l3 ++ ((b.length : Int) :: (b.take j).flatMap A4a)) ∧ (x7b w0 G4 B0 v4 l4) ∧ St [] w0 w [(some y1, 5, [.int .u8 (a0 : Int)]), (some g1, 38, [.slice Xm xm ym, .slice Xa xa ya, .slice Xb xb yb]), (G4, 5, B0)] ∧ Sl ε [(3, v4), (42, .slice Xb xb yb), (43, .int .i64 xb), (44, .int .i64 k), (54, .slice s0 a0 u0), (55, .int .i64 a0), (56, .int .i64 j)]) (μ := (b.length)) ⟨rfl, 0, D1, D0, q2, l3 ++ [(a0 : Int)], by omega, by simp; omega, by rw [show (b.length : Int) = a0 by omega]; simp, o0, J1, rfl⟩ ?_;rintro μj D ε w ⟨rfl, j, G4, B0, v4, l4, _, _, A1, g0, S, eZ⟩;refine wK eZ (wB0 rfl ⟨⟩ (fun b2 => ?_) fun b2 => ?_)
  ·obtain ⟨en, P1, m2, _, r0, J0, _, V0, S0, a1⟩ := RdS.get (x0) (j) (by omega);obtain ⟨t0, d0, v0, A0, m1, F0, rfl, y0, z0, _, _, _, _⟩ := V0a.open_ a1;refine lO (S.k.a S0) [.x P1 m2,.v 0] rfl ⟨⟨rfl,V0⟩,⟨J0,by omega⟩,⟨⟩⟩ (n0a S n9a rfl rfl ?_);intro x1 a3 F1 H2 y2;refine e0a (kk := 0) (vs := [_, _]) F1 X9a rfl rfl rfl rfl rfl rfl rfl ?_;intro C1 e0 v1;dsimp only [k0a, List.set] at e0;refine lOn 4 e0.k [] rfl ⟨⟩ (m1a (by conv => lhs; whnf) rfl ?_);have q4 := q3.2.1 en (c0a r0);have q5 := q4.len;have q6 : en.values.length = en.cells.length := q4.even;refine lO e0.k [.o 0] rfl ⟨rfl,⟨⟩⟩ (S5a Tryz.underlying3 Tryz.underlying5 rfl (a := (d0 : Int)) (by omega) rfl ?_);refine E0a e0 L4a (vs := [.int .u8 _]) (cs := [_]) (by rfl) rfl rfl rfl rfl rfl rfl ?_;intro W1 j3 s1 P2 E2;refine C1a m9a (k := 4) (M2 := []) (e1 := (d0 : Int)) s1 L4a (by decide) rfl g0 rfl rfl (s1.cells 0 rfl) rfl (by omega) rfl ?_;intro s2 E1 E0 m3 t1 p0 Q2 w2;refine T0a (by conv => lhs; whnf) rfl ?_;refine lC t1.k [.o 1] rfl ⟨rfl,⟨⟩⟩ ?_;refine wL (fun μi D ε w => D = [] ∧ ∃ i : Nat, ∃ G5 : Option Nat, ∃ C0 : List Value, ∃ v5 : Value, ∃ l5 : List Int, (i + μi = (en.cells.length)) ∧ (l5.length ≤ 102 + 2000 * k + 65 * j + 2 * i) ∧ (l5 = l4 ++ ((en.cells.length : Int) :: ((en.cells.zip en.values).take i).flatMap fun x => [x.1, x.2])) ∧ (x7b w0 G5 C0 v5 l5) ∧ St [] w0 w [(some W1, 5, [.int .u8 (d0 : Int)]), (some x1, 81, [.slice t0 d0 v0, .slice A0 m1 F0]), (some y1, 5, [.int .u8 (a0 : Int)]), (some g1, 38, [.slice Xm xm ym, .slice Xa xa ya, .slice Xb xb yb]), (G5, 5, C0)] ∧ Sl ε [(3, v5), (11, .pointer (some ⟨x1, 0, none⟩)), (42, .slice Xb xb yb), (43, .int .i64 xb), (44, .int .i64 k), (54, .slice s0 a0 u0), (55, .int .i64 a0), (56, .int .i64 j), (68, .slice t0 d0 v0), (69, .int .i64 d0), (70, .int .i64 i)]) (μ := (en.cells.length)) ⟨rfl, 0, E1, E0, s2, l4 ++ [(d0 : Int)], by omega, by simp; omega, by rw [show (en.cells.length : Int) = d0 by omega]; simp, p0, t1, rfl⟩ ?_;rintro μi D ε w ⟨rfl, i, G5, C0, v5, l5, _, _, B1, h0, S, eZ⟩;refine wK eZ (wB0 rfl ⟨⟩ (fun d2 => ?_) fun d2 => ?_)
   ·obtain ⟨n, Q1, o2, _, i0, K0, _, _, T0, b1⟩ := RdS.get (y0) (i) (by omega);obtain ⟨rfl, _⟩ := id b1;refine lOn 18 (S.k.a T0) [.x Q1 o2,.f 0 0] rfl ⟨rfl,⟨K0,by omega⟩,⟨⟩⟩ (m1a (by conv => lhs; whnf) rfl ?_);refine lO0 rfl ⟨⟩ ?_;obtain ⟨u, j1⟩ : ∃ u, en.values[i]? = some u := ⟨en.values[i]'(by omega), List.getElem?_eq_getElem _⟩;have q7 : n ∈ c.buf.flatMap B2a ∧ u ∈ c.buf.flatMap B2a := u4c i1 r0 i0 j1;have q8 := r3 n q7.1;have q9 := r3 u q7.2;refine S5a Tryz.underlying3 Tryz.underlying5 rfl (a := n) (by omega) rfl ?_;obtain ⟨_, R1, p2, _, h1, L0, _, _, U0, d1⟩ := RdS.get (z0) (i) (by omega);obtain rfl := Option.some.inj (j1.symm.trans h1);obtain ⟨rfl, _⟩ := id d1;refine lO (S.k.a U0) [.o 1,.x R1 p2,.f 0 0] rfl ⟨rfl,⟨L0,by omega⟩,rfl,⟨⟩⟩ (S5a Tryz.underlying3 Tryz.underlying5 rfl (a := u) (by omega) rfl ?_);refine E0a S L4a (vs := [.int .u8 _, .int .u8 _]) (cs := [_, _]) (by rfl) rfl rfl rfl rfl rfl rfl ?_;intro V2 n3 u1 R2 F2;refine s9a m9a (k := 5) (M2 := []) (e1 := n) (e2 := u) u1 L4a (by decide) rfl h0 rfl rfl (u1.cells 0 rfl) rfl rfl (by omega) rfl ?_;intro Z2 G2 V1 o3 K1 q0 S2 x2;refine T0a (by conv => lhs; whnf) rfl ?_;refine lP0 rfl ⟨by omega,⟨⟩⟩ ?_;refine ⟨μi - 1, by omega, rfl, (i + 1), (_), (_), (_), (l5 ++ [n, u]), (by omega), (by simp; omega), (by rw [B1, J0a (D1b i0 j1)]; simp), (q0), K1.tail, rfl⟩
   refine lP0 rfl ⟨by omega,⟨⟩⟩ ?_;refine ⟨μj - 1, by omega, rfl, (j + 1), (_), (_), (_), (l5), (by omega), (by omega), (by rw [B1, List.take_of_length_le (show (en.cells.zip en.values).length ≤ i by simp; omega), A1, J0a r0]; simp [A4a]), (h0), S.tail.tail, rfl⟩
  refine lP0 rfl ⟨by omega,⟨⟩⟩ ?_;refine ⟨μk - 1, by omega, rfl, (k + 1), (_), (_), (_), (l4), (by omega), (by omega), (by rw [A1, List.take_of_length_le (show b.length ≤ j by omega), hq, J0a i1]; simp [B2a]), (g0), S.tail, rfl⟩
 refine lOn 8 S.k [] rfl ⟨⟩ (m1a (by conv => lhs; whnf) rfl ?_);refine Y7b S (k := 1) Tryz.underlying77 Tryz.underlying5 Tryz.underlying9 rfl b0 rfl rfl ?_;refine lR0 rfl ⟨⟩ (q0a rfl (by conv => lhs; whnf) ?_);rw [List.take_of_length_le (by omega)] at hq;have z1 : l3 = N7a c := hq;refine ⟨⟨?_, ?_⟩, S.fin⟩
 ·rw [z1]; rfl
 ·rw [← z1]; omega
end Go.Fw
