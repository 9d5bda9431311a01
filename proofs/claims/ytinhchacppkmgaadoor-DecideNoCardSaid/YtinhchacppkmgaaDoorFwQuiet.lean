/-
  The framework: the rules for operations of a region that draws its order (made by program out of the rules o_..), and calls there.
-/
import Derived.Test.YtinhchacppkmgaaDoorFwDraw
namespace Go.Fw
open Go.RowKit
section
variable {P : Program} {N : Nat} {e : Env} {w : World} {ops : Array Oper} {rest : List Oper} {C : World → Prop} {K : Env → Prop}
variable {d : Nat} {t : TypeId} {p : String} {af : Array Edge} {x y : Operand} {a b : Int} {xt yt : TypeId} {kd : IntKind}

theorem q_move {x : Operand} {v : Value} (hv : ev e x = v) (hd : Nat.ble (d + 1) N = true) (h : QL P N ops C rest K (upd e d v)) : QL P N ops C (⟨some d, .move x, t, p, af, none⟩ :: rest) K e :=
  QL_val rfl rfl hd (fun w _ => by simp only [execOp, hv, Sem.run_pure]) h

theorem q_assign {x : Operand} {v : Value} (hv : ev e x = v) (hd : Nat.ble (d + 1) N = true) (h : QL P N ops C rest K (upd e d v)) : QL P N ops C (⟨some d, .assign x, t, p, af, none⟩ :: rest) K e :=
  QL_val rfl rfl hd (fun w _ => by simp only [execOp, hv, Sem.run_pure]) h

theorem q_pick {c a b : Operand} {t' : Bool} {v : Value} (hc : ev e c = .bool t') (hv : (bif t' then ev e a else ev e b) = v) (hd : Nat.ble (d + 1) N = true) (h : QL P N ops C rest K (upd e d v)) :
    QL P N ops C (⟨some d, .pick c a b, t, p, af, none⟩ :: rest) K e :=
  QL_val rfl rfl hd (fun w _ => by subst hv; cases t' <;> simp [execOp, hc, asBool]) h

/-- A block of its own for a value. -/

theorem q_nilCheck {x : Operand} {a : Addr} (hx : ev e x = .pointer (some a)) (hd : Nat.ble (d + 1) N = true) (h : QL P N ops C rest K (upd e d (.pointer (some a)))) :
    QL P N ops C (⟨some d, .nilCheck x, t, p, af, none⟩ :: rest) K e :=
  QL_val rfl rfl hd (fun w _ => by simp [execOp, hx]) h

/-- A field's place: its offset in cells. -/

theorem q_fieldAddr {s f off b o : Nat} {x : Operand} (hF : FA P s f off) (hx : ev e x = .pointer (some ⟨b, o, none⟩)) (hd : Nat.ble (d + 1) N = true)
    (h : QL P N ops C rest K (upd e d (.pointer (some ⟨b, o + off, none⟩)))) : QL P N ops C (⟨some d, .fieldAddr s x f, t, p, af, none⟩ :: rest) K e :=
  QL_val rfl rfl hd (fun w _ => by simp [execOp, hx, hF w, Addr.add_lit]) h

/-- A type of one cell. -/

theorem q_load {ty b o : Nat} {x : Operand} {v : Value} (h1 : One P ty) (hx : ev e x = .pointer (some ⟨b, o, none⟩)) (hc : ∀ w, C w → w.cell? ⟨b, o, none⟩ = some v) (hd : Nat.ble (d + 1) N = true)
    (h : QL P N ops C rest K (upd e d v)) : QL P N ops C (⟨some d, .load ty x, t, p, af, none⟩ :: rest) K e :=
  QL_val rfl rfl hd (fun w hw => by simp [execOp, hx, Instr.loadAt, Instr.sureAddr, h1 w, hc w hw]) h

/-- Cells in a row. -/

theorem q_loadN {ty n b o : Nat} {x : Operand} {cs : List Value} (hM : Many P ty n) (hx : ev e x = .pointer (some ⟨b, o, none⟩)) (hc : ∀ w, C w → Cells w b o cs) (hn : cs.length = n) (hd : Nat.ble (d + 1) N = true)
    (h : QL P N ops C rest K (upd e d (.agg cs.toArray))) : QL P N ops C (⟨some d, .load ty x, t, p, af, none⟩ :: rest) K e :=
  QL_val rfl rfl hd (fun w hw => by
    subst hn
    have := run_loadCells_list (P := P) w ⟨b, o, none⟩ cs (fun j v hj => by rw [Addr.add_lit]; exact hc w hw j v hj)
    simp [execOp, hx, Instr.loadAt, Instr.sureAddr, hM w, this]) h

/-! Integers -/

theorem q_add (hx : ev e x = .int .i64 a) (hy : ev e y = .int .i64 b) (hr : i64 (a + b)) (hd : Nat.ble (d + 1) N = true) (h : QL P N ops C rest K (upd e d (.int .i64 (a + b)))) :
    QL P N ops C (⟨some d, .binOp .add xt x y yt, t, p, af, none⟩ :: rest) K e :=
  QL_val rfl rfl hd (fun w _ => by simp [execOp, hx, hy, eqGuard_add, binOp_add, Op.intArith, wrap_id hr]) h

theorem q_sub (hx : ev e x = .int .i64 a) (hy : ev e y = .int .i64 b) (hr : i64 (a - b)) (hd : Nat.ble (d + 1) N = true) (h : QL P N ops C rest K (upd e d (.int .i64 (a - b)))) :
    QL P N ops C (⟨some d, .binOp .sub xt x y yt, t, p, af, none⟩ :: rest) K e :=
  QL_val rfl rfl hd (fun w _ => by simp [execOp, hx, hy, eqGuard_sub, binOp_sub, Op.intArith, wrap_id hr]) h

theorem q_mul (hx : ev e x = .int .i64 a) (hy : ev e y = .int .i64 b) (hr : i64 (a * b)) (hd : Nat.ble (d + 1) N = true) (h : QL P N ops C rest K (upd e d (.int .i64 (a * b)))) :
    QL P N ops C (⟨some d, .binOp .mul xt x y yt, t, p, af, none⟩ :: rest) K e :=
  QL_val rfl rfl hd (fun w _ => by simp [execOp, hx, hy, eqGuard_mul, binOp_mul, Op.intArith, wrap_id hr]) h

theorem q_lss (hx : ev e x = .int kd a) (hy : ev e y = .int kd b) (hd : Nat.ble (d + 1) N = true) (h1 : a < b → QL P N ops C rest K (upd e d (.bool true))) (h2 : b ≤ a → QL P N ops C rest K (upd e d (.bool false))) :
    QL P N ops C (⟨some d, .binOp .lss xt x y yt, t, p, af, none⟩ :: rest) K e := by
  by_cases hab : a < b
  · exact QL_val rfl rfl hd (fun w _ => by simp [execOp, hx, hy, eqGuard_lss, binOp_lss, hab]) (h1 hab)
  · exact QL_val rfl rfl hd (fun w _ => by simp [execOp, hx, hy, eqGuard_lss, binOp_lss, hab]) (h2 (by omega))

theorem q_leq (hx : ev e x = .int kd a) (hy : ev e y = .int kd b) (hd : Nat.ble (d + 1) N = true) (h1 : a ≤ b → QL P N ops C rest K (upd e d (.bool true))) (h2 : b < a → QL P N ops C rest K (upd e d (.bool false))) :
    QL P N ops C (⟨some d, .binOp .leq xt x y yt, t, p, af, none⟩ :: rest) K e := by
  by_cases hab : a ≤ b
  · exact QL_val rfl rfl hd (fun w _ => by simp [execOp, hx, hy, eqGuard_leq, binOp_leq, hab]) (h1 hab)
  · exact QL_val rfl rfl hd (fun w _ => by simp [execOp, hx, hy, eqGuard_leq, binOp_leq, hab]) (h2 (by omega))

theorem q_gtr (hx : ev e x = .int kd a) (hy : ev e y = .int kd b) (hd : Nat.ble (d + 1) N = true) (h1 : b < a → QL P N ops C rest K (upd e d (.bool true))) (h2 : a ≤ b → QL P N ops C rest K (upd e d (.bool false))) :
    QL P N ops C (⟨some d, .binOp .gtr xt x y yt, t, p, af, none⟩ :: rest) K e := by
  by_cases hab : b < a
  · exact QL_val rfl rfl hd (fun w _ => by simp [execOp, hx, hy, eqGuard_gtr, binOp_gtr, hab]) (h1 hab)
  · exact QL_val rfl rfl hd (fun w _ => by simp [execOp, hx, hy, eqGuard_gtr, binOp_gtr, hab]) (h2 (by omega))

theorem q_geq (hx : ev e x = .int kd a) (hy : ev e y = .int kd b) (hd : Nat.ble (d + 1) N = true) (h1 : b ≤ a → QL P N ops C rest K (upd e d (.bool true))) (h2 : a < b → QL P N ops C rest K (upd e d (.bool false))) :
    QL P N ops C (⟨some d, .binOp .geq xt x y yt, t, p, af, none⟩ :: rest) K e := by
  by_cases hab : b ≤ a
  · exact QL_val rfl rfl hd (fun w _ => by simp [execOp, hx, hy, eqGuard_geq, binOp_geq, hab]) (h1 hab)
  · exact QL_val rfl rfl hd (fun w _ => by simp [execOp, hx, hy, eqGuard_geq, binOp_geq, hab]) (h2 (by omega))

theorem q_eql (hx : ev e x = .int kd a) (hy : ev e y = .int kd b) (hd : Nat.ble (d + 1) N = true) (h1 : a = b → QL P N ops C rest K (upd e d (.bool true))) (h2 : a ≠ b → QL P N ops C rest K (upd e d (.bool false))) :
    QL P N ops C (⟨some d, .binOp .eql xt x y yt, t, p, af, none⟩ :: rest) K e := by
  by_cases hab : a = b
  · exact QL_val rfl rfl hd (fun w _ => by simp [execOp, hx, hy, eqGuard_at_int, binOp_eql, hab]) (h1 hab)
  · exact QL_val rfl rfl hd (fun w _ => by simp [execOp, hx, hy, eqGuard_at_int, binOp_eql, hab]) (h2 hab)

theorem q_neq (hx : ev e x = .int kd a) (hy : ev e y = .int kd b) (hd : Nat.ble (d + 1) N = true) (h1 : a ≠ b → QL P N ops C rest K (upd e d (.bool true))) (h2 : a = b → QL P N ops C rest K (upd e d (.bool false))) :
    QL P N ops C (⟨some d, .binOp .neq xt x y yt, t, p, af, none⟩ :: rest) K e := by
  by_cases hab : a = b
  · exact QL_val rfl rfl hd (fun w _ => by simp [execOp, hx, hy, eqGuard_at_int, binOp_neq, hab]) (h2 hab)
  · exact QL_val rfl rfl hd (fun w _ => by simp [execOp, hx, hy, eqGuard_at_int, binOp_neq, hab]) (h1 hab)

theorem q_not {z : Bool} (hx : ev e x = .bool z) (hd : Nat.ble (d + 1) N = true) (h : QL P N ops C rest K (upd e d (.bool (!z)))) : QL P N ops C (⟨some d, .unOp .not xt x, t, p, af, none⟩ :: rest) K e :=
  QL_val rfl rfl hd (fun w _ => by simp [execOp, hx, Op.unary]) h

/-! Slices -/

/-- A slice type; the element's cells. -/

theorem q_len {ty size : Nat} {A : Option Addr} {n c : Nat} (hT : SlT P ty size) (hx : ev e x = .slice A n c) (hd : Nat.ble (d + 1) N = true) (h : QL P N ops C rest K (upd e d (.int .i64 n))) :
    QL P N ops C (⟨some d, .call { callee := .builtin .len, args := #[x], argTypes := #[ty] }, t, p, af, none⟩ :: rest) K e := by
  obtain ⟨el, hu, _⟩ := hT
  exact QL_val rfl rfl hd (fun w _ => by simp [execOp, resolve, invoke, builtin, Builtin.len_, hx, run_underlying hu, goInt]) h

theorem q_indexAddr {ty size b o n c : Nat} {A : Option Addr} (hT : SlT P ty size) (hx : ev e x = .slice A n c) (hA : A = some ⟨b, o, none⟩) (hy : ev e y = .int kd a) (h0 : 0 ≤ a) (h1 : a < n) (hd : Nat.ble (d + 1) N = true)
    (h : QL P N ops C rest K (upd e d (.pointer (some ⟨b, o + a.toNat * size, none⟩)))) : QL P N ops C (⟨some d, .indexAddr ty x y, t, p, af, none⟩ :: rest) K e := by
  obtain ⟨el, hu, hsz⟩ := slT_size hT
  subst hA
  exact QL_val rfl rfl hd (fun w _ => by simp [execOp, Instr.indexAt, hx, hy, asIntOf, run_underlying hu, h0, h1, hsz, Addr.add_lit]) h

/-! Calls of a function of the program -/

theorem q_extract {vs : Array Value} {ix : Nat} {v : Value} (hx : ev e x = .tuple vs) (hv : vs[ix]? = some v) (hd : Nat.ble (d + 1) N = true) (h : QL P N ops C rest K (upd e d v)) :
    QL P N ops C (⟨some d, .extract x ix, t, p, af, none⟩ :: rest) K e :=
  QL_val rfl rfl hd (fun w _ => by simp [execOp, hx, Instr.extract, hv]) h

theorem q_makeFunc {fn : Fn} {cap : Array Operand} {vs : List Value} (hvs : cap.toList.map (ev e) = vs) (hd : Nat.ble (d + 1) N = true) (h : QL P N ops C rest K (upd e d (.func fn #[] vs.toArray))) :
    QL P N ops C (⟨some d, .makeFunc fn #[] cap, t, p, af, none⟩ :: rest) K e := by
  have hc : (cap.map (ev e)) = vs.toArray := by subst hvs; apply Array.ext'; simp
  exact QL_val rfl rfl hd (fun w _ => by simp [execOp, Instr.makeFunc, hc]) h

theorem q_neg (hx : ev e x = .int .i64 a) (hr : i64 (-a)) (hd : Nat.ble (d + 1) N = true) (h : QL P N ops C rest K (upd e d (.int .i64 (-a)))) :
    QL P N ops C (⟨some d, .unOp .neg xt x, t, p, af, none⟩ :: rest) K e :=
  QL_val rfl rfl hd (fun w _ => by
    have h0 : (0 : Int) - a = -a := by omega
    simp only [execOp, hx, Op.unary, Op.intArith, Sem.run_bind, Sem.run_pure, Result.andThen_ok, h0, wrap_id hr]) h

/-! A field of a struct that is a value -/

theorem q_field {s f off : Nat} {cs : Array Value} {v : Value} (hF : Fld P s f off) (hx : ev e x = .agg cs) (hv : cs[off]? = some v) (hd : Nat.ble (d + 1) N = true) (h : QL P N ops C rest K (upd e d v)) :
    QL P N ops C (⟨some d, .field s x f, t, p, af, none⟩ :: rest) K e :=
  QL_val rfl rfl hd (fun w _ => by simp [execOp, hx, hF w cs v hv]) h

/-! A struct that is built -/

/-- How a struct type is built: its zero cells, and the place and size of each field. -/

theorem q_build {ty : Nat} {parts : Array (Nat × Operand)} {z : List Value} {pl : List (Nat × Nat)} {vs : List (Nat × Value)} {cs : List Value} (hB : Bld P ty z pl) (hvs : parts.toList.map (fun q => (q.1, ev e q.2)) = vs)
    (hok : fillOk pl z.length vs = true) (hcs : fillL pl z vs = cs) (hd : Nat.ble (d + 1) N = true) (h : QL P N ops C rest K (upd e d (.agg cs.toArray))) :
    QL P N ops C (⟨some d, .build ty parts, t, p, af, none⟩ :: rest) K e := by
  have hp : (parts.map fun (i, x) => (i, ev e x)) = vs.toArray := by subst hvs; apply Array.ext'; simp
  subst hcs
  exact QL_val rfl rfl hd (fun w _ => by simp [execOp, hp, hB w vs _ (fill_list pl vs z hok)]) h

/-! A slice that is built -/

/-- A slice type: its element type, the element's cells, its zero cells, its bytes. -/

theorem q_slice {ty size lo hi c n o b : Nat} {xl xh : Option Operand} (hT : SlT P ty size) (hx : ev e x = .slice (some ⟨b, o, none⟩) n c) (hl : (xl.map (ev e) = none ∧ lo = 0) ∨ xl.map (ev e) = some (.int kd (lo : Int)))
    (hh : (xh.map (ev e) = none ∧ hi = n) ∨ xh.map (ev e) = some (.int kd (hi : Int))) (h1 : lo ≤ hi) (h2 : hi ≤ c) (h3 : n ≤ c) (hd : Nat.ble (d + 1) N = true)
    (h : QL P N ops C rest K (upd e d (.slice (some (if c = lo then ⟨b, o, none⟩ else ⟨b, o + lo * size, none⟩)) (hi - lo) (c - lo)))) :
    QL P N ops C (⟨some d, .slice ty x xl xh none, t, p, af, none⟩ :: rest) K e := by
  obtain ⟨el, hu, hsz⟩ := slT_size hT
  have e1 : (0 : Int) ≤ (lo : Int) ∧ (lo : Int) ≤ (hi : Int) := by omega
  have e2 : (0 : Int) ≤ (hi : Int) ∧ (hi : Int) ≤ (c : Int) := by omega
  refine QL_val rfl rfl hd (fun w _ => ?_) h
  have hrun : (Instr.slice ty (.slice (some ⟨b, o, none⟩) n c) (xl.map (ev e)) (xh.map (ev e)) none).run P w = .ok (.slice (some (if c = lo then ⟨b, o, none⟩ else ⟨b, o + lo * size, none⟩)) (hi - lo) (c - lo)) w := by
    rcases hl with ⟨hl, rfl⟩ | hl <;> rcases hh with ⟨hh, rfl⟩ | hh <;> rw [hl, hh] <;>
      simp [Instr.slice, Instr.sliceBounds, Instr.sliceBound, asIntOf, run_underlying hu, hsz, e1, e2, h1, h2, Addr.add_lit] <;>
      (split <;> rfl)
  simp only [execOp, Instr.sliceAt, Sem.run_bind, run_underlying hu, Result.andThen_ok, hx, Option.map_none, hrun, Sem.run_pure]

/-! Arrays -/

/-- An array type: its length and the element's cells. -/

theorem q_indexArr {ty len size b o : Nat} (hT : ArT P ty len size) (hx : ev e x = .pointer (some ⟨b, o, none⟩)) (hy : ev e y = .int kd a) (h0 : 0 ≤ a) (h1 : a < len) (hd : Nat.ble (d + 1) N = true)
    (h : QL P N ops C rest K (upd e d (.pointer (some ⟨b, o + a.toNat * size, none⟩)))) : QL P N ops C (⟨some d, .indexAddr ty x y, t, p, af, none⟩ :: rest) K e := by
  obtain ⟨el, hu, hsz, _⟩ := hT
  exact QL_val rfl rfl hd (fun w _ => by simp [execOp, Instr.indexAt, Instr.sureAddr, hx, hy, asIntOf, run_underlying hu, h0, h1, hsz, Addr.add_lit]) h

theorem q_index {ty len : Nat} {cs : Array Value} {v : Value} (hT : ArT P ty len 1) (hx : ev e x = .agg cs) (hy : ev e y = .int kd a) (h0 : 0 ≤ a) (h1 : a < len) (hv : cs[a.toNat]? = some v) (hd : Nat.ble (d + 1) N = true)
    (h : QL P N ops C rest K (upd e d v)) : QL P N ops C (⟨some d, .index ty x y, t, p, af, none⟩ :: rest) K e := by
  obtain ⟨el, hu, hsz, ha⟩ := hT
  exact QL_val rfl rfl hd (fun w _ => by simp [execOp, Instr.index, hx, hy, asIntOf, run_underlying hu, h0, h1, hsz, part, ha rfl, hv]) h

/-! Bits, shifts, sums that may wrap -/

theorem q_and (hx : ev e x = .int .i64 a) (hy : ev e y = .int .i64 b) (hd : Nat.ble (d + 1) N = true) (h : QL P N ops C rest K (upd e d (.int .i64 (band a b)))) :
    QL P N ops C (⟨some d, .binOp .and xt x y yt, t, p, af, none⟩ :: rest) K e :=
  QL_val rfl rfl hd (fun w _ => by simp [execOp, hx, hy, eqGuard_and, binOp_and, intBits_and, band]) h

theorem q_or (hx : ev e x = .int .i64 a) (hy : ev e y = .int .i64 b) (hd : Nat.ble (d + 1) N = true) (h : QL P N ops C rest K (upd e d (.int .i64 (bor a b)))) :
    QL P N ops C (⟨some d, .binOp .or xt x y yt, t, p, af, none⟩ :: rest) K e :=
  QL_val rfl rfl hd (fun w _ => by simp [execOp, hx, hy, eqGuard_or, binOp_or, intBits_or, bor]) h

theorem q_xor (hx : ev e x = .int .i64 a) (hy : ev e y = .int .i64 b) (hd : Nat.ble (d + 1) N = true) (h : QL P N ops C rest K (upd e d (.int .i64 (bxor a b)))) :
    QL P N ops C (⟨some d, .binOp .xor xt x y yt, t, p, af, none⟩ :: rest) K e :=
  QL_val rfl rfl hd (fun w _ => by simp [execOp, hx, hy, eqGuard_xor, binOp_xor, intBits_xor, bxor]) h

theorem q_unxor (hx : ev e x = .int .i64 a) (hd : Nat.ble (d + 1) N = true) (h : QL P N ops C rest K (upd e d (.int .i64 (bxor (-1) a)))) :
    QL P N ops C (⟨some d, .unOp .xor xt x, t, p, af, none⟩ :: rest) K e :=
  QL_val rfl rfl hd (fun w _ => by
    have h0 : Op.unary .xor (.int .i64 a) = Op.intBits .xor .i64 (-1) a := rfl
    simp [execOp, hx, h0, intBits_xor, bxor]) h

theorem q_addW (hx : ev e x = .int .i64 a) (hy : ev e y = .int .i64 b) (hd : Nat.ble (d + 1) N = true) (h : QL P N ops C rest K (upd e d (.int .i64 (wr (a + b))))) :
    QL P N ops C (⟨some d, .binOp .add xt x y yt, t, p, af, none⟩ :: rest) K e :=
  QL_val rfl rfl hd (fun w _ => by simp [execOp, hx, hy, eqGuard_add, binOp_add, Op.intArith, wr]) h

theorem q_mulW (hx : ev e x = .int .i64 a) (hy : ev e y = .int .i64 b) (hd : Nat.ble (d + 1) N = true) (h : QL P N ops C rest K (upd e d (.int .i64 (wr (a * b))))) :
    QL P N ops C (⟨some d, .binOp .mul xt x y yt, t, p, af, none⟩ :: rest) K e :=
  QL_val rfl rfl hd (fun w _ => by simp [execOp, hx, hy, eqGuard_mul, binOp_mul, Op.intArith, wr]) h

theorem q_negW (hx : ev e x = .int .i64 a) (hd : Nat.ble (d + 1) N = true) (h : QL P N ops C rest K (upd e d (.int .i64 (wr (0 - a))))) :
    QL P N ops C (⟨some d, .unOp .neg xt x, t, p, af, none⟩ :: rest) K e :=
  QL_val rfl rfl hd (fun w _ => by simp only [execOp, hx, Op.unary, Op.intArith, Sem.run_bind, Sem.run_pure, Result.andThen_ok, wr]) h

/-- 1 << n. -/

theorem q_shl1 {n : Nat} (hx : ev e x = .int .i64 1) (hy : ev e y = .int .i64 (n : Int)) (hn : n ≤ 62) (hd : Nat.ble (d + 1) N = true) (h : QL P N ops C rest K (upd e d (.int .i64 ((2 ^ n : Nat) : Int)))) :
    QL P N ops C (⟨some d, .binOp .shl xt x y yt, t, p, af, none⟩ :: rest) K e :=
  QL_val rfl rfl hd (fun w _ => by
    have h2 : (2 : Nat) ^ n ≤ 2 ^ 62 := Nat.pow_le_pow_right (by omega) hn
    have h3 : min n IntKind.i64.bits = n := by simp [IntKind.bits]; omega
    have h4 : ((1 : Int) * 2 ^ n) = ((2 ^ n : Nat) : Int) := by simp
    have h5 : IntKind.i64.wrap ((2 ^ n : Nat) : Int) = ((2 ^ n : Nat) : Int) := by
      generalize (2 : Nat) ^ n = q at h2
      exact wrap_id ⟨by omega, by omega⟩
    have h6 : ¬ ((n : Int) < 0) := by omega
    simp only [execOp, hx, hy, eqGuard_shl, binOp_shl, Op.shift, h6, if_false, Int.toNat_natCast, h3, h4, h5, Sem.run_bind, Sem.run_pure, Result.andThen_ok]) h
/-- a >> n. -/

theorem q_shr {n : Nat} (hx : ev e x = .int .i64 a) (hy : ev e y = .int .i64 (n : Int)) (hn : n ≤ 62) (hd : Nat.ble (d + 1) N = true) (h : QL P N ops C rest K (upd e d (.int .i64 (a / ((2 ^ n : Nat) : Int))))) :
    QL P N ops C (⟨some d, .binOp .shr xt x y yt, t, p, af, none⟩ :: rest) K e :=
  QL_val rfl rfl hd (fun w _ => by
    have h3 : min n IntKind.i64.bits = n := by simp [IntKind.bits]; omega
    have h6 : ¬ ((n : Int) < 0) := by omega
    have h7 : a.fdiv (2 ^ n) = a / ((2 ^ n : Nat) : Int) := by
      rw [Int.fdiv_eq_ediv_of_nonneg]
      · simp
      · exact Int.le_of_lt (Int.pow_pos (by omega))
    simp only [execOp, hx, hy, eqGuard_shr, binOp_shr, Op.shift, h6, if_false, Int.toNat_natCast, h3, h7, Sem.run_bind, Sem.run_pure, Result.andThen_ok]) h

/-! Booleans compared -/

theorem q_eqlb {z z' : Bool} (hU : P.underlying xt = some .bool) (hx : ev e x = .bool z) (hy : ev e y = .bool z') (hd : Nat.ble (d + 1) N = true) (h : QL P N ops C rest K (upd e d (.bool (z == z')))) :
    QL P N ops C (⟨some d, .binOp .eql xt x y yt, t, p, af, none⟩ :: rest) K e :=
  QL_val rfl rfl hd (fun w _ => by simp [execOp, hx, hy, eqGuard_at_bool, binOp, run_equal_bool w xt z z' hU]) h

theorem q_neqb {z z' : Bool} (hU : P.underlying xt = some .bool) (hx : ev e x = .bool z) (hy : ev e y = .bool z') (hd : Nat.ble (d + 1) N = true) (h : QL P N ops C rest K (upd e d (.bool (!(z == z'))))) :
    QL P N ops C (⟨some d, .binOp .neq xt x y yt, t, p, af, none⟩ :: rest) K e :=
  QL_val rfl rfl hd (fun w _ => by simp [execOp, hx, hy, eqGuard_at_bool, binOp, run_equal_bool w xt z z' hU]) h

/-! Stores of several cells -/

/-- A call whose result is known. -/
theorem q_call {f : FuncId} {args : Array Operand} {at_ : Array TypeId} {vs : List Value} {v : Value} (hH : Has P f) (hvs : args.toList.map (ev e) = vs) (hd : Nat.ble (d + 1) N = true)
    (hc : ∀ w, C w → Does P f vs.toArray w fun v' w' => v' = v ∧ C w' ∧ Keep [] w w') (h : QL P N ops C rest K (upd e d v)) :
    QL P N ops C (⟨some d, .call { callee := .value (.func f), args := args, argTypes := at_ }, t, p, af, none⟩ :: rest) K e := by
  refine QL_call rfl rfl hd (fun w => ?_) hc h
  subst hvs
  have : (args.map (ev e)) = (args.toList.map (ev e)).toArray := by apply Array.ext'; simp
  simp [execOp, resolve, Deferred.ofValue, invoke, ev, hH _ w, this]

theorem q_callv {f : FuncId} {g : Operand} {caps : Array Value} {args : Array Operand} {at_ : Array TypeId} {vs : List Value} {v : Value} (hH : Has P f) (hg : ev e g = .func (.func f) #[] caps)
    (hvs : args.toList.map (ev e) ++ caps.toList = vs) (hd : Nat.ble (d + 1) N = true)
    (hc : ∀ w, C w → Does P f vs.toArray w fun v' w' => v' = v ∧ C w' ∧ Keep [] w w') (h : QL P N ops C rest K (upd e d v)) :
    QL P N ops C (⟨some d, .call { callee := .value g, args := args, argTypes := at_ }, t, p, af, none⟩ :: rest) K e := by
  refine QL_call rfl rfl hd (fun w => ?_) hc h
  subst hvs
  have : (args.map (ev e) ++ caps) = (args.toList.map (ev e) ++ caps.toList).toArray := by apply Array.ext'; simp
  simp [execOp, resolve, Deferred.ofValue, invoke, hg, hH _ w, this]

/-- The class of worlds behind 'w' in which the call's own blocks are as they are. -/
def Cl (M : List Nat) (w0 w : World) (L : List Ent) (w' : World) : Prop := St M w0 w' L ∧ Keep [] w w'

theorem Cl.start {M : List Nat} {w0 w : World} {L : List Ent} (S : St M w0 w L) : Cl M w0 w L w.drew := ⟨S.drew, keep_drew _ _⟩
theorem Cl.alloc {M : List Nat} {w0 w : World} {L : List Ent} (w' : World) (o : Obj) (h : Cl M w0 w L w') : Cl M w0 w L (w'.alloc o) :=
  ⟨h.1.keeps (h.1.below.alloc _) fun b hm g hg => Below.heap_alloc w' _ g (h.1.own b hm g hg).2.lt, h.2.trans (keep_alloc _ _ _)⟩
theorem Cl.later {M : List Nat} {w0 w w' w'' : World} {L : List Ent} (h : Cl M w0 w L w') (hb : Below w'.heap.size w' w'') : Cl M w0 w L w'' ∧ Keep [] w' w'' :=
  ⟨⟨h.1.later hb, h.2.trans (Keep.of_below hb)⟩, Keep.of_below hb⟩

/-- A contract of the usual form is one for a class. -/
theorem does_cl {M : List Nat} {w0 w w' : World} {L : List Ent} {f : FuncId} {args : Array Value} {v : Value} {R : Value → World → Prop} (h : Cl M w0 w L w') (hc : Does P f args w' R) (hR : ∀ v' w'', R v' w'' → v' = v ∧ Below w'.heap.size w' w'') :
    Does P f args w' fun v' w'' => v' = v ∧ Cl M w0 w L w'' ∧ Keep [] w' w'' :=
  hc.mono fun v' w'' hr => ⟨(hR v' w'' hr).1, h.later (hR v' w'' hr).2⟩
end

section
variable {P : Program} {l : List Oper} {C : World → Prop} {e : Env} {B : List Nat} {G : List (Nat × Value) → List Nat → World → Prop}

/-- What is asked of the operations of B, one behind the other. G: the slots written, the blocks made. -/
def BKL (P : Program) (l : List Oper) (C : World → Prop) (e : Env) (B : List Nat) (G : List (Nat × Value) → List Nat → World → Prop) : Prop :=
  ∃ sp : List BSpec, sp.length = B.length ∧ (∀ (q b : Nat) (o : Oper) (s : BSpec), B[q]? = some b → l[b]? = some o → sp[q]? = some s → BOk P l.toArray C o e s) ∧
    ∀ (w : World) (V : Nat → Value), C w → (∀ (q : Nat) (s : BSpec), sp[q]? = some s → BHas w s (V q)) →
      (∀ q q' g, q ≠ q' → Nw P l C B sp e q → Nw P l C B sp e q' → blkOf (V q) = some g → blkOf (V q') = some g → False) →
      ∃ gs : List Nat, (∀ g ∈ gs, ∃ q, Nw P l C B sp e q ∧ blkOf (V q) = some g) ∧ G ((List.range B.length).map fun q => ((dstAt l (B.getD q 0)).getD 0, V q)) gs w

theorem BK_of {r : Option Nat} {N : Nat} {T : List Nat} {k : List Deferred → Env → World → Prop} {D : List Deferred}
    (h : BKL P l C e B fun us _ w => WL P r N l.toArray (T.filterMap (l[·]?)) k D (upds e us) w) : BK P r N l C B T k D e := by
  obtain ⟨sp, hl, hok, hT⟩ := h
  exact ⟨sp, hl, hok, fun w V hC hV hA => let ⟨_, _, hh⟩ := hT w V hC hV hA; hh⟩

theorem BKL_nil (h : ∀ w, C w → G [] [] w) : BKL P l C e [] G :=
  ⟨[], rfl, fun q b o s hq => by simp at hq, fun w V hC _ _ => ⟨[], fun g hg => by simp at hg, h w hC⟩⟩

theorem Nw.up {b : Nat} {s : BSpec} {sp : List BSpec} {q : Nat} (h : Nw P l C B sp e q) : Nw P l C (b :: B) (s :: sp) e (q + 1) := by
  obtain ⟨φ, b', o, h1, h2, h3, h4⟩ := h
  exact ⟨φ, b', o, by simpa using h1, by simpa using h2, h3, h4⟩

theorem BKL_gen {b d : Nat} {o : Oper} (s : BSpec) (ho : l[b]? = some o) (hd : o.dst = some d) (hok0 : BOk P l.toArray C o e s) (G' : List (Nat × Value) → List Nat → World → Prop)
    (hG : ∀ (sp : List BSpec) (V : Nat → Value) (us : List (Nat × Value)) (gs : List Nat) (w : World), G' us gs w → BHas w s (V 0) →
      (∀ g ∈ gs, Nw P l C (b :: B) (s :: sp) e 0 → blkOf (V 0) = some g → False) → (∃ gs', (∀ g ∈ gs', g ∈ gs ∨ (Nw P l C (b :: B) (s :: sp) e 0 ∧ blkOf (V 0) = some g)) ∧ G ((d, V 0) :: us) gs' w))
    (h : BKL P l C e B G') : BKL P l C e (b :: B) G := by
  obtain ⟨sp, hl, hok, hT⟩ := h
  refine ⟨s :: sp, by simp [hl], fun q b' o' s' hq ho' hs => ?_, fun w V hC hV hA => ?_⟩
  · cases q with
    | zero =>
      simp at hq hs; subst hq; subst hs
      rw [ho] at ho'; obtain rfl := Option.some.inj ho'
      exact hok0
    | succ q => exact hok q b' o' s' (by simpa using hq) ho' (by simpa using hs)
  · obtain ⟨gs, hgs, hh⟩ := hT w (fun q => V (q + 1)) hC (fun q s hs => hV (q + 1) s (by simpa using hs)) (fun q q' g hqq h1 h2 => hA (q + 1) (q' + 1) g (by omega) h1.up h2.up)
    obtain ⟨gs', h1, h2⟩ := hG sp V _ gs w hh (hV 0 _ rfl) (fun g hg hn hb => by
      obtain ⟨q, h3, h4⟩ := hgs g hg
      exact hA 0 (q + 1) g (by omega) hn h3.up hb h4)
    refine ⟨gs', fun g hg => ?_, ?_⟩
    · rcases h1 g hg with h3 | ⟨h3, h4⟩
      · obtain ⟨q, h5, h6⟩ := hgs g h3
        exact ⟨q + 1, h5.up, h6⟩
      · exact ⟨0, h3, h4⟩
    · have hd0 : dstAt l b = some d := by simp [dstAt, ho, hd]
      simpa [List.range_succ_eq_map, hd0, Function.comp_def] using h2

theorem BKL_cons {b d : Nat} {o : Oper} (φ : Value → World → Prop) (hφ : Stable φ) (ho : l[b]? = some o) (hd : o.dst = some d) (hw : wantedE l.toArray e o = true)
    (hrun : ∀ w, C w → (∃ v w', (execOp (ev e) o).run P w = .ok (.value v) w' ∧ C w' ∧ Keep [] w w' ∧ φ v w') ∨
      ∃ f args, (execOp (ev e) o).run P w = .ok (.enter f args) w ∧ Does P f args w (fun v w' => C w' ∧ Keep [] w w' ∧ φ v w'))
    (h : BKL P l C e B fun us gs w => ∀ v, φ v w → G ((d, v) :: us) gs w) : BKL P l C e (b :: B) G :=
  BKL_gen (some φ) ho hd ⟨hw, hφ, .inr hrun⟩ _ (fun _ _ _ gs _ hh hb _ => ⟨gs, fun _ hg => .inl hg, hh _ hb⟩) h

theorem BKL_off {b d : Nat} {o : Oper} (ho : l[b]? = some o) (hd : o.dst = some d) (hw : wantedE l.toArray e o = false)
    (h : BKL P l C e B fun us gs w => G ((d, undef) :: us) gs w) : BKL P l C e (b :: B) G :=
  BKL_gen none ho hd hw _ (fun _ V _ gs _ hh hb _ => ⟨gs, fun _ hg => .inl hg, by have hv : V 0 = undef := hb; rw [hv]; exact hh⟩) h

/-- An operation that runs to a new block. -/
theorem BKL_new {b d t : Nat} {o : Oper} {mk : Nat → Value} {cs : List Value} {w w0 : World} {L : List Ent} {M : List Nat} (hmk : ∀ g, blkOf (mk g) = some g) (ho : l[b]? = some o) (hd : o.dst = some d) (hw : wantedE l.toArray e o = true)
    (hrun : ∀ w1, Cl M w0 w L w1 → (execOp (ev e) o).run P w1 = .ok (.value (mk w1.heap.size)) (w1.alloc (.cells cs.toArray t (0, 0))))
    (h : BKL P l (Cl M w0 w L) e B fun us gs w1 => ∀ g, hasBlk w1 (g, t, cs) → w.heap.size ≤ g → g ∉ gs → G ((d, mk g) :: us) (g :: gs) w1) : BKL P l (Cl M w0 w L) e (b :: B) G := by
  have hnew : BNew P (Cl M w0 w L) o e (fun v w1 => ∃ g, v = mk g ∧ hasBlk w1 (g, t, cs) ∧ w.heap.size ≤ g) := by
    refine ⟨?_, fun w1 hC => ⟨_, _, hrun w1 hC, Cl.alloc _ _ hC, keep_alloc _ _ _, ⟨_, rfl, ?_, hC.2.size⟩, ?_⟩⟩
    · rintro v w1 g ⟨g', rfl, hb, _⟩ hg
      rw [hmk] at hg; cases hg
      exact hb.lt
    · unfold hasBlk; show (w1.heap.push _)[w1.heap.size]? = _; simp
    · intro g hg
      rw [hmk] at hg; cases hg
      exact Nat.le_refl _
  refine BKL_gen (some fun v w1 => ∃ g, v = mk g ∧ hasBlk w1 (g, t, cs) ∧ w.heap.size ≤ g) ho hd ⟨hw, ?_, .inl hnew⟩ _ (fun sp V us gs w1 hh hb ha => ?_) h
  · rintro v w1 w2 ⟨g, rfl, hb, hg⟩ hk
    exact ⟨g, rfl, keep_hasBlk hk hb, hg⟩
  · obtain ⟨g, hv, hb, hg⟩ := hb
    have hbk : blkOf (V 0) = some g := by rw [hv]; exact hmk g
    have hn0 : Nw P l (Cl M w0 w L) (b :: B) (some (fun v w1 => ∃ g, v = mk g ∧ hasBlk w1 (g, t, cs) ∧ w.heap.size ≤ g) :: sp) e 0 := ⟨_, b, o, rfl, rfl, ho, hnew⟩
    refine ⟨g :: gs, fun g' hg' => ?_, ?_⟩
    · rcases List.mem_cons.1 hg' with rfl | hg'
      · exact .inr ⟨hn0, hbk⟩
      · exact .inl hg'
    · rw [hv]; exact hh g hb hg (fun hm => ha g hm hn0 hbk)
end

section
variable {P : Program} {l : List Oper} {e : Env} {B : List Nat} {G : List (Nat × Value) → List Nat → World → Prop} {w w0 : World} {L : List Ent} {M : List Nat}

theorem BKL_slice {b d ty el size bytes n : Nat} {t : TypeId} {p : String} {af : Array Edge} {gd : Option (Nat × Bool)} {z : Value} {parts : Array (Nat × Operand)} {vs : List Value} {cs : List Value}
    (ho : l[b]? = some ⟨some d, .buildSlice ty n parts, t, p, af, gd⟩) (hw : wantedE l.toArray e ⟨some d, .buildSlice ty n parts, t, p, af, gd⟩ = true) (hS : SlZ P ty el size z bytes)
    (hvs : parts.toList.map (fun q => (q.1, ev e q.2)) = (vs.zipIdx 0).map fun q => (q.2, q.1)) (hn : vs.length = n) (h0 : Nat.ble 1 n = true) (hbig : Nat.ble (n * size) 16777216 = true) (hv : vs.map (·.cells.size) = List.replicate n size)
    (hcs : vs.flatMap (·.cells.toList) = cs)
    (h : BKL P l (Cl M w0 w L) e B fun us gs w1 => ∀ g, hasBlk w1 (g, el, cs) → w.heap.size ≤ g → g ∉ gs → G ((d, .slice (some ⟨g, 0, none⟩) n n) :: us) (g :: gs) w1) :
    BKL P l (Cl M w0 w L) e (b :: B) G := by
  have hp : (parts.map fun (i, x) => (i, ev e x)) = ((vs.zipIdx 0).map fun q => (q.2, q.1)).toArray := by rw [← hvs]; apply Array.ext'; simp
  have hv' : ∀ v ∈ vs, v.cells.size = size := fun v hm => by
    have : v.cells.size ∈ vs.map (·.cells.size) := List.mem_map.2 ⟨v, hm, rfl⟩
    rw [hv] at this; exact (List.mem_replicate.1 this).2
  refine BKL_new (mk := fun g => .slice (some ⟨g, 0, none⟩) n n) (t := el) (cs := cs) (fun _ => rfl) ho rfl hw (fun w1 _ => ?_) h
  have hrun := run_buildSlice hS hn (Nat.le_of_ble_eq_true h0) (Nat.le_of_ble_eq_true hbig) hv' w1
  subst hcs
  simp only [execOp, hp, Sem.run_bind, hrun, Result.andThen_ok, Sem.run_pure]

theorem BKL_alloc {b d el : Nat} {t : TypeId} {p : String} {af : Array Edge} {gd : Option (Nat × Bool)} {z : Value} {cs : List Value}
    (ho : l[b]? = some ⟨some d, .alloc el, t, p, af, gd⟩) (hw : wantedE l.toArray e ⟨some d, .alloc el, t, p, af, gd⟩ = true) (hz : ∀ w, (zeroValue el).run P w = .ok z w) (hcs : z.cells.toList = cs)
    (h : BKL P l (Cl M w0 w L) e B fun us gs w1 => ∀ g, hasBlk w1 (g, el, cs) → w.heap.size ≤ g → g ∉ gs → G ((d, .pointer (some ⟨g, 0, none⟩)) :: us) (g :: gs) w1) :
    BKL P l (Cl M w0 w L) e (b :: B) G := by
  refine BKL_new (mk := fun g => .pointer (some ⟨g, 0, none⟩)) (t := el) (cs := cs) (fun _ => rfl) ho rfl hw (fun w1 _ => ?_) h
  subst hcs
  simp [execOp, Instr.alloc, newVar, newRow, hz]

/-- A call of B: what it returns need not be one value. -/
theorem BKL_call {b d : Nat} {t : TypeId} {p : String} {af : Array Edge} {gd : Option (Nat × Bool)} {f : FuncId} {args : Array Operand} {at_ : Array TypeId} {vs : List Value} (φ : Value → World → Prop)
    (ho : l[b]? = some ⟨some d, .call { callee := .value (.func f), args := args, argTypes := at_ }, t, p, af, gd⟩) (hw : wantedE l.toArray e ⟨some d, .call { callee := .value (.func f), args := args, argTypes := at_ }, t, p, af, gd⟩ = true)
    (hH : Has P f) (hvs : args.toList.map (ev e) = vs) (hφ : Stable φ)
    (hc : ∀ w1, St M w0 w1 L → Keep [] w w1 → Does P f vs.toArray w1 fun v w2 => φ v w2 ∧ Below w1.heap.size w1 w2)
    (h : BKL P l (Cl M w0 w L) e B fun us gs w1 => ∀ v, φ v w1 → G ((d, v) :: us) gs w1) : BKL P l (Cl M w0 w L) e (b :: B) G := by
  refine BKL_cons φ hφ ho rfl hw (fun w1 hC => .inr ⟨f, vs.toArray, ?_, (hc w1 hC.1 hC.2).mono fun v w2 hr => ⟨(hC.later hr.2).1, (hC.later hr.2).2, hr.1⟩⟩) h
  subst hvs
  have : (args.map (ev e)) = (args.toList.map (ev e)).toArray := by apply Array.ext'; simp
  simp [execOp, resolve, Deferred.ofValue, invoke, ev, hH _ w1, this]

theorem BKL_callv {b d : Nat} {t : TypeId} {p : String} {af : Array Edge} {gd : Option (Nat × Bool)} {f : FuncId} {g : Operand} {caps : Array Value} {args : Array Operand} {at_ : Array TypeId} {vs : List Value} (φ : Value → World → Prop)
    (ho : l[b]? = some ⟨some d, .call { callee := .value g, args := args, argTypes := at_ }, t, p, af, gd⟩) (hw : wantedE l.toArray e ⟨some d, .call { callee := .value g, args := args, argTypes := at_ }, t, p, af, gd⟩ = true)
    (hH : Has P f) (hg : ev e g = .func (.func f) #[] caps) (hvs : args.toList.map (ev e) ++ caps.toList = vs) (hφ : Stable φ)
    (hc : ∀ w1, St M w0 w1 L → Keep [] w w1 → Does P f vs.toArray w1 fun v w2 => φ v w2 ∧ Below w1.heap.size w1 w2)
    (h : BKL P l (Cl M w0 w L) e B fun us gs w1 => ∀ v, φ v w1 → G ((d, v) :: us) gs w1) : BKL P l (Cl M w0 w L) e (b :: B) G := by
  refine BKL_cons φ hφ ho rfl hw (fun w1 hC => .inr ⟨f, vs.toArray, ?_, (hc w1 hC.1 hC.2).mono fun v w2 hr => ⟨(hC.later hr.2).1, (hC.later hr.2).2, hr.1⟩⟩) h
  subst hvs
  have : (args.map (ev e) ++ caps) = (args.toList.map (ev e) ++ caps.toList).toArray := by apply Array.ext'; simp
  simp [execOp, resolve, Deferred.ofValue, invoke, hg, hH _ w1, this]
end
end Go.Fw
