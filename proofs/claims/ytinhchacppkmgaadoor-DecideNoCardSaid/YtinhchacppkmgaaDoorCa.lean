/-
  From a contract to the row: what all laws share.
-/
import Derived.Test.YtinhchacppkmgaaDoorOp
import Derived.Test.YtinhchacppkmgaaDoorTie
import Derived.Test.YtinhchacppkmgaaDoorCards
import Derived.SevenTiedAt
namespace Go.Proofs.YtinhchacppkmgaaDoor
open Go.Fw Go.RowKit Go.ChangeShapes Go.WideShapes

theorem own : ownKnob Tryd.prog.godebug = none := by kernel_rfl
theorem laidOut : laidOutB Tryd.prog = true := by kernel_rfl

abbrev tableLaid : List (String × DataW Unit) := Rows.decideYesRow.laid

/-- A world that meets the condition. -/
theorem door_met (os : Os) (args : Array Value) : laidMetH Tryd.prog tableLaid ((World.doorLaid Tryd.prog 400 os).forCall (fun _ _ => 0) ⟨#[], args, []⟩).memory :=
  laidMetH_of_parts3 (fuel := 8) (laidMet_of_run' 8 (by kernel_rfl) (by kernel_rfl)) (by kernel_rfl) (by kernel_rfl)

/-- The arguments read behind a call that has turned nothing as they read before. -/
theorem args_kept {H : Type} {enc : TypeId × Value → H} {W W' : World} (hb : Below W.heap.size W W') : ∀ (ts : List TypeId), (∀ t ∈ ts, Tryd.prog.readableRec t = true ∧ t < Tryd.prog.types.size) → ∀ (vs : List Value) (ds : List (DataW H)) (p : List MemPlace),
    (∀ x ∈ p, x.block < W.heap.size) → DataW.TrodAll enc Tryd.prog W 0 (fun _ => true) true ts vs ds p → DataW.TrodAll enc Tryd.prog W' 0 (fun b => decide (b < W.heap.size)) true ts vs ds p := by
  intro ts
  induction ts with
  | nil =>
    intro _ vs ds p _ h
    cases vs <;> cases ds <;> first | exact h | exact h.elim
  | cons t ts ih =>
    intro ht vs ds p hp h
    cases vs with
    | nil => exact h.elim
    | cons v vs =>
      cases ds with
      | nil => exact h.elim
      | cons d ds =>
        obtain ⟨q, r, h1, h2, rfl⟩ := h
        obtain ⟨r1, r2⟩ := ht t (by simp)
        exact ⟨q, r, Below.trod laidOut r1 r2 h1 hb (fun x hx => hp x (List.mem_append_left _ hx)), ih (fun t ht' => ht t (by simp [ht'])) vs ds r (fun x hx => hp x (List.mem_append_right _ hx)) h2, rfl⟩

/-- What the row asks behind the call: true, and the arguments as they were. -/
theorem post_true {H : Type} {enc : TypeId × Value → H} {fn : Func} {s : ChangeSpec} {W W' : World} {args : Array Value} {ds : List (DataW H)} {before : List MemPlace} (hs : s.vars = []) (hr : fn.resultTypes = #[4])
    (hts : ∀ t ∈ fn.params.toList, Tryd.prog.readableRec t = true ∧ t < Tryd.prog.types.size) (hW : DataW.Whole enc Tryd.prog fn.params.toList s.vars false W args.toList ds [] before)
    (e1 : (s.fn H (ds ++ [])).results = [.lit (.bool true)]) (e2 : (s.fn H (ds ++ [])).args = ds) (e3 : (s.fn H (ds ++ [])).vars = []) (hb : Below W.heap.size W W') :
    s.post enc Tryd.prog fn false true false false W args (.bool true) W' := by
  have hlt := hW.lt
  obtain ⟨p, q, hA, hV, hpq, hfz, hnd⟩ := id hW
  rw [hs] at hV
  obtain ⟨-, rfl⟩ := trodVars_none hV
  rw [List.append_nil] at hpq
  subst hpq
  refine ⟨ds, [], before, [], before, [], hW, ?_, ?_, ?_, hb.frame _, fun h => by cases h⟩
  · rw [e1, hr]; exact trodAll_mk1 (shut_bool Tryd.underlying4 true)
  · rw [e2]; exact args_kept hb _ hts _ _ _ hlt hA
  · rw [e3, hs]; rfl

theorem light_of {H : Type} {ts : List TypeId} {ds : List (DataW H)} (h : (DataW.weightsEach Tryd.prog ts ds).all (· ≤ reachBytes) = true) {j : Nat} {t : TypeId} {d : DataW H} (ht : ts[j]? = some t) (hd : ds[j]? = some d) : Light Tryd.prog t d := fun m hm => by
  have := List.all_eq_true.1 h m (DataW.weights_mem_each ht hd m hm)
  simpa using this

/-- The contract of a law as the row wants it. -/
theorem calls_of_does {f : FuncId} {args : Array Value} {W : World} {R : Value → World → Prop} {Q : Ending → World → Prop} (h : Does Tryd.prog f args W R) (hQ : ∀ v W', R v W' → Q (.returned v) W') : Calls Tryd.prog f args W Q :=
  Calls.mono h fun _ _ ⟨v, he, hv⟩ => he ▸ hQ v _ hv
end Go.Proofs.YtinhchacppkmgaaDoor
