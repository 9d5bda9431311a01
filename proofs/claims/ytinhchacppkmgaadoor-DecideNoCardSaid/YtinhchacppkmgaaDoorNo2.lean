/-
  Contracts: And, Neg of relyguardref06; the law's 'other'.
-/
import Derived.Test.YtinhchacppkmgaaDoorFwRow
namespace Go.Fw
open Go.RowKit
theorem rdE_one {M : List Nat} {w : World} {op wd : Int} {a : E} {ca : List Value} {g : Nat} (h1 : i64 op) (h2 : i64 wd) (hg : g ∉ M) (hc : Cells w g 0 ca) (ha : RdE M w a ca) :
    RdE M w ⟨op, wd, 0, [a]⟩ [.int .i64 op, .int .i64 wd, .int .i64 0, .slice (some ⟨g, 0, none⟩) 1 1] := by
  rw [RdE]
  refine ⟨_, 1, 1, rfl, h1, h2, by unfold i64; simp, rfl, Nat.le_refl _, by unfold maxLen; omega, by omega, fun _ => ⟨g, 0, rfl, hg, fun i hi => ?_⟩⟩
  have hi1 : i < 1 := hi
  obtain rfl : i = 0 := by omega
  exact ⟨ca, by simpa using hc, ha⟩

theorem good_mono : ∀ (e : E) (d d' : Int), d ≤ d' → e.good d = true → e.good d' = true := by
  intro e
  induction e using E.induct with
  | _ e ih =>
    intro d d' hd h
    rw [E.good_def] at h ⊢
    simp only [Bool.and_eq_true, decide_eq_true_eq] at h ⊢
    exact ⟨⟨by omega, h.1.2⟩, (E.goods_iff _ _).2 fun k hk => ih k hk _ _ (by omega) ((E.goods_iff _ _).1 h.2 k hk)⟩

theorem andE_good {a b : E} {d : Int} (ha : a.good d = true) (hb : b.good d = true) (wa : a.w = 1) (wb : b.w = 1) (hd : 0 ≤ d) : (andE a b).good (d + 1) = true := by
  rw [E.good_def]
  simp only [Bool.and_eq_true, decide_eq_true_eq]
  refine ⟨⟨by omega, ?_⟩, (E.goods_iff _ _).2 fun k hk => ?_⟩
  · unfold E.shapeB; exact decide_eq_true ((Shape_5 (e := andE a b) (by simp [andE])).2 ⟨by simp [andE], by simp [andE], rfl, rfl, by simp [E.kw, andE, wa], by simp [E.kw, andE, wb]⟩)
  · rw [show d + 1 - 1 = d by omega]
    simp [andE] at hk; rcases hk with rfl | rfl
    · exact ha
    · exact hb
theorem foldl_and_good : ∀ (es : List E) (acc : E) (d : Int), 0 ≤ d → acc.good d = true → acc.w = 1 → (∀ e ∈ es, e.good d = true ∧ e.w = 1) → (es.foldl andE acc).good (d + es.length) = true ∧ (es.foldl andE acc).w = 1 := by
  intro es
  induction es with
  | nil => intro acc d _ h1 h2 _; simpa using ⟨h1, h2⟩
  | cons e es ih =>
    intro acc d hd h1 h2 h3
    obtain ⟨g1, w1⟩ := h3 e (by simp)
    have := ih (andE acc e) (d + 1) (by omega) (andE_good h1 g1 h2 w1 hd) rfl (fun x hx => ⟨good_mono x d _ (by omega) (h3 x (by simp [hx])).1, (h3 x (by simp [hx])).2⟩)
    simp only [List.foldl_cons, List.length_cons]
    rw [show d + ((es.length + 1 : Nat) : Int) = d + 1 + (es.length : Int) by omega]; exact this
theorem foldl_and_cnt : ∀ (es : List E) (acc : E), (es.foldl andE acc).cnt = acc.cnt + E.cnts es + es.length := by
  intro es
  induction es with
  | nil => intro acc; simp [E.cnts]
  | cons e es ih => intro acc; simp only [List.foldl_cons, ih, E.cnts, List.length_cons]; rw [E.cnt_def]; simp only [andE, E.cnts]; omega

theorem andAll_wf {l : List E} {d : Int} (hd : 1 ≤ d) (h : ∀ e ∈ l, e.good d = true ∧ e.w = 1) (hlen : d + l.length ≤ 40) (hc : E.cnts l + l.length ≤ 600) : (andAll l).wf = true ∧ (andAll l).w = 1 ∧ (andAll l).good 40 = true := by
  cases l with
  | nil => exact ⟨by decide, rfl, by decide⟩
  | cons e es =>
    simp only [List.length_cons, E.cnts] at hlen hc
    obtain ⟨g, w⟩ := foldl_and_good es e d (by omega) (h e (by simp)).1 (h e (by simp)).2 (fun x hx => h x (by simp [hx]))
    have hg := good_mono _ _ 40 (by omega) g
    have hcn := foldl_and_cnt es e
    refine ⟨?_, w, hg⟩
    show (es.foldl andE e).wf = true
    unfold E.wf
    rw [hg, decide_eq_true (by omega)]; rfl

/-- 'A cell has a value'. -/
def eqE (op x wd v : Int) : E := ⟨11, 1, 0, [⟨op, wd, x, []⟩, ⟨1, wd, v, []⟩]⟩
def eqsE (cells : List CellD) (op : Int) (l : List Int) (s : List Int) : List E := l.map fun x => eqE op x (wAt cells x) (s.getD x.toNat 0)
/-- What 'other' returns. -/
def otherE (cells : List CellD) (c : CondD) (p : List Int × List Int) : E := ⟨4, 1, 0, [andAll (eqsE cells 3 (c.sup 3) p.1 ++ eqsE cells 2 (c.sup 2) p.2)]⟩

theorem eqE_good {op x wd v : Int} (ho : op = 2 ∨ op = 3) (hx : 0 ≤ x ∧ x < 32) (hw : 1 ≤ wd ∧ wd ≤ 8) (hv : 0 ≤ v ∧ v < pow2 wd.toNat) : (eqE op x wd v).good 2 = true := by
  rw [E.good_def]
  simp only [Bool.and_eq_true, decide_eq_true_eq]
  refine ⟨⟨by omega, ?_⟩, (E.goods_iff _ _).2 fun k hk => ?_⟩
  · unfold E.shapeB; exact decide_eq_true ((Shape_11 (e := eqE op x wd v) (by simp [eqE])).2 ⟨rfl, rfl, rfl, rfl⟩)
  · rw [E.good_def]
    simp only [Bool.and_eq_true, decide_eq_true_eq]
    simp [eqE] at hk
    rcases hk with rfl | rfl
    · exact ⟨⟨by omega, decide_eq_true ((Shape_2 (e := ⟨op, wd, x, []⟩) ho).2 ⟨hw.1, hw.2, rfl, hx.1, hx.2⟩)⟩, by simp [E.goods]⟩
    · exact ⟨⟨by omega, decide_eq_true ((Shape_1 (e := ⟨1, wd, v, []⟩) rfl).2 ⟨hw.1, hw.2, rfl, hv.1, hv.2⟩)⟩, by simp [E.goods]⟩
theorem eqE_cnt (op x wd v : Int) : (eqE op x wd v).cnt = 3 := by simp [eqE, E.cnt, E.cnts]
theorem eqs_cnts (cells : List CellD) (op : Int) (l s : List Int) : E.cnts (eqsE cells op l s) = 3 * l.length := by
  induction l with
  | nil => simp [eqsE, E.cnts]
  | cons x xs ih => simp only [eqsE, List.map_cons, E.cnts, eqE_cnt] at *; rw [ih]; simp only [List.length_cons]; omega
end Go.Fw
namespace Go.Proofs.YtinhchacppkmgaaDoor
open Go.Fw Go.RowKit

theorem and06_fn (l : List E) (M : List Nat) (w0 : World) (vl : Value) (hL : RdL M w0 vl l) (hM : ∀ g ∈ M, g < w0.heap.size) (hel : ∀ e ∈ l, e.wf = true ∧ e.w = 1 ∧ e.op ≠ 1) (hsz : E.cnts l + l.length ≤ 600) (hfin : (andAll l).wf = true) :
    Does Tryd.prog 38 #[vl] w0 fun v w' => (∃ cs : List Value, v = .agg cs.toArray ∧ RdE M w' (andAll l) cs) ∧ Below w0.heap.size w0 w' := by
  obtain ⟨A, n, c, rfl, -⟩ := hL.open_
  have S := St.refl w0
  refine Does_enter Tryd.func38 rfl Tryd.ntmps38 rfl ?_
  refine W_seq ?_
  refine W_region ?_
  refine o_alloc S zv_25 rfl rfl ?_
  intro g2 w2 S2 X2 G2
  refine WL_nil ?_
  refine W_seq ?_
  refine W_region ?_
  first | refine o_move (v := .slice _ _ _) rfl rfl ?_ | refine o_move (by conv => lhs; whnf) rfl ?_
  have hM' : ∀ g ∈ g2 :: M, g ∈ M ∨ w0.heap.size ≤ g := by
    intro g hg; rcases List.mem_cons.1 hg with rfl | hg
    · exact .inr G2
    · exact .inl hg
  refine o_calln S2 has_59 rfl rfl (fold06_fn l (g2 :: M) _ _ ((hL.more hM').keep (S2.keep0 _)) (fun g hg => by rcases List.mem_cons.1 hg with rfl | hg; exact S2.lt 0 rfl; have := hM g hg; have := S2.size; omega) hel hsz hfin) ?_
  rintro v4 w4 ⟨c4, rfl, r4⟩ S4 X4
  obtain ⟨A4, n4, q4, rfl, -⟩ := r4.open_
  first | refine o_storeN (kk := 0) (vs := [_, _, _, _]) S4 sz_25 rfl rfl rfl rfl rfl rfl rfl ?_
  intro w1_2 S1_2 X1_2
  dsimp only [setsAt, List.set] at S1_2
  replace r4 := RdE.keep (X1_2.mono (by simp)) _ _ r4
  refine WL_nil ?_
  refine W_ret ?_
  exact ret_cell1 rfl many_25 rfl (S1_2.cells 0 rfl) rfl ⟨⟨_, rfl, RdE.more (fun g hg => .inl (by simp [hg])) _ _ r4⟩, S1_2.nil.fin⟩

theorem neg_fn (e : E) (M : List Nat) (w0 : World) (cs : List Value) (hR : RdE M w0 e cs) (hM : ∀ g ∈ M, g < w0.heap.size) (ho : e.op ≠ 4) (hw : i64 e.w) :
    Does Tryd.prog 37 #[.agg cs.toArray] w0 fun v w' => (∃ cs : List Value, v = .agg cs.toArray ∧ RdE M w' ⟨4, e.w, 0, [e]⟩ cs) ∧ Below w0.heap.size w0 w' := by
  obtain ⟨A, n, c, rfl, -⟩ := hR.open_
  have S := St.refl w0
  refine Does_enter Tryd.func37 rfl Tryd.ntmps37 rfl ?_
  refine W_seq ?_
  refine W_region ?_
  refine o_boxa S (by conv => lhs; whnf) rfl ?_
  intro g1 w1 S1 X1 G1
  refine o_alloc S1 zv_25 rfl rfl ?_
  intro g2 w2 S2 X2 G2
  refine WL_nil ?_
  refine W_seq ?_
  refine W_seq ?_
  refine W_region ?_
  refine o_fieldAddr fa_25_0 rfl rfl ?_
  refine o_load one_3 rfl (by first | exact S2.cell 0 rfl rfl | exact S2.cell 1 rfl rfl) rfl ?_
  refine o_eql rfl rfl rfl (fun h5 => ?_) (fun h5 => ?_)
  · exfalso; omega
  · refine WL_nil ?_
    refine W_else rfl ?_
    refine W_skip ?_
    refine W_seq ?_
    refine W_region ?_
    refine o_fieldAddr fa_25_1 rfl rfl ?_
    refine o_load one_3 rfl (by first | exact S2.cell 0 rfl rfl | exact S2.cell 1 rfl rfl) rfl ?_
    first | refine o_loadN many_25 rfl (S2.cells 0 rfl) rfl rfl ?_ | refine o_loadN many_25 rfl (S2.cells 1 rfl) rfl rfl ?_
    refine o_buildSlice S2 slz_23 (vs := [.agg _]) (cs := [_, _, _, _]) (by rfl) rfl rfl rfl rfl rfl rfl ?_
    intro g13 w13 S13 X13 G13
    refine o_build bld_25 (vs := [(0, .int .i64 _), (1, .int .i64 _), (3, .slice _ _ _)]) (cs := [_, _, _, _]) rfl rfl rfl rfl ?_
    first | refine o_storeN (kk := 0) (vs := [_, _, _, _]) S13 sz_25 rfl rfl rfl rfl rfl rfl rfl ?_ | refine o_storeN (kk := 1) (vs := [_, _, _, _]) S13 sz_25 rfl rfl rfl rfl rfl rfl rfl ?_ | refine o_storeN (kk := 2) (vs := [_, _, _, _]) S13 sz_25 rfl rfl rfl rfl rfl rfl rfl ?_
    intro w3_5 S3_5 X3_5
    dsimp only [setsAt, List.set] at S3_5
    refine WL_nil ?_
    refine W_ret ?_
    refine ret_cell1 rfl many_25 rfl (S3_5.cells 1 rfl) rfl ⟨⟨_, rfl, rdE_one (by decide) hw (fun hm => ?_) (S3_5.cells 0 rfl) (RdE.keep (S3_5.keep0 M) _ _ hR)⟩, S3_5.fin⟩
    have h1 := hM _ hm
    have h2 := S3_5.new 0 rfl
    simp at h2; omega
end Go.Proofs.YtinhchacppkmgaaDoor
