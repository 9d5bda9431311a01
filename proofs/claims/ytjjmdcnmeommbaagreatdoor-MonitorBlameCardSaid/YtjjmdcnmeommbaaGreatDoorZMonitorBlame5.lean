/-
  Part 5 of 9 of the proof of MonitorBlame: what it leans on. No conditions.
-/
import Derived.Test.YtjjmdcnmeommbaaGreatDoorZMonitorBlame4
set_option maxRecDepth 100000
namespace Go.Fw
open Go.RowKit
theorem NC.keepN {w w' : World} {rs : List (Nat × Obj)} (h : NC w rs) {Gs : List Nat} (k : G0a Gs w w') (hg : ∀ x ∈ rs, x.1 ∉ Gs) : NC w' rs := fun x hx => ⟨(k.same x.1 (h.lt x hx) (hg x hx)).trans (h x hx).1, (h x hx).2⟩
theorem St.other {M : List Nat} {w0 w w' : World} {L : List Ent} (S : St M w0 w L) {g : Nat} (hb : N0a [g] w w') (hg : w0.heap.size ≤ g) (hn : g ∉ p7a L) : St M w0 w' L := by
 refine ⟨⟨hb.os.trans S.below.os, hb.tape.trans S.below.tape, hb.output.trans S.below.output, Nat.le_trans S.below.size hb.size, fun k hk hm => ?_⟩, fun b hm x hx => ?_, S.apart⟩
 ·rw [hb.block k (Nat.lt_of_lt_of_le hk S.below.size) (by rw [List.mem_singleton]; omega)]
  exact S.below.block k hk hm
 ·obtain ⟨h1, h2⟩ := S.own b hm x hx
  refine ⟨h1, ?_⟩
  have hlt := h2.lt
  unfold w0a at *
  rw [hb.block x hlt (by rw [List.mem_singleton]; rintro rfl; exact hn (G2a.2 ⟨b, hm, hx⟩))]
  exact h2
theorem o6b {a b c d e t1 t2 t3 t4 t5 t6 : Nat} {c1 c2 c3 c4 c5 c6 : List Value} {G : Option Nat} : p7a ([(some a, t1, c1), (some b, t2, c2), (some c, t3, c3), (some d, t4, c4), (some e, t5, c5)] ++ [(G, t6, c6)]) = a :: b :: c :: d :: e :: G.toList := by cases G <;> rfl
section
variable {P : Program} {fn : Func} {R : Value → World → Prop} {D : List Deferred} {e : Env} {w : World}
theorem T2a {a1 t1 a2 t2 a3 t3 g1 g2 g3 : Nat} {v1 v2 v3 : Value} (h : fn.results = #[.cell a1 t1, .cell a2 t2, .cell a3 t3]) (o1 : One P t1) (o2 : One P t2) (o3 : One P t3) (e1 : e a1 = .pointer (some ⟨g1, 0, none⟩)) (e2 : e a2 = .pointer (some ⟨g2, 0, none⟩)) (e3 : e a3 = .pointer (some ⟨g3, 0, none⟩))
 (rs : List Nat) (hD : D = rs.map j9a) (hn : rs.Nodup) (hO : NC w (e2b rs)) {x1 x2 x3 : Nat} {c1 c2 c3 : List Value} (b1 : w0a w (g1, x1, c1)) (b2 : w0a w (g2, x2, c2)) (b3 : w0a w (g3, x3, c3)) (q1 : c1[0]? = some v1) (q2 : c2[0]? = some v2) (q3 : c3[0]? = some v3) (hR : ∀ w', N0a rs w w' → R (.tuple #[v1, v2, v3]) w') : K6a P fn R D e w :=
 ⟨rs, hD, hn, hO, fun w' hb _ tmps he => by
  have hk : G0a rs w w' := ⟨hb.size, hb.block⟩
  have hne : ∀ {g x : Nat} {c : List Value}, w0a w (g, x, c) → g ∉ rs := fun hb hh => hO.ne hb _ (List.mem_map.2 ⟨_, hh, rfl⟩) rfl
  have k1 := hk.cell (a := ⟨g1, 0, none⟩) (hne b1) (b1.cell q1)
  have k2 := hk.cell (a := ⟨g2, 0, none⟩) (hne b2) (b2.cell q2)
  have k3 := hk.cell (a := ⟨g3, 0, none⟩) (hne b3) (b3.cell q3)
  subst he
  simp only [W0a, Array.getD_eq_getD_getElem?] at e1 e2 e3
  have hl : ∀ (t g : Nat) (v : Value), One P t → w'.cell? ⟨g, 0, none⟩ = some v → (loadVar t ⟨g, 0, none⟩).run P w' = .ok v w' := fun t g v ho hc => by rw [ho w']; simp [load, Sem.run, hc]
  exact ⟨_, by simp [results, h, asAddr, e1, e2, e3, hl _ _ _ o1 k1, hl _ _ _ o2 k2, hl _ _ _ o3 k3], hR w' hb⟩⟩
end
abbrev U5c (M : List Nat) (w : World) (v : Value) (l : List F0a) : Prop := RdS M w 3 (F3a M w) v l
theorem F3a.keep {M : List Nat} {w w' : World} (hk : G0a M w w') : ∀ cs c, F3a M w cs c → F3a M w' cs c := fun _ _ h => J0a.keep hk h
theorem F3a.less {M M' : List Nat} {w : World} (hk : ∀ g ∈ M', g ∈ M) : ∀ cs c, F3a M w cs c → F3a M' w cs c := fun _ _ h => J0a.less hk h
def T5b (p : e0a) (m : Int) (run : List o0a) : Int := if (O1a p m run).length = run.length + 1 then 0 else 110
end Go.Fw
namespace Go.Proofs.YtjjmdcnmeommbaaGreatDoor
open Go.Fw Go.RowKit
theorem U7a {M Mx : List Nat} {w0 w w' : World} {A : List Ent} {G : Option Nat} {cs' : List Value} {v : Value} {l : List F0a} {r : Nat} (hrow : J2a F3a 3 Mx w G cs' v l) (S : St [] w0 w (A ++ [(G, 52, cs')])) (hM : ∀ g ∈ M, g < w0.heap.size) (hsub : ∀ g ∈ r :: M, g ∈ Mx) (hO : NC w (e2b [r])) (hb : N0a [r] w w') (hl : l.length ≤ 1000000) : U5c M w' v l := by
 have h1 : J2a F3a 3 (r :: M) w G cs' v l := hrow.more D0a fun g hg => .inl (.inr (hsub g hg))
 have h2 := h1.rd D0a S (k := A.length) (el := 52) (by simp) (fun g hg hm => by
  subst hg
  have hmem : (some g, 52, cs') ∈ A ++ [(some g, 52, cs')] := by simp
  have hblk := S.own _ hmem g rfl
  rcases List.mem_cons.1 hm with rfl | hm
  ·exact hO.ne hblk.2 _ (List.mem_cons_self) rfl
  ·rcases hblk.1 with h | h
   ·have := hM g hm; omega
   ·cases h) hl
 have hk : G0a (r :: M) w w' := (G0a.of_belowM hb).mono (by simp)
 exact RdS.lessW (RdS.keepW h2 hk (F3a.keep hk)) (fun g hg => List.mem_cons_of_mem _ hg) (F3a.less fun g hg => List.mem_cons_of_mem _ hg)
set_option maxHeartbeats 2000000 in
theorem p8b (p : e0a) (m : Int) (hm : m = 0 ∨ m = 1 ∨ m = 2) (run : List o0a) (M : List Nat) (w0 : World) (cs : List Value) (vr : Value) (hI : InP p M w0 cs) (hRun : C2b M w0 vr run) (hlen : run.length ≤ 120) :
 R0a Tryz.prog 17 #[.agg cs.toArray, .int .i64 m, vr] w0 fun v w' => (∃ vl, v = .tuple #[vl, .int .i64 (T5b p m run), .int .i64 (((O1a p m run).length : Int) - 1)] ∧ U5c M w' vl (O1a p m run)) ∧ Below w0.heap.size w0 w' := by
 obtain ⟨Ac, nc, cc, Am, nm, cm, Al, nl, cl, At, nt, ct, rfl, _, _, _, _, _, _, _, _, _, _, _, _⟩ := hI.rd.open_
 obtain ⟨Ar, nr, cr, rfl⟩ := hRun.form
 obtain ⟨_, -, _⟩ := hRun.len
 have hp := hI.ok
 have hM := hI.lt
 have S := St.refl w0
 have hle := g4a p m run
 refine F6a Tryz.func17 rfl Tryz.ntmps17 rfl ?_
 refine m1a ?_
 refine y0a ?_
 refine m0a S (by conv => lhs; whnf) rfl ?_
 intro g3 w3 S3 X3 G3
 refine h0a S3 U7b rfl rfl ?_
 intro g6 w6 S6 X6 G6
 refine h0a S6 b4c rfl rfl ?_
 intro g7 w7 S7 X7 G7
 refine h0a S7 d8c rfl rfl ?_
 intro g8 w8 S8 X8 G8
 refine n0a ?_
 refine m1a ?_
 refine m1a ?_
 refine y0a ?_
 refine a1a Z3a rfl (S8.cells 3 rfl) rfl rfl ?_
 refine f0a S8 O5b rfl rfl (J6a p M _ _ (hI.keep (S8.keep0 M)).rd hI.ok (hI.keep (S8.keep0 M)).msk (hI.keep (S8.keep0 M)).lt) ?_
 intro w17 S17 X17
 refine B0a (by conv => lhs; whnf) rfl ?_
 refine O2a rfl rfl rfl ?_
 refine O2a rfl rfl rfl ?_
 refine O2a rfl rfl rfl ?_
 refine O0a (v := .int .i64 _) rfl rfl ?_
 refine O0a (v := .int .i64 _) rfl rfl ?_
 refine O0a (v := .int .i64 _) rfl rfl ?_
 refine n0a ?_
 refine m1a ?_
 refine y0a ?_
 refine B0a (v := .int .i64 _) rfl rfl ?_
 refine q9a rfl rfl rfl (fun h22 => ?_) fun h22 => ?_
 ·exfalso; omega
 refine n0a ?_
 refine r3a rfl ?_
 refine p3a ?_
 refine m1a ?_
 refine m1a ?_
 refine y0a ?_
 refine B0a (v := .int .i64 _) rfl rfl ?_
 refine q9a rfl rfl rfl (fun h24 => ?_) fun h24 => ?_
 ·refine B0a (v := .bool _) rfl rfl ?_
  refine I3a rfl rfl rfl ?_
  refine B0a (v := .int .i64 _) rfl rfl ?_
  refine I3a rfl rfl rfl ?_
  refine q9a rfl rfl rfl (fun h27 => ?_) fun h27 => ?_
  ·refine a4a rfl (v := .bool _) rfl rfl ?_
   refine B0a (v := .bool _) rfl rfl ?_
   refine I3a rfl rfl rfl ?_
   refine B0a (v := .int .i64 _) rfl rfl ?_
   refine I3a rfl rfl rfl ?_
   refine q9a rfl rfl rfl (fun h31 => ?_) fun h31 => ?_
   ·exfalso; omega
   refine a4a rfl (v := .bool _) rfl rfl ?_
   refine n0a ?_
   refine r3a rfl ?_
   refine p3a ?_
   refine m1a ?_
   refine m1a ?_
   refine y0a ?_
   refine B0a (by conv => lhs; whnf) rfl ?_
   refine u9a v5a.slT rfl rfl ?_
   refine z3c rfl rfl rfl (fun h35 => ?_) fun h35 => ?_
   ·exfalso; omega
   refine n0a ?_
   refine r3a rfl ?_
   refine p3a ?_
   refine m1a ?_
   refine y0a ?_
   refine h0a S17 U7b rfl rfl ?_
   intro g12 w12 S12 X12 G12
   refine n0a ?_
   refine m1a ?_
   refine m1a ?_
   refine y0a ?_
   refine a1a Z3a rfl (S12.cells 4 rfl) rfl rfl ?_
   refine B0a (v := .int .i64 _) rfl rfl ?_
   refine B0a (by conv => lhs; whnf) rfl ?_
   have Zb := S12.size
   refine M0a S12 s8b rfl rfl (b1b _ rfl m Ar nr cr _) ?_
   rintro v39 w39 ⟨gp, gr, gm, rfl, Ggp, Ggr, Ggm, hbp, hbr, hbm⟩ S39 X39
   refine n0a ?_
   refine k5a ?_
   refine T4a (vs := fun y => #[y, _, _, _]) M7b rfl (fun _ => rfl) (fun rc wi hst hpe htm henv hps has hbo hdr hl hB hsz => ?_)
   obtain ⟨l, hl'⟩ : ∃ l, l = w39.heap.size + 1 := ⟨_, rfl⟩
   have hO1 := g5a (NC.nil (w := w39)) hdr hl hB
   rw [← hl'] at hl hO1 ⊢
   have Si := (S39.later hB).nils (R := [(none, 52, [])]) (by simp)
   have Ki : G0a [] w39 wi := G0a.of_below hB
   have Zw := S39.size
   have lgp : gp < w39.heap.size := hbp.lt
   have lgr : gr < w39.heap.size := hbr.lt
   have lgm : gm < w39.heap.size := hbm.lt
   have hlne : ∀ x ∈ [(w39.heap.size, Obj.deferred (some []))], x.1 ≠ l := fun x hx => by
    rcases List.mem_cons.1 hx with rfl | hx
    ·show w39.heap.size ≠ l; omega
    ·cases hx
   have hBmem : ∀ g ∈ g12 :: g8 :: g7 :: g6 :: g3 :: ([] : List Nat), g < w12.heap.size ∧ w0.heap.size ≤ g := fun g hg => by
    simp only [List.mem_cons, List.not_mem_nil, or_false] at hg
    rcases hg with rfl | rfl | rfl | rfl | rfl
    ·exact ⟨S12.lt 0 rfl, by simpa using S12.new 0 rfl⟩
    ·exact ⟨S12.lt 1 rfl, by simpa using S12.new 1 rfl⟩
    ·exact ⟨S12.lt 2 rfl, by simpa using S12.new 2 rfl⟩
    ·exact ⟨S12.lt 3 rfl, by simpa using S12.new 3 rfl⟩
    ·exact ⟨S12.lt 4 rfl, by simpa using S12.new 4 rfl⟩
   have hN0 : ∀ g ∈ (l :: g12 :: g8 :: g7 :: g6 :: g3 :: []) ++ (w39.heap.size :: M), g ∈ M ∨ w0.heap.size ≤ g := fun g hg => by
    rcases List.mem_append.1 hg with hg | hg
    ·rcases List.mem_cons.1 hg with rfl | hg
     ·right; omega
     ·exact .inr (hBmem g hg).2
    ·rcases List.mem_cons.1 hg with rfl | hg
     ·right; omega
     ·exact .inl hg
   have hlt0 : ∀ g ∈ (l :: g12 :: g8 :: g7 :: g6 :: g3 :: []) ++ (w39.heap.size :: M), g < wi.heap.size := fun g hg => by
    rcases List.mem_append.1 hg with hg | hg
    ·rcases List.mem_cons.1 hg with rfl | hg
     ·omega
     ·have := (hBmem g hg).1; omega
    ·rcases List.mem_cons.1 hg with rfl | hg
     ·omega
     ·have := hM g hg; omega
   have hIi : InP p ((l :: g12 :: g8 :: g7 :: g6 :: g3 :: []) ++ (w39.heap.size :: M)) wi _ := ⟨(hI.rd.more hN0).keep (Si.keep0 _), hI.ok, (hI.msk.more hN0).keep (Si.keep0 _), hlt0⟩
   have hRi : C2b ((l :: g12 :: g8 :: g7 :: g6 :: g3 :: []) ++ (w39.heap.size :: M)) wi (.slice Ar nr cr) run := (hRun.more (by omega) hN0).keep (Si.keep0 _)
   have hnB : ∀ g, w12.heap.size ≤ g → g < w39.heap.size → g ∉ (l :: g12 :: g8 :: g7 :: g6 :: g3 :: []) := fun g h1 h2 hh => by
    rcases List.mem_cons.1 hh with h | h
    ·omega
    ·have := (hBmem g h).1; omega
   refine R0a.mono (n9a p m hm run gp gr gm l (l :: g12 :: g8 :: g7 :: g6 :: g3 :: []) (w39.heap.size :: M) wi _ _ (fun g5 k Bs w => ∃ (G : Option Nat) (cs' : List Value) (v : Value), Bs = (l :: g12 :: g8 :: g7 :: g6 :: g3 :: G.toList) ∧ NC w [(l, .loop rc), (w39.heap.size, .deferred (some []))] ∧ St [] w0 w ([(some g12, 39, [v]), (some g8, 3, [.int .i64 0]), (some g7, 32, [.int .i64 0]), (some g6, 39, [.slice none 0 0]), (some g3, 27, [.slice Ac nc cc, .slice Am nm cm, .slice Al nl cl, .slice At nt ct])] ++ [(G, 52, cs')]) ∧ J2a F3a 3 (g5 :: l :: w39.heap.size :: g12 :: g8 :: g7 :: g6 :: g3 :: M) w G cs' v ((O1a p m run).take k)) (fun w => (O1a p m run).length ≤ run.length ∧ ∃ (g5 : Nat) (G : Option Nat) (cs' : List Value) (v : Value), NC w [(l, .loop { rc with state := .done, pending := some .ret }), (w39.heap.size, .deferred (some []))] ∧ St [] w0 w ([(some g12, 39, [v]), (some g8, 3, [.int .i64 (((O1a p m run).length : Int) - 1)]), (some g7, 32, [.int .i64 110]), (some g6, 39, [v]), (some g3, 27, [.slice Ac nc cc, .slice Am nm cm, .slice Al nl cl, .slice At nt ct])] ++ [(G, 52, cs')]) ∧ J2a F3a 3 (g5 :: l :: w39.heap.size :: g12 :: g8 :: g7 :: g6 :: g3 :: M) w G cs' v (O1a p m run)) hIi hRi (H1a Ki hbp) (H1a Ki hbr) (H1a Ki hbm) (hnB gp Ggp lgp) (hnB gr Ggr lgr) (hnB gm Ggm lgm) ⟨?_, ?_, ?_, fun g5 k Bs w c ys err hg5 hg5w hn5 hJ hKw hcase hY => ?_⟩) ?_
   ·intro g5 w hg5 hBw
    exact ⟨none, [], _, rfl, hO1.keep (G0a.of_below hBw), Si.later hBw, J2a.nil⟩
   ·rintro g5 k Bs w w' hg5 hn5 ⟨G, cs', v, rfl, hO, S, hrow⟩ hb
    simp only [List.mem_cons, not_or] at hn5
    refine ⟨G, cs', v, rfl, hO.keepN (G0a.of_belowM hb) (fun x hx => ?_), S.other hb (by omega) (by rw [o6b]; simp only [List.mem_cons, not_or]; exact hn5.2), hrow.keep D0a ((G0a.of_belowM hb).mono (by simp))⟩
    rw [List.mem_singleton]
    rcases List.mem_cons.1 hx with rfl | hx
    ·exact fun h => hn5.1 h.symm
    ·rcases List.mem_cons.1 hx with rfl | hx
     ·show ¬ w39.heap.size = g5; omega
     ·cases hx
   ·rintro g5 k Bs w ⟨G, cs', v, rfl, hO, S, hrow⟩ g hg
    rcases List.mem_cons.1 hg with rfl | hg
    ·exact hO.lt _ List.mem_cons_self
    ·have hb5 : g ∈ p7a ([(some g12, 39, [v]), (some g8, 3, [.int .i64 0]), (some g7, 32, [.int .i64 0]), (some g6, 39, [.slice none 0 0]), (some g3, 27, [.slice Ac nc cc, .slice Am nm cm, .slice Al nl cl, .slice At nt ct])] ++ [(G, 52, cs')]) := by rw [o6b]; exact hg
     obtain ⟨x, hx, hg⟩ := G2a.1 hb5; exact (S.own x hx g hg).2.lt
   ·obtain ⟨G, cs', v, rfl, hO3, S3, hrow3⟩ := hJ
    obtain ⟨Ym, ym', zm, Ya, ya', za, Yb, yb', zb, rfl, -⟩ := hY.open_
    have K3 := G0a.refl (l :: g12 :: g8 :: g7 :: g6 :: g3 :: G.toList) w
    refine Z0b (hO3 (l, .loop rc) (by simp)).1 hst htm henv hps has hbo rfl rfl ?_
    refine m1a ?_
    refine y0a ?_
    refine h0a S3 J4a rfl rfl ?_
    intro g13 w13 S13 X13 G13
    have GK313 := Nat.le_trans K3.size G13
    replace K3 := K3.trans (X13.of_nil)
    replace hO3 := hO3.keep X13
    refine c0a (kk := 0) (vs := [_, _, _]) S13 x2a rfl rfl rfl rfl rfl rfl rfl ?_
    intro w10_1 S10_1 X10_1
    dsimp only [k0a, List.set] at S10_1
    replace K3 := K3.fresh2 X10_1 (by exact .inl GK313)
    replace hO3 := by exact hO3.keepS X10_1 (S13.blk 0 rfl)
    refine n0a ?_
    refine y0a ?_
    refine O0a (v := .int .i64 _) rfl rfl ?_
    refine n0a ?_
    refine ⟨(hO3 (l, .loop rc) (by simp)).1, ?_⟩
    have Sb := S10_1.putObj (.loop { rc with state := .busy }) hO3 (List.mem_cons_self) (.inl (by omega))
    have hOb := hO3.put (o' := .loop { rc with state := .busy }) hlne (by simp)
    have Kb := K3.fresh2 (Y0a w10_1 l (.loop { rc with state := .busy })) (.inr (by simp))
    generalize w10_1.putObj l (.loop { rc with state := .busy }) = wb at Sb hOb Kb ⊢
    have hYb := hY.keep (Kb.mono (fun g hg => List.mem_cons_of_mem _ (List.mem_append_left _ hg)))
    have hsubB : ∀ g ∈ G.toList ++ (g5 :: l :: w39.heap.size :: g12 :: g8 :: g7 :: g6 :: g3 :: M), g ∈ g5 :: ((l :: g12 :: g8 :: g7 :: g6 :: g3 :: G.toList) ++ (w39.heap.size :: M)) := fun g hg => by
     simp only [List.mem_append, List.mem_cons] at hg ⊢
     rcases hg with h | h | h | h | h | h | h | h | h | h <;> simp [h]
    have hsubC : ∀ g ∈ (l :: g12 :: g8 :: g7 :: g6 :: g3 :: G.toList), g ∈ G.toList ++ (g5 :: l :: w39.heap.size :: g12 :: g8 :: g7 :: g6 :: g3 :: M) := fun g hg => by
     simp only [List.mem_append, List.mem_cons] at hg ⊢
     rcases hg with h | h | h | h | h | h | h <;> simp [h]
    have hrowB := hrow3.keep D0a (Kb.mono hsubC)
    have Kr := G0a.refl [] wb
    have Zb2 := Kb.size
    refine k5a ?_
    refine m1a ?_
    refine m1a ?_
    refine y0a ?_
    refine B0a (v := .int .i64 _) rfl rfl ?_
    refine q9a rfl rfl rfl (fun h43 => ?_) fun h43 => ?_
    ·refine n0a ?_
     refine u4a rfl ?_
     refine m1a ?_
     obtain ⟨herr, rfl, hle2, hc0⟩ := hcase.resolve_left (fun h => h43 h.1)
     rw [List.take_length] at hrowB
     refine Q4b b0a (by kernel_rfl) (fun f ε w => ε 6 = .pointer (some ⟨g6, 0, none⟩) ∧ ε 7 = .pointer (some ⟨g7, 0, none⟩) ∧ ε 8 = .pointer (some ⟨g8, 0, none⟩) ∧ ε 12 = .pointer (some ⟨g12, 0, none⟩) ∧ ∃ (u8 u7 u6 : Value) (c13 : List Value), St [] w0 w ([(some g13, 52, c13), (some g12, 39, [v]), (some g8, 3, [u8]), (some g7, 32, [u7]), (some g6, 39, [u6]), (some g3, 27, [.slice Ac nc cc, .slice Am nm cm, .slice Al nl cl, .slice At nt ct])] ++ [(G, 52, cs')]) ∧ NC w [(l, .loop { rc with state := .busy }), (w39.heap.size, .deferred (some []))] ∧ J2a F3a 3 (g5 :: l :: w39.heap.size :: g12 :: g8 :: g7 :: g6 :: g3 :: M) w G cs' v (O1a p m run) ∧ (f 0 = true → ε 44 = v) ∧ (f 1 = true → ε 45 = v) ∧ (f 2 = true → ε 46 = .int .i64 ((O1a p m run).length : Nat)) ∧ (f 3 = true → ε 47 = .int .i64 (((O1a p m run).length : Int) - 1)) ∧ (f 4 = true → u6 = v) ∧ (f 5 = true → u7 = .int .i64 110) ∧ (f 6 = true → u8 = .int .i64 (((O1a p m run).length : Int) - 1))) ?_ ?_ ?_
     ·exact ⟨rfl, rfl, rfl, rfl, _, _, _, _, Sb.drew, hOb.keep (o2a _ _), hrowB.keep D0a (o2a _ _), by simp, by simp, by simp, by simp, by simp, by simp, by simp⟩
     ·rintro f ε w i o ⟨e6, e7, e8, e12, u8, u7, u6, c13, S, hO, hrow, h0, h1, h2, h3, h4, h5, h6⟩ ho hfi hpr
      have hi : i < 7 := (List.getElem?_eq_some_iff.1 ho).1
      refine P0a 6 e6 (P0a 7 e7 (P0a 8 e8 (P0a 12 e12 ?_)))
      rcases (show i = 0 ∨ i = 1 ∨ i = 2 ∨ i = 3 ∨ i = 4 ∨ i = 5 ∨ i = 6 by omega) with rfl | rfl | rfl | rfl | rfl | rfl | rfl
      ·cases ho
       refine s0a Z2a rfl (S.cell 1 rfl rfl) rfl ?_
       refine n0a ⟨rfl, rfl, rfl, rfl, rfl, u8, u7, u6, c13, S, hO, hrow, fun _ => rfl, fun hh => h1 (by simpa using hh), fun hh => h2 (by simpa using hh), fun hh => h3 (by simpa using hh), fun hh => h4 (by simpa using hh), fun hh => h5 (by simpa using hh), fun hh => h6 (by simpa using hh)⟩
      ·cases ho
       refine s0a Z2a rfl (S.cell 1 rfl rfl) rfl ?_
       refine n0a ⟨rfl, rfl, rfl, rfl, rfl, u8, u7, u6, c13, S, hO, hrow, fun hh => h0 (by simpa using hh), fun _ => rfl, fun hh => h2 (by simpa using hh), fun hh => h3 (by simpa using hh), fun hh => h4 (by simpa using hh), fun hh => h5 (by simpa using hh), fun hh => h6 (by simpa using hh)⟩
      ·cases ho
       obtain ⟨Av, cv, hv⟩ := hrow.form
       refine P0a 45 ((h1 (hpr 1 (by decide))).trans hv) ?_
       refine u9a P5a.slT rfl rfl ?_
       refine n0a ⟨rfl, rfl, rfl, rfl, rfl, u8, u7, u6, c13, S, hO, hrow, fun hh => h0 (by simpa using hh), fun _ => hv.symm, fun _ => rfl, fun hh => h3 (by simpa using hh), fun hh => h4 (by simpa using hh), fun hh => h5 (by simpa using hh), fun hh => h6 (by simpa using hh)⟩
      ·cases ho
       refine P0a 46 (h2 (hpr 2 (by decide))) ?_
       refine r4c rfl rfl (by have := g4a p m run; unfold i64; omega) rfl ?_
       refine n0a ⟨rfl, rfl, rfl, rfl, rfl, u8, u7, u6, c13, S, hO, hrow, fun hh => h0 (by simpa using hh), fun hh => h1 (by simpa using hh), fun _ => rfl, fun _ => rfl, fun hh => h4 (by simpa using hh), fun hh => h5 (by simpa using hh), fun hh => h6 (by simpa using hh)⟩
      ·cases ho
       obtain ⟨Av, cv, hv⟩ := hrow.form
       subst hv
       refine P0a 44 (h0 (hpr 0 (by decide))) ?_
       refine v0a (kk := 4) S b0b rfl (by conv => lhs; whnf) rfl rfl (Nat.le_of_ble_eq_true rfl) ?_
       intro w1 S1 X1
       refine n0a ⟨rfl, rfl, rfl, rfl, rfl, u8, u7, _, c13, S1, hO.keepS X1 (S.blk 4 rfl), hrow.keep D0a (X1.mono (by simp)), fun _ => rfl, fun hh => h1 (by simpa using hh), fun hh => h2 (by simpa using hh), fun hh => h3 (by simpa using hh), fun _ => rfl, fun hh => h5 (by simpa using hh), fun hh => h6 (by simpa using hh)⟩
      ·cases ho
       refine v0a (kk := 3) S U5a rfl (by conv => lhs; whnf) rfl rfl (Nat.le_of_ble_eq_true rfl) ?_
       intro w1 S1 X1
       refine n0a ⟨rfl, rfl, rfl, rfl, rfl, u8, _, u6, c13, S1, hO.keepS X1 (S.blk 3 rfl), hrow.keep D0a (X1.mono (by simp)), fun hh => h0 (by simpa using hh), fun hh => h1 (by simpa using hh), fun hh => h2 (by simpa using hh), fun hh => h3 (by simpa using hh), fun hh => h4 (by simpa using hh), fun _ => rfl, fun hh => h6 (by simpa using hh)⟩
      ·cases ho
       refine P0a 47 (h3 (hpr 3 (by decide))) ?_
       refine v0a (kk := 2) S q7a rfl (by conv => lhs; whnf) rfl rfl (Nat.le_of_ble_eq_true rfl) ?_
       intro w1 S1 X1
       refine n0a ⟨rfl, rfl, rfl, rfl, rfl, _, u7, u6, c13, S1, hO.keepS X1 (S.blk 2 rfl), hrow.keep D0a (X1.mono (by simp)), fun hh => h0 (by simpa using hh), fun hh => h1 (by simpa using hh), fun hh => h2 (by simpa using hh), fun _ => rfl, fun hh => h4 (by simpa using hh), fun hh => h5 (by simpa using hh), fun _ => rfl⟩
     rintro f ε w ⟨e6, e7, e8, e12, u8, u7, u6, c13, S13, hO13, hrow13, h0, h1, h2, h3, h4, h5, h6⟩ hall
     obtain rfl := h4 (hall 4 (by decide))
     obtain rfl := h5 (hall 5 (by decide))
     obtain rfl := h6 (hall 6 (by decide))
     refine x5a ?_
     refine ⟨{ rc with state := .busy }, (hO13 (l, _) List.mem_cons_self).1, .inr ⟨herr, rfl, hle2, g5, G, cs', _, hO13.put (o' := .loop { rc with state := .done, pending := some .ret }) hlne (by simp), S13.tail.putObj (.loop { rc with state := .done, pending := some .ret }) hO13 (List.mem_cons_self) (.inl (by omega)), hrow13.keep D0a ((Y0a w l _).mono (by simp))⟩⟩
    refine n0a ?_
    refine r3a rfl ?_
    refine p3a ?_
    refine y0a ?_
    refine s0a Z2a rfl (by exact Sb.cell 1 rfl rfl) rfl ?_
    refine a1a j1a rfl (Sb.cells 0 rfl) rfl rfl ?_
    refine H0a Sb P5a (vs := [.agg _]) (cs := [_, _, _]) (by rfl) rfl rfl rfl rfl rfl rfl ?_
    intro g50 w50 S50 X50 G50
    replace Kr := Kr.trans X50
    replace Kb := Kb.trans (X50.of_nil)
    replace hOb := hOb.keep X50
    replace hYb := hYb.keep (X50.of_nil)
    have hc51 : (O1a p m run)[k]? = some c := by rcases hcase with h | h; exact h.2; omega
    refine G1a D0a (k := 7) (e1 := c) S50 P5a (by decide) rfl (hrowB.keep D0a Kr.of_nil) rfl rfl (S50.cells 0 rfl) (J0a.less hsubB hYb) (by rw [List.length_take]; omega) rfl ?_
    intro v51 G51 cs51 w51 S51 hrow51 X51 F51
    have Z51 := Kb.size
    obtain ⟨A51, c51, rfl⟩ := hrow51.form
    replace hOb := hOb.keepL X51 (g5b S50 7 rfl)
    replace Kb := Kb.freshL X51 (fun g hg => .inr (by simp [hg]))
    first | refine v0a (kk := 2) S51 b0b rfl (by conv => lhs; whnf) rfl rfl (by exact Nat.le_of_ble_eq_true rfl) ?_
    intro w14_4 S14_4 X14_4
    replace Kb := Kb.fresh2 X14_4 (by exact .inr (by simp))
    replace hOb := by exact hOb.keepS X14_4 (S51.blk 2 rfl)
    refine n0a ?_
    obtain ⟨herr, hc⟩ : err = 0 ∧ (O1a p m run)[k]? = some c := ⟨h43, by rcases hcase with h | h; exact h.2; omega⟩
    have hOn := hOb.put (o' := .loop rc) hlne (by simp)
    have Sn := S14_4.tail.tail.putObj (.loop rc) hOb (List.mem_cons_self) (.inl (by omega))
    have Kn := Kb.fresh2 (Y0a w14_4 l (.loop rc)) (.inr (by simp))
    have hrn := (hrow51.keep D0a (X14_4.mono (by simp))).keep D0a ((Y0a w14_4 l (.loop rc)).mono (by simp))
    refine ⟨{ rc with state := .busy }, (hOb (l, _) List.mem_cons_self).1, .inl ⟨herr, rfl, l :: g12 :: g8 :: g7 :: g6 :: g3 :: G51.toList, ?_⟩⟩
    rw [u8a hst hpe]
    refine ⟨⟨G51, cs51, _, rfl, hOn, Sn, by rw [g1a hc]; exact hrn⟩, Kn, fun g hg => ?_⟩
    simp only [List.mem_cons] at hg ⊢
    rcases hg with h | h | h | h | h | h | h
    ·simp [h]
    ·simp [h]
    ·simp [h]
    ·simp [h]
    ·simp [h]
    ·simp [h]
    ·rcases F51 g h with h | h
     ·simp [h]
     ·right; omega
   rintro v3 w3 (⟨hlen1, g5, Bs, G, cs', v, rfl, hO3, S3, hrow3⟩ | ⟨hle2, g5, G, cs', v, hO3, S3, hrow3⟩)
   rotate_left
   ·refine ⟨{ rc with state := .done, pending := some .ret }, (hO3 (l, _) List.mem_cons_self).1, by simp, .inr ⟨rfl, ?_⟩⟩
    have Sa := S3.putObj (.loop { rc with state := .exhausted, pending := some .ret }) hO3 (List.mem_cons_self) (.inl (by omega))
    have hOa := (hO3.put (o' := .loop { rc with state := .exhausted, pending := some .ret }) hlne (by simp)).tail
    have hra := hrow3.keep D0a ((Y0a w3 l (.loop { rc with state := .exhausted, pending := some .ret })).mono (by simp))
    exact T2a rfl Z2a J1a A0a rfl rfl rfl [w39.heap.size] rfl (by simp) hOa (Sa.blk 3 rfl) (Sa.blk 2 rfl) (Sa.blk 1 rfl) rfl rfl rfl (fun w' hb => ⟨⟨v, by unfold T5b; rw [if_neg (by omega)], U7a (A := [_, _, _, _, _]) hra Sa hM (fun g hg => by rcases List.mem_cons.1 hg with h | h <;> simp [h]) hOa hb (by omega)⟩, (N0a.step Sa.below hb (by simp; omega)).nil⟩)
   refine ⟨rc, (hO3 (l, .loop rc) (by simp)).1, by rw [hst]; simp, .inl ⟨hpe, ?_⟩⟩
   have Sa := S3.putObj (.loop { rc with state := .exhausted }) hO3 (List.mem_cons_self) (.inl (by omega))
   have hOa := (hO3.put (o' := .loop { rc with state := .exhausted }) hlne (by simp)).tail
   have hra := hrow3.keep D0a ((Y0a w3 l (.loop { rc with state := .exhausted })).mono (by simp))
   rw [List.take_length] at hra
   generalize w3.putObj l (.loop { rc with state := .exhausted }) = wa at Sa hOa hra ⊢
   obtain ⟨Av, cv, rfl⟩ := hra.form
   refine m1a ?_
   refine y0a ?_
   refine s0a Z2a rfl (by exact Sa.cell 0 rfl rfl) rfl ?_
   refine B0a (by conv => lhs; whnf) rfl ?_
   refine u9a v5a.slT rfl rfl ?_
   first | refine v0a (kk := 3) Sa b0b rfl (by conv => lhs; whnf) rfl rfl (by exact Nat.le_of_ble_eq_true rfl) ?_
   intro w15_3 S15_3 X15_3
   replace hOa := by exact hOa.keepS X15_3 (Sa.blk 3 rfl)
   first | refine v0a (kk := 2) S15_3 U5a rfl (by conv => lhs; whnf) rfl rfl (by exact Nat.le_of_ble_eq_true rfl) ?_
   intro w15_4 S15_4 X15_4
   replace hOa := by exact hOa.keepS X15_4 (S15_3.blk 2 rfl)
   first | refine v0a (kk := 1) S15_4 q7a rfl (by conv => lhs; whnf) rfl rfl (by exact Nat.le_of_ble_eq_true rfl) ?_
   intro w15_5 S15_5 X15_5
   replace hOa := by exact hOa.keepS X15_5 (S15_4.blk 1 rfl)
   refine n0a ?_
   refine x5a ?_
   have hrz := ((hra.keep D0a (X15_3.mono (by simp))).keep D0a (X15_4.mono (by simp))).keep D0a (X15_5.mono (by simp))
   refine T2a rfl Z2a J1a A0a rfl rfl rfl [w39.heap.size] rfl (by simp) hOa (S15_5.blk 3 rfl) (S15_5.blk 2 rfl) (S15_5.blk 1 rfl) rfl rfl rfl (fun w' hb => ⟨⟨_, ?_, U7a (A := [_, _, _, _, _]) hrz S15_5 hM (fun g hg => by rcases List.mem_cons.1 hg with h | h <;> simp [h]) hOa hb (by omega)⟩, (N0a.step S15_5.below hb (by simp; omega)).nil⟩)
   unfold T5b
   rw [if_pos hlen1, show ((O1a p m run).length : Int) - 1 = (nr : Int) by omega]
  refine a4a rfl (v := .bool _) rfl rfl ?_
  refine B0a (v := .bool _) rfl rfl ?_
  refine o3a rfl rfl rfl rfl ?_
  refine o3a rfl rfl rfl rfl ?_
  refine a4a rfl (v := .bool _) rfl rfl ?_
  refine n0a ?_
  refine r3a rfl ?_
  refine p3a ?_
  refine m1a ?_
  refine m1a ?_
  refine y0a ?_
  refine B0a (by conv => lhs; whnf) rfl ?_
  refine u9a v5a.slT rfl rfl ?_
  refine z3c rfl rfl rfl (fun h35 => ?_) fun h35 => ?_
  ·exfalso; omega
  refine n0a ?_
  refine r3a rfl ?_
  refine p3a ?_
  refine m1a ?_
  refine y0a ?_
  refine h0a S17 U7b rfl rfl ?_
  intro g12 w12 S12 X12 G12
  refine n0a ?_
  refine m1a ?_
  refine m1a ?_
  refine y0a ?_
  refine a1a Z3a rfl (S12.cells 4 rfl) rfl rfl ?_
  refine B0a (v := .int .i64 _) rfl rfl ?_
  refine B0a (by conv => lhs; whnf) rfl ?_
  have Zb := S12.size
  refine M0a S12 s8b rfl rfl (b1b _ rfl m Ar nr cr _) ?_
  rintro v39 w39 ⟨gp, gr, gm, rfl, Ggp, Ggr, Ggm, hbp, hbr, hbm⟩ S39 X39
  refine n0a ?_
  refine k5a ?_
  refine T4a (vs := fun y => #[y, _, _, _]) M7b rfl (fun _ => rfl) (fun rc wi hst hpe htm henv hps has hbo hdr hl hB hsz => ?_)
  obtain ⟨l, hl'⟩ : ∃ l, l = w39.heap.size + 1 := ⟨_, rfl⟩
  have hO1 := g5a (NC.nil (w := w39)) hdr hl hB
  rw [← hl'] at hl hO1 ⊢
  have Si := (S39.later hB).nils (R := [(none, 52, [])]) (by simp)
  have Ki : G0a [] w39 wi := G0a.of_below hB
  have Zw := S39.size
  have lgp : gp < w39.heap.size := hbp.lt
  have lgr : gr < w39.heap.size := hbr.lt
  have lgm : gm < w39.heap.size := hbm.lt
  have hlne : ∀ x ∈ [(w39.heap.size, Obj.deferred (some []))], x.1 ≠ l := fun x hx => by
   rcases List.mem_cons.1 hx with rfl | hx
   ·show w39.heap.size ≠ l; omega
   ·cases hx
  have hBmem : ∀ g ∈ g12 :: g8 :: g7 :: g6 :: g3 :: ([] : List Nat), g < w12.heap.size ∧ w0.heap.size ≤ g := fun g hg => by
   simp only [List.mem_cons, List.not_mem_nil, or_false] at hg
   rcases hg with rfl | rfl | rfl | rfl | rfl
   ·exact ⟨S12.lt 0 rfl, by simpa using S12.new 0 rfl⟩
   ·exact ⟨S12.lt 1 rfl, by simpa using S12.new 1 rfl⟩
   ·exact ⟨S12.lt 2 rfl, by simpa using S12.new 2 rfl⟩
   ·exact ⟨S12.lt 3 rfl, by simpa using S12.new 3 rfl⟩
   ·exact ⟨S12.lt 4 rfl, by simpa using S12.new 4 rfl⟩
  have hN0 : ∀ g ∈ (l :: g12 :: g8 :: g7 :: g6 :: g3 :: []) ++ (w39.heap.size :: M), g ∈ M ∨ w0.heap.size ≤ g := fun g hg => by
   rcases List.mem_append.1 hg with hg | hg
   ·rcases List.mem_cons.1 hg with rfl | hg
    ·right; omega
    ·exact .inr (hBmem g hg).2
   ·rcases List.mem_cons.1 hg with rfl | hg
    ·right; omega
    ·exact .inl hg
  have hlt0 : ∀ g ∈ (l :: g12 :: g8 :: g7 :: g6 :: g3 :: []) ++ (w39.heap.size :: M), g < wi.heap.size := fun g hg => by
   rcases List.mem_append.1 hg with hg | hg
   ·rcases List.mem_cons.1 hg with rfl | hg
    ·omega
    ·have := (hBmem g hg).1; omega
   ·rcases List.mem_cons.1 hg with rfl | hg
    ·omega
    ·have := hM g hg; omega
  have hIi : InP p ((l :: g12 :: g8 :: g7 :: g6 :: g3 :: []) ++ (w39.heap.size :: M)) wi _ := ⟨(hI.rd.more hN0).keep (Si.keep0 _), hI.ok, (hI.msk.more hN0).keep (Si.keep0 _), hlt0⟩
  have hRi : C2b ((l :: g12 :: g8 :: g7 :: g6 :: g3 :: []) ++ (w39.heap.size :: M)) wi (.slice Ar nr cr) run := (hRun.more (by omega) hN0).keep (Si.keep0 _)
  have hnB : ∀ g, w12.heap.size ≤ g → g < w39.heap.size → g ∉ (l :: g12 :: g8 :: g7 :: g6 :: g3 :: []) := fun g h1 h2 hh => by
   rcases List.mem_cons.1 hh with h | h
   ·omega
   ·have := (hBmem g h).1; omega
  refine R0a.mono (n9a p m hm run gp gr gm l (l :: g12 :: g8 :: g7 :: g6 :: g3 :: []) (w39.heap.size :: M) wi _ _ (fun g5 k Bs w => ∃ (G : Option Nat) (cs' : List Value) (v : Value), Bs = (l :: g12 :: g8 :: g7 :: g6 :: g3 :: G.toList) ∧ NC w [(l, .loop rc), (w39.heap.size, .deferred (some []))] ∧ St [] w0 w ([(some g12, 39, [v]), (some g8, 3, [.int .i64 0]), (some g7, 32, [.int .i64 0]), (some g6, 39, [.slice none 0 0]), (some g3, 27, [.slice Ac nc cc, .slice Am nm cm, .slice Al nl cl, .slice At nt ct])] ++ [(G, 52, cs')]) ∧ J2a F3a 3 (g5 :: l :: w39.heap.size :: g12 :: g8 :: g7 :: g6 :: g3 :: M) w G cs' v ((O1a p m run).take k)) (fun w => (O1a p m run).length ≤ run.length ∧ ∃ (g5 : Nat) (G : Option Nat) (cs' : List Value) (v : Value), NC w [(l, .loop { rc with state := .done, pending := some .ret }), (w39.heap.size, .deferred (some []))] ∧ St [] w0 w ([(some g12, 39, [v]), (some g8, 3, [.int .i64 (((O1a p m run).length : Int) - 1)]), (some g7, 32, [.int .i64 110]), (some g6, 39, [v]), (some g3, 27, [.slice Ac nc cc, .slice Am nm cm, .slice Al nl cl, .slice At nt ct])] ++ [(G, 52, cs')]) ∧ J2a F3a 3 (g5 :: l :: w39.heap.size :: g12 :: g8 :: g7 :: g6 :: g3 :: M) w G cs' v (O1a p m run)) hIi hRi (H1a Ki hbp) (H1a Ki hbr) (H1a Ki hbm) (hnB gp Ggp lgp) (hnB gr Ggr lgr) (hnB gm Ggm lgm) ⟨?_, ?_, ?_, fun g5 k Bs w c ys err hg5 hg5w hn5 hJ hKw hcase hY => ?_⟩) ?_
  ·intro g5 w hg5 hBw
   exact ⟨none, [], _, rfl, hO1.keep (G0a.of_below hBw), Si.later hBw, J2a.nil⟩
  ·rintro g5 k Bs w w' hg5 hn5 ⟨G, cs', v, rfl, hO, S, hrow⟩ hb
   simp only [List.mem_cons, not_or] at hn5
   refine ⟨G, cs', v, rfl, hO.keepN (G0a.of_belowM hb) (fun x hx => ?_), S.other hb (by omega) (by rw [o6b]; simp only [List.mem_cons, not_or]; exact hn5.2), hrow.keep D0a ((G0a.of_belowM hb).mono (by simp))⟩
   rw [List.mem_singleton]
   rcases List.mem_cons.1 hx with rfl | hx
   ·exact fun h => hn5.1 h.symm
   ·rcases List.mem_cons.1 hx with rfl | hx
    ·show ¬ w39.heap.size = g5; omega
    ·cases hx
  ·rintro g5 k Bs w ⟨G, cs', v, rfl, hO, S, hrow⟩ g hg
   rcases List.mem_cons.1 hg with rfl | hg
   ·exact hO.lt _ List.mem_cons_self
   ·have hb5 : g ∈ p7a ([(some g12, 39, [v]), (some g8, 3, [.int .i64 0]), (some g7, 32, [.int .i64 0]), (some g6, 39, [.slice none 0 0]), (some g3, 27, [.slice Ac nc cc, .slice Am nm cm, .slice Al nl cl, .slice At nt ct])] ++ [(G, 52, cs')]) := by rw [o6b]; exact hg
    obtain ⟨x, hx, hg⟩ := G2a.1 hb5; exact (S.own x hx g hg).2.lt
  ·obtain ⟨G, cs', v, rfl, hO3, S3, hrow3⟩ := hJ
   obtain ⟨Ym, ym', zm, Ya, ya', za, Yb, yb', zb, rfl, -⟩ := hY.open_
   have K3 := G0a.refl (l :: g12 :: g8 :: g7 :: g6 :: g3 :: G.toList) w
   refine Z0b (hO3 (l, .loop rc) (by simp)).1 hst htm henv hps has hbo rfl rfl ?_
   refine m1a ?_
   refine y0a ?_
   refine h0a S3 J4a rfl rfl ?_
   intro g13 w13 S13 X13 G13
   have GK313 := Nat.le_trans K3.size G13
   replace K3 := K3.trans (X13.of_nil)
   replace hO3 := hO3.keep X13
   refine c0a (kk := 0) (vs := [_, _, _]) S13 x2a rfl rfl rfl rfl rfl rfl rfl ?_
   intro w10_1 S10_1 X10_1
   dsimp only [k0a, List.set] at S10_1
   replace K3 := K3.fresh2 X10_1 (by exact .inl GK313)
   replace hO3 := by exact hO3.keepS X10_1 (S13.blk 0 rfl)
   refine n0a ?_
   refine y0a ?_
   refine O0a (v := .int .i64 _) rfl rfl ?_
   refine n0a ?_
   refine ⟨(hO3 (l, .loop rc) (by simp)).1, ?_⟩
   have Sb := S10_1.putObj (.loop { rc with state := .busy }) hO3 (List.mem_cons_self) (.inl (by omega))
   have hOb := hO3.put (o' := .loop { rc with state := .busy }) hlne (by simp)
   have Kb := K3.fresh2 (Y0a w10_1 l (.loop { rc with state := .busy })) (.inr (by simp))
   generalize w10_1.putObj l (.loop { rc with state := .busy }) = wb at Sb hOb Kb ⊢
   have hYb := hY.keep (Kb.mono (fun g hg => List.mem_cons_of_mem _ (List.mem_append_left _ hg)))
   have hsubB : ∀ g ∈ G.toList ++ (g5 :: l :: w39.heap.size :: g12 :: g8 :: g7 :: g6 :: g3 :: M), g ∈ g5 :: ((l :: g12 :: g8 :: g7 :: g6 :: g3 :: G.toList) ++ (w39.heap.size :: M)) := fun g hg => by
    simp only [List.mem_append, List.mem_cons] at hg ⊢
    rcases hg with h | h | h | h | h | h | h | h | h | h <;> simp [h]
   have hsubC : ∀ g ∈ (l :: g12 :: g8 :: g7 :: g6 :: g3 :: G.toList), g ∈ G.toList ++ (g5 :: l :: w39.heap.size :: g12 :: g8 :: g7 :: g6 :: g3 :: M) := fun g hg => by
    simp only [List.mem_append, List.mem_cons] at hg ⊢
    rcases hg with h | h | h | h | h | h | h <;> simp [h]
   have hrowB := hrow3.keep D0a (Kb.mono hsubC)
   have Kr := G0a.refl [] wb
   have Zb2 := Kb.size
   refine k5a ?_
   refine m1a ?_
   refine m1a ?_
   refine y0a ?_
   refine B0a (v := .int .i64 _) rfl rfl ?_
   refine q9a rfl rfl rfl (fun h43 => ?_) fun h43 => ?_
   ·refine n0a ?_
    refine u4a rfl ?_
    refine m1a ?_
    obtain ⟨herr, rfl, hle2, hc0⟩ := hcase.resolve_left (fun h => h43 h.1)
    rw [List.take_length] at hrowB
    refine Q4b b0a (by kernel_rfl) (fun f ε w => ε 6 = .pointer (some ⟨g6, 0, none⟩) ∧ ε 7 = .pointer (some ⟨g7, 0, none⟩) ∧ ε 8 = .pointer (some ⟨g8, 0, none⟩) ∧ ε 12 = .pointer (some ⟨g12, 0, none⟩) ∧ ∃ (u8 u7 u6 : Value) (c13 : List Value), St [] w0 w ([(some g13, 52, c13), (some g12, 39, [v]), (some g8, 3, [u8]), (some g7, 32, [u7]), (some g6, 39, [u6]), (some g3, 27, [.slice Ac nc cc, .slice Am nm cm, .slice Al nl cl, .slice At nt ct])] ++ [(G, 52, cs')]) ∧ NC w [(l, .loop { rc with state := .busy }), (w39.heap.size, .deferred (some []))] ∧ J2a F3a 3 (g5 :: l :: w39.heap.size :: g12 :: g8 :: g7 :: g6 :: g3 :: M) w G cs' v (O1a p m run) ∧ (f 0 = true → ε 44 = v) ∧ (f 1 = true → ε 45 = v) ∧ (f 2 = true → ε 46 = .int .i64 ((O1a p m run).length : Nat)) ∧ (f 3 = true → ε 47 = .int .i64 (((O1a p m run).length : Int) - 1)) ∧ (f 4 = true → u6 = v) ∧ (f 5 = true → u7 = .int .i64 110) ∧ (f 6 = true → u8 = .int .i64 (((O1a p m run).length : Int) - 1))) ?_ ?_ ?_
    ·exact ⟨rfl, rfl, rfl, rfl, _, _, _, _, Sb.drew, hOb.keep (o2a _ _), hrowB.keep D0a (o2a _ _), by simp, by simp, by simp, by simp, by simp, by simp, by simp⟩
    ·rintro f ε w i o ⟨e6, e7, e8, e12, u8, u7, u6, c13, S, hO, hrow, h0, h1, h2, h3, h4, h5, h6⟩ ho hfi hpr
     have hi : i < 7 := (List.getElem?_eq_some_iff.1 ho).1
     refine P0a 6 e6 (P0a 7 e7 (P0a 8 e8 (P0a 12 e12 ?_)))
     rcases (show i = 0 ∨ i = 1 ∨ i = 2 ∨ i = 3 ∨ i = 4 ∨ i = 5 ∨ i = 6 by omega) with rfl | rfl | rfl | rfl | rfl | rfl | rfl
     ·cases ho
      refine s0a Z2a rfl (S.cell 1 rfl rfl) rfl ?_
      refine n0a ⟨rfl, rfl, rfl, rfl, rfl, u8, u7, u6, c13, S, hO, hrow, fun _ => rfl, fun hh => h1 (by simpa using hh), fun hh => h2 (by simpa using hh), fun hh => h3 (by simpa using hh), fun hh => h4 (by simpa using hh), fun hh => h5 (by simpa using hh), fun hh => h6 (by simpa using hh)⟩
     ·cases ho
      refine s0a Z2a rfl (S.cell 1 rfl rfl) rfl ?_
      refine n0a ⟨rfl, rfl, rfl, rfl, rfl, u8, u7, u6, c13, S, hO, hrow, fun hh => h0 (by simpa using hh), fun _ => rfl, fun hh => h2 (by simpa using hh), fun hh => h3 (by simpa using hh), fun hh => h4 (by simpa using hh), fun hh => h5 (by simpa using hh), fun hh => h6 (by simpa using hh)⟩
     ·cases ho
      obtain ⟨Av, cv, hv⟩ := hrow.form
      refine P0a 45 ((h1 (hpr 1 (by decide))).trans hv) ?_
      refine u9a P5a.slT rfl rfl ?_
      refine n0a ⟨rfl, rfl, rfl, rfl, rfl, u8, u7, u6, c13, S, hO, hrow, fun hh => h0 (by simpa using hh), fun _ => hv.symm, fun _ => rfl, fun hh => h3 (by simpa using hh), fun hh => h4 (by simpa using hh), fun hh => h5 (by simpa using hh), fun hh => h6 (by simpa using hh)⟩
     ·cases ho
      refine P0a 46 (h2 (hpr 2 (by decide))) ?_
      refine r4c rfl rfl (by have := g4a p m run; unfold i64; omega) rfl ?_
      refine n0a ⟨rfl, rfl, rfl, rfl, rfl, u8, u7, u6, c13, S, hO, hrow, fun hh => h0 (by simpa using hh), fun hh => h1 (by simpa using hh), fun _ => rfl, fun _ => rfl, fun hh => h4 (by simpa using hh), fun hh => h5 (by simpa using hh), fun hh => h6 (by simpa using hh)⟩
     ·cases ho
      obtain ⟨Av, cv, hv⟩ := hrow.form
      subst hv
      refine P0a 44 (h0 (hpr 0 (by decide))) ?_
      refine v0a (kk := 4) S b0b rfl (by conv => lhs; whnf) rfl rfl (Nat.le_of_ble_eq_true rfl) ?_
      intro w1 S1 X1
      refine n0a ⟨rfl, rfl, rfl, rfl, rfl, u8, u7, _, c13, S1, hO.keepS X1 (S.blk 4 rfl), hrow.keep D0a (X1.mono (by simp)), fun _ => rfl, fun hh => h1 (by simpa using hh), fun hh => h2 (by simpa using hh), fun hh => h3 (by simpa using hh), fun _ => rfl, fun hh => h5 (by simpa using hh), fun hh => h6 (by simpa using hh)⟩
     ·cases ho
      refine v0a (kk := 3) S U5a rfl (by conv => lhs; whnf) rfl rfl (Nat.le_of_ble_eq_true rfl) ?_
      intro w1 S1 X1
      refine n0a ⟨rfl, rfl, rfl, rfl, rfl, u8, _, u6, c13, S1, hO.keepS X1 (S.blk 3 rfl), hrow.keep D0a (X1.mono (by simp)), fun hh => h0 (by simpa using hh), fun hh => h1 (by simpa using hh), fun hh => h2 (by simpa using hh), fun hh => h3 (by simpa using hh), fun hh => h4 (by simpa using hh), fun _ => rfl, fun hh => h6 (by simpa using hh)⟩
     ·cases ho
      refine P0a 47 (h3 (hpr 3 (by decide))) ?_
      refine v0a (kk := 2) S q7a rfl (by conv => lhs; whnf) rfl rfl (Nat.le_of_ble_eq_true rfl) ?_
      intro w1 S1 X1
      refine n0a ⟨rfl, rfl, rfl, rfl, rfl, _, u7, u6, c13, S1, hO.keepS X1 (S.blk 2 rfl), hrow.keep D0a (X1.mono (by simp)), fun hh => h0 (by simpa using hh), fun hh => h1 (by simpa using hh), fun hh => h2 (by simpa using hh), fun _ => rfl, fun hh => h4 (by simpa using hh), fun hh => h5 (by simpa using hh), fun _ => rfl⟩
    rintro f ε w ⟨e6, e7, e8, e12, u8, u7, u6, c13, S13, hO13, hrow13, h0, h1, h2, h3, h4, h5, h6⟩ hall
    obtain rfl := h4 (hall 4 (by decide))
    obtain rfl := h5 (hall 5 (by decide))
    obtain rfl := h6 (hall 6 (by decide))
    refine x5a ?_
    refine ⟨{ rc with state := .busy }, (hO13 (l, _) List.mem_cons_self).1, .inr ⟨herr, rfl, hle2, g5, G, cs', _, hO13.put (o' := .loop { rc with state := .done, pending := some .ret }) hlne (by simp), S13.tail.putObj (.loop { rc with state := .done, pending := some .ret }) hO13 (List.mem_cons_self) (.inl (by omega)), hrow13.keep D0a ((Y0a w l _).mono (by simp))⟩⟩
   refine n0a ?_
   refine r3a rfl ?_
   refine p3a ?_
   refine y0a ?_
   refine s0a Z2a rfl (by exact Sb.cell 1 rfl rfl) rfl ?_
   refine a1a j1a rfl (Sb.cells 0 rfl) rfl rfl ?_
   refine H0a Sb P5a (vs := [.agg _]) (cs := [_, _, _]) (by rfl) rfl rfl rfl rfl rfl rfl ?_
   intro g50 w50 S50 X50 G50
   replace Kr := Kr.trans X50
   replace Kb := Kb.trans (X50.of_nil)
   replace hOb := hOb.keep X50
   replace hYb := hYb.keep (X50.of_nil)
   have hc51 : (O1a p m run)[k]? = some c := by rcases hcase with h | h; exact h.2; omega
   refine G1a D0a (k := 7) (e1 := c) S50 P5a (by decide) rfl (hrowB.keep D0a Kr.of_nil) rfl rfl (S50.cells 0 rfl) (J0a.less hsubB hYb) (by rw [List.length_take]; omega) rfl ?_
   intro v51 G51 cs51 w51 S51 hrow51 X51 F51
   have Z51 := Kb.size
   obtain ⟨A51, c51, rfl⟩ := hrow51.form
   replace hOb := hOb.keepL X51 (g5b S50 7 rfl)
   replace Kb := Kb.freshL X51 (fun g hg => .inr (by simp [hg]))
   first | refine v0a (kk := 2) S51 b0b rfl (by conv => lhs; whnf) rfl rfl (by exact Nat.le_of_ble_eq_true rfl) ?_
   intro w14_4 S14_4 X14_4
   replace Kb := Kb.fresh2 X14_4 (by exact .inr (by simp))
   replace hOb := by exact hOb.keepS X14_4 (S51.blk 2 rfl)
   refine n0a ?_
   obtain ⟨herr, hc⟩ : err = 0 ∧ (O1a p m run)[k]? = some c := ⟨h43, by rcases hcase with h | h; exact h.2; omega⟩
   have hOn := hOb.put (o' := .loop rc) hlne (by simp)
   have Sn := S14_4.tail.tail.putObj (.loop rc) hOb (List.mem_cons_self) (.inl (by omega))
   have Kn := Kb.fresh2 (Y0a w14_4 l (.loop rc)) (.inr (by simp))
   have hrn := (hrow51.keep D0a (X14_4.mono (by simp))).keep D0a ((Y0a w14_4 l (.loop rc)).mono (by simp))
   refine ⟨{ rc with state := .busy }, (hOb (l, _) List.mem_cons_self).1, .inl ⟨herr, rfl, l :: g12 :: g8 :: g7 :: g6 :: g3 :: G51.toList, ?_⟩⟩
   rw [u8a hst hpe]
   refine ⟨⟨G51, cs51, _, rfl, hOn, Sn, by rw [g1a hc]; exact hrn⟩, Kn, fun g hg => ?_⟩
   simp only [List.mem_cons] at hg ⊢
   rcases hg with h | h | h | h | h | h | h
   ·simp [h]
   ·simp [h]
   ·simp [h]
   ·simp [h]
   ·simp [h]
   ·simp [h]
   ·rcases F51 g h with h | h
    ·simp [h]
    ·right; omega
  rintro v3 w3 (⟨hlen1, g5, Bs, G, cs', v, rfl, hO3, S3, hrow3⟩ | ⟨hle2, g5, G, cs', v, hO3, S3, hrow3⟩)
  rotate_left
  ·refine ⟨{ rc with state := .done, pending := some .ret }, (hO3 (l, _) List.mem_cons_self).1, by simp, .inr ⟨rfl, ?_⟩⟩
   have Sa := S3.putObj (.loop { rc with state := .exhausted, pending := some .ret }) hO3 (List.mem_cons_self) (.inl (by omega))
   have hOa := (hO3.put (o' := .loop { rc with state := .exhausted, pending := some .ret }) hlne (by simp)).tail
   have hra := hrow3.keep D0a ((Y0a w3 l (.loop { rc with state := .exhausted, pending := some .ret })).mono (by simp))
   exact T2a rfl Z2a J1a A0a rfl rfl rfl [w39.heap.size] rfl (by simp) hOa (Sa.blk 3 rfl) (Sa.blk 2 rfl) (Sa.blk 1 rfl) rfl rfl rfl (fun w' hb => ⟨⟨v, by unfold T5b; rw [if_neg (by omega)], U7a (A := [_, _, _, _, _]) hra Sa hM (fun g hg => by rcases List.mem_cons.1 hg with h | h <;> simp [h]) hOa hb (by omega)⟩, (N0a.step Sa.below hb (by simp; omega)).nil⟩)
  refine ⟨rc, (hO3 (l, .loop rc) (by simp)).1, by rw [hst]; simp, .inl ⟨hpe, ?_⟩⟩
  have Sa := S3.putObj (.loop { rc with state := .exhausted }) hO3 (List.mem_cons_self) (.inl (by omega))
  have hOa := (hO3.put (o' := .loop { rc with state := .exhausted }) hlne (by simp)).tail
  have hra := hrow3.keep D0a ((Y0a w3 l (.loop { rc with state := .exhausted })).mono (by simp))
  rw [List.take_length] at hra
  generalize w3.putObj l (.loop { rc with state := .exhausted }) = wa at Sa hOa hra ⊢
  obtain ⟨Av, cv, rfl⟩ := hra.form
  refine m1a ?_
  refine y0a ?_
  refine s0a Z2a rfl (by exact Sa.cell 0 rfl rfl) rfl ?_
  refine B0a (by conv => lhs; whnf) rfl ?_
  refine u9a v5a.slT rfl rfl ?_
  first | refine v0a (kk := 3) Sa b0b rfl (by conv => lhs; whnf) rfl rfl (by exact Nat.le_of_ble_eq_true rfl) ?_
  intro w15_3 S15_3 X15_3
  replace hOa := by exact hOa.keepS X15_3 (Sa.blk 3 rfl)
  first | refine v0a (kk := 2) S15_3 U5a rfl (by conv => lhs; whnf) rfl rfl (by exact Nat.le_of_ble_eq_true rfl) ?_
  intro w15_4 S15_4 X15_4
  replace hOa := by exact hOa.keepS X15_4 (S15_3.blk 2 rfl)
  first | refine v0a (kk := 1) S15_4 q7a rfl (by conv => lhs; whnf) rfl rfl (by exact Nat.le_of_ble_eq_true rfl) ?_
  intro w15_5 S15_5 X15_5
  replace hOa := by exact hOa.keepS X15_5 (S15_4.blk 1 rfl)
  refine n0a ?_
  refine x5a ?_
  have hrz := ((hra.keep D0a (X15_3.mono (by simp))).keep D0a (X15_4.mono (by simp))).keep D0a (X15_5.mono (by simp))
  refine T2a rfl Z2a J1a A0a rfl rfl rfl [w39.heap.size] rfl (by simp) hOa (S15_5.blk 3 rfl) (S15_5.blk 2 rfl) (S15_5.blk 1 rfl) rfl rfl rfl (fun w' hb => ⟨⟨_, ?_, U7a (A := [_, _, _, _, _]) hrz S15_5 hM (fun g hg => by rcases List.mem_cons.1 hg with h | h <;> simp [h]) hOa hb (by omega)⟩, (N0a.step S15_5.below hb (by simp; omega)).nil⟩)
  unfold T5b
  rw [if_pos hlen1, show ((O1a p m run).length : Int) - 1 = (nr : Int) by omega]
 refine B0a (v := .bool _) rfl rfl ?_
 refine o3a rfl rfl rfl rfl ?_
 refine o3a rfl rfl rfl rfl ?_
 refine a4a rfl (v := .bool _) rfl rfl ?_
 refine B0a (v := .bool _) rfl rfl ?_
 refine o3a rfl rfl rfl rfl ?_
 refine o3a rfl rfl rfl rfl ?_
 refine a4a rfl (v := .bool _) rfl rfl ?_
 refine n0a ?_
 refine r3a rfl ?_
 refine p3a ?_
 refine m1a ?_
 refine m1a ?_
 refine y0a ?_
 refine B0a (by conv => lhs; whnf) rfl ?_
 refine u9a v5a.slT rfl rfl ?_
 refine z3c rfl rfl rfl (fun h35 => ?_) fun h35 => ?_
 ·exfalso; omega
 refine n0a ?_
 refine r3a rfl ?_
 refine p3a ?_
 refine m1a ?_
 refine y0a ?_
 refine h0a S17 U7b rfl rfl ?_
 intro g12 w12 S12 X12 G12
 refine n0a ?_
 refine m1a ?_
 refine m1a ?_
 refine y0a ?_
 refine a1a Z3a rfl (S12.cells 4 rfl) rfl rfl ?_
 refine B0a (v := .int .i64 _) rfl rfl ?_
 refine B0a (by conv => lhs; whnf) rfl ?_
 have Zb := S12.size
 refine M0a S12 s8b rfl rfl (b1b _ rfl m Ar nr cr _) ?_
 rintro v39 w39 ⟨gp, gr, gm, rfl, Ggp, Ggr, Ggm, hbp, hbr, hbm⟩ S39 X39
 refine n0a ?_
 refine k5a ?_
 refine T4a (vs := fun y => #[y, _, _, _]) M7b rfl (fun _ => rfl) (fun rc wi hst hpe htm henv hps has hbo hdr hl hB hsz => ?_)
 obtain ⟨l, hl'⟩ : ∃ l, l = w39.heap.size + 1 := ⟨_, rfl⟩
 have hO1 := g5a (NC.nil (w := w39)) hdr hl hB
 rw [← hl'] at hl hO1 ⊢
 have Si := (S39.later hB).nils (R := [(none, 52, [])]) (by simp)
 have Ki : G0a [] w39 wi := G0a.of_below hB
 have Zw := S39.size
 have lgp : gp < w39.heap.size := hbp.lt
 have lgr : gr < w39.heap.size := hbr.lt
 have lgm : gm < w39.heap.size := hbm.lt
 have hlne : ∀ x ∈ [(w39.heap.size, Obj.deferred (some []))], x.1 ≠ l := fun x hx => by
  rcases List.mem_cons.1 hx with rfl | hx
  ·show w39.heap.size ≠ l; omega
  ·cases hx
 have hBmem : ∀ g ∈ g12 :: g8 :: g7 :: g6 :: g3 :: ([] : List Nat), g < w12.heap.size ∧ w0.heap.size ≤ g := fun g hg => by
  simp only [List.mem_cons, List.not_mem_nil, or_false] at hg
  rcases hg with rfl | rfl | rfl | rfl | rfl
  ·exact ⟨S12.lt 0 rfl, by simpa using S12.new 0 rfl⟩
  ·exact ⟨S12.lt 1 rfl, by simpa using S12.new 1 rfl⟩
  ·exact ⟨S12.lt 2 rfl, by simpa using S12.new 2 rfl⟩
  ·exact ⟨S12.lt 3 rfl, by simpa using S12.new 3 rfl⟩
  ·exact ⟨S12.lt 4 rfl, by simpa using S12.new 4 rfl⟩
 have hN0 : ∀ g ∈ (l :: g12 :: g8 :: g7 :: g6 :: g3 :: []) ++ (w39.heap.size :: M), g ∈ M ∨ w0.heap.size ≤ g := fun g hg => by
  rcases List.mem_append.1 hg with hg | hg
  ·rcases List.mem_cons.1 hg with rfl | hg
   ·right; omega
   ·exact .inr (hBmem g hg).2
  ·rcases List.mem_cons.1 hg with rfl | hg
   ·right; omega
   ·exact .inl hg
 have hlt0 : ∀ g ∈ (l :: g12 :: g8 :: g7 :: g6 :: g3 :: []) ++ (w39.heap.size :: M), g < wi.heap.size := fun g hg => by
  rcases List.mem_append.1 hg with hg | hg
  ·rcases List.mem_cons.1 hg with rfl | hg
   ·omega
   ·have := (hBmem g hg).1; omega
  ·rcases List.mem_cons.1 hg with rfl | hg
   ·omega
   ·have := hM g hg; omega
 have hIi : InP p ((l :: g12 :: g8 :: g7 :: g6 :: g3 :: []) ++ (w39.heap.size :: M)) wi _ := ⟨(hI.rd.more hN0).keep (Si.keep0 _), hI.ok, (hI.msk.more hN0).keep (Si.keep0 _), hlt0⟩
 have hRi : C2b ((l :: g12 :: g8 :: g7 :: g6 :: g3 :: []) ++ (w39.heap.size :: M)) wi (.slice Ar nr cr) run := (hRun.more (by omega) hN0).keep (Si.keep0 _)
 have hnB : ∀ g, w12.heap.size ≤ g → g < w39.heap.size → g ∉ (l :: g12 :: g8 :: g7 :: g6 :: g3 :: []) := fun g h1 h2 hh => by
  rcases List.mem_cons.1 hh with h | h
  ·omega
  ·have := (hBmem g h).1; omega
 refine R0a.mono (n9a p m hm run gp gr gm l (l :: g12 :: g8 :: g7 :: g6 :: g3 :: []) (w39.heap.size :: M) wi _ _ (fun g5 k Bs w => ∃ (G : Option Nat) (cs' : List Value) (v : Value), Bs = (l :: g12 :: g8 :: g7 :: g6 :: g3 :: G.toList) ∧ NC w [(l, .loop rc), (w39.heap.size, .deferred (some []))] ∧ St [] w0 w ([(some g12, 39, [v]), (some g8, 3, [.int .i64 0]), (some g7, 32, [.int .i64 0]), (some g6, 39, [.slice none 0 0]), (some g3, 27, [.slice Ac nc cc, .slice Am nm cm, .slice Al nl cl, .slice At nt ct])] ++ [(G, 52, cs')]) ∧ J2a F3a 3 (g5 :: l :: w39.heap.size :: g12 :: g8 :: g7 :: g6 :: g3 :: M) w G cs' v ((O1a p m run).take k)) (fun w => (O1a p m run).length ≤ run.length ∧ ∃ (g5 : Nat) (G : Option Nat) (cs' : List Value) (v : Value), NC w [(l, .loop { rc with state := .done, pending := some .ret }), (w39.heap.size, .deferred (some []))] ∧ St [] w0 w ([(some g12, 39, [v]), (some g8, 3, [.int .i64 (((O1a p m run).length : Int) - 1)]), (some g7, 32, [.int .i64 110]), (some g6, 39, [v]), (some g3, 27, [.slice Ac nc cc, .slice Am nm cm, .slice Al nl cl, .slice At nt ct])] ++ [(G, 52, cs')]) ∧ J2a F3a 3 (g5 :: l :: w39.heap.size :: g12 :: g8 :: g7 :: g6 :: g3 :: M) w G cs' v (O1a p m run)) hIi hRi (H1a Ki hbp) (H1a Ki hbr) (H1a Ki hbm) (hnB gp Ggp lgp) (hnB gr Ggr lgr) (hnB gm Ggm lgm) ⟨?_, ?_, ?_, fun g5 k Bs w c ys err hg5 hg5w hn5 hJ hKw hcase hY => ?_⟩) ?_
 ·intro g5 w hg5 hBw
  exact ⟨none, [], _, rfl, hO1.keep (G0a.of_below hBw), Si.later hBw, J2a.nil⟩
 ·rintro g5 k Bs w w' hg5 hn5 ⟨G, cs', v, rfl, hO, S, hrow⟩ hb
  simp only [List.mem_cons, not_or] at hn5
  refine ⟨G, cs', v, rfl, hO.keepN (G0a.of_belowM hb) (fun x hx => ?_), S.other hb (by omega) (by rw [o6b]; simp only [List.mem_cons, not_or]; exact hn5.2), hrow.keep D0a ((G0a.of_belowM hb).mono (by simp))⟩
  rw [List.mem_singleton]
  rcases List.mem_cons.1 hx with rfl | hx
  ·exact fun h => hn5.1 h.symm
  ·rcases List.mem_cons.1 hx with rfl | hx
   ·show ¬ w39.heap.size = g5; omega
   ·cases hx
 ·rintro g5 k Bs w ⟨G, cs', v, rfl, hO, S, hrow⟩ g hg
  rcases List.mem_cons.1 hg with rfl | hg
  ·exact hO.lt _ List.mem_cons_self
  ·have hb5 : g ∈ p7a ([(some g12, 39, [v]), (some g8, 3, [.int .i64 0]), (some g7, 32, [.int .i64 0]), (some g6, 39, [.slice none 0 0]), (some g3, 27, [.slice Ac nc cc, .slice Am nm cm, .slice Al nl cl, .slice At nt ct])] ++ [(G, 52, cs')]) := by rw [o6b]; exact hg
   obtain ⟨x, hx, hg⟩ := G2a.1 hb5; exact (S.own x hx g hg).2.lt
 ·obtain ⟨G, cs', v, rfl, hO3, S3, hrow3⟩ := hJ
  obtain ⟨Ym, ym', zm, Ya, ya', za, Yb, yb', zb, rfl, -⟩ := hY.open_
  have K3 := G0a.refl (l :: g12 :: g8 :: g7 :: g6 :: g3 :: G.toList) w
  refine Z0b (hO3 (l, .loop rc) (by simp)).1 hst htm henv hps has hbo rfl rfl ?_
  refine m1a ?_
  refine y0a ?_
  refine h0a S3 J4a rfl rfl ?_
  intro g13 w13 S13 X13 G13
  have GK313 := Nat.le_trans K3.size G13
  replace K3 := K3.trans (X13.of_nil)
  replace hO3 := hO3.keep X13
  refine c0a (kk := 0) (vs := [_, _, _]) S13 x2a rfl rfl rfl rfl rfl rfl rfl ?_
  intro w10_1 S10_1 X10_1
  dsimp only [k0a, List.set] at S10_1
  replace K3 := K3.fresh2 X10_1 (by exact .inl GK313)
  replace hO3 := by exact hO3.keepS X10_1 (S13.blk 0 rfl)
  refine n0a ?_
  refine y0a ?_
  refine O0a (v := .int .i64 _) rfl rfl ?_
  refine n0a ?_
  refine ⟨(hO3 (l, .loop rc) (by simp)).1, ?_⟩
  have Sb := S10_1.putObj (.loop { rc with state := .busy }) hO3 (List.mem_cons_self) (.inl (by omega))
  have hOb := hO3.put (o' := .loop { rc with state := .busy }) hlne (by simp)
  have Kb := K3.fresh2 (Y0a w10_1 l (.loop { rc with state := .busy })) (.inr (by simp))
  generalize w10_1.putObj l (.loop { rc with state := .busy }) = wb at Sb hOb Kb ⊢
  have hYb := hY.keep (Kb.mono (fun g hg => List.mem_cons_of_mem _ (List.mem_append_left _ hg)))
  have hsubB : ∀ g ∈ G.toList ++ (g5 :: l :: w39.heap.size :: g12 :: g8 :: g7 :: g6 :: g3 :: M), g ∈ g5 :: ((l :: g12 :: g8 :: g7 :: g6 :: g3 :: G.toList) ++ (w39.heap.size :: M)) := fun g hg => by
   simp only [List.mem_append, List.mem_cons] at hg ⊢
   rcases hg with h | h | h | h | h | h | h | h | h | h <;> simp [h]
  have hsubC : ∀ g ∈ (l :: g12 :: g8 :: g7 :: g6 :: g3 :: G.toList), g ∈ G.toList ++ (g5 :: l :: w39.heap.size :: g12 :: g8 :: g7 :: g6 :: g3 :: M) := fun g hg => by
   simp only [List.mem_append, List.mem_cons] at hg ⊢
   rcases hg with h | h | h | h | h | h | h <;> simp [h]
  have hrowB := hrow3.keep D0a (Kb.mono hsubC)
  have Kr := G0a.refl [] wb
  have Zb2 := Kb.size
  refine k5a ?_
  refine m1a ?_
  refine m1a ?_
  refine y0a ?_
  refine B0a (v := .int .i64 _) rfl rfl ?_
  refine q9a rfl rfl rfl (fun h43 => ?_) fun h43 => ?_
  ·refine n0a ?_
   refine u4a rfl ?_
   refine m1a ?_
   obtain ⟨herr, rfl, hle2, hc0⟩ := hcase.resolve_left (fun h => h43 h.1)
   rw [List.take_length] at hrowB
   refine Q4b b0a (by kernel_rfl) (fun f ε w => ε 6 = .pointer (some ⟨g6, 0, none⟩) ∧ ε 7 = .pointer (some ⟨g7, 0, none⟩) ∧ ε 8 = .pointer (some ⟨g8, 0, none⟩) ∧ ε 12 = .pointer (some ⟨g12, 0, none⟩) ∧ ∃ (u8 u7 u6 : Value) (c13 : List Value), St [] w0 w ([(some g13, 52, c13), (some g12, 39, [v]), (some g8, 3, [u8]), (some g7, 32, [u7]), (some g6, 39, [u6]), (some g3, 27, [.slice Ac nc cc, .slice Am nm cm, .slice Al nl cl, .slice At nt ct])] ++ [(G, 52, cs')]) ∧ NC w [(l, .loop { rc with state := .busy }), (w39.heap.size, .deferred (some []))] ∧ J2a F3a 3 (g5 :: l :: w39.heap.size :: g12 :: g8 :: g7 :: g6 :: g3 :: M) w G cs' v (O1a p m run) ∧ (f 0 = true → ε 44 = v) ∧ (f 1 = true → ε 45 = v) ∧ (f 2 = true → ε 46 = .int .i64 ((O1a p m run).length : Nat)) ∧ (f 3 = true → ε 47 = .int .i64 (((O1a p m run).length : Int) - 1)) ∧ (f 4 = true → u6 = v) ∧ (f 5 = true → u7 = .int .i64 110) ∧ (f 6 = true → u8 = .int .i64 (((O1a p m run).length : Int) - 1))) ?_ ?_ ?_
   ·exact ⟨rfl, rfl, rfl, rfl, _, _, _, _, Sb.drew, hOb.keep (o2a _ _), hrowB.keep D0a (o2a _ _), by simp, by simp, by simp, by simp, by simp, by simp, by simp⟩
   ·rintro f ε w i o ⟨e6, e7, e8, e12, u8, u7, u6, c13, S, hO, hrow, h0, h1, h2, h3, h4, h5, h6⟩ ho hfi hpr
    have hi : i < 7 := (List.getElem?_eq_some_iff.1 ho).1
    refine P0a 6 e6 (P0a 7 e7 (P0a 8 e8 (P0a 12 e12 ?_)))
    rcases (show i = 0 ∨ i = 1 ∨ i = 2 ∨ i = 3 ∨ i = 4 ∨ i = 5 ∨ i = 6 by omega) with rfl | rfl | rfl | rfl | rfl | rfl | rfl
    ·cases ho
     refine s0a Z2a rfl (S.cell 1 rfl rfl) rfl ?_
     refine n0a ⟨rfl, rfl, rfl, rfl, rfl, u8, u7, u6, c13, S, hO, hrow, fun _ => rfl, fun hh => h1 (by simpa using hh), fun hh => h2 (by simpa using hh), fun hh => h3 (by simpa using hh), fun hh => h4 (by simpa using hh), fun hh => h5 (by simpa using hh), fun hh => h6 (by simpa using hh)⟩
    ·cases ho
     refine s0a Z2a rfl (S.cell 1 rfl rfl) rfl ?_
     refine n0a ⟨rfl, rfl, rfl, rfl, rfl, u8, u7, u6, c13, S, hO, hrow, fun hh => h0 (by simpa using hh), fun _ => rfl, fun hh => h2 (by simpa using hh), fun hh => h3 (by simpa using hh), fun hh => h4 (by simpa using hh), fun hh => h5 (by simpa using hh), fun hh => h6 (by simpa using hh)⟩
    ·cases ho
     obtain ⟨Av, cv, hv⟩ := hrow.form
     refine P0a 45 ((h1 (hpr 1 (by decide))).trans hv) ?_
     refine u9a P5a.slT rfl rfl ?_
     refine n0a ⟨rfl, rfl, rfl, rfl, rfl, u8, u7, u6, c13, S, hO, hrow, fun hh => h0 (by simpa using hh), fun _ => hv.symm, fun _ => rfl, fun hh => h3 (by simpa using hh), fun hh => h4 (by simpa using hh), fun hh => h5 (by simpa using hh), fun hh => h6 (by simpa using hh)⟩
    ·cases ho
     refine P0a 46 (h2 (hpr 2 (by decide))) ?_
     refine r4c rfl rfl (by have := g4a p m run; unfold i64; omega) rfl ?_
     refine n0a ⟨rfl, rfl, rfl, rfl, rfl, u8, u7, u6, c13, S, hO, hrow, fun hh => h0 (by simpa using hh), fun hh => h1 (by simpa using hh), fun _ => rfl, fun _ => rfl, fun hh => h4 (by simpa using hh), fun hh => h5 (by simpa using hh), fun hh => h6 (by simpa using hh)⟩
    ·cases ho
     obtain ⟨Av, cv, hv⟩ := hrow.form
     subst hv
     refine P0a 44 (h0 (hpr 0 (by decide))) ?_
     refine v0a (kk := 4) S b0b rfl (by conv => lhs; whnf) rfl rfl (Nat.le_of_ble_eq_true rfl) ?_
     intro w1 S1 X1
     refine n0a ⟨rfl, rfl, rfl, rfl, rfl, u8, u7, _, c13, S1, hO.keepS X1 (S.blk 4 rfl), hrow.keep D0a (X1.mono (by simp)), fun _ => rfl, fun hh => h1 (by simpa using hh), fun hh => h2 (by simpa using hh), fun hh => h3 (by simpa using hh), fun _ => rfl, fun hh => h5 (by simpa using hh), fun hh => h6 (by simpa using hh)⟩
    ·cases ho
     refine v0a (kk := 3) S U5a rfl (by conv => lhs; whnf) rfl rfl (Nat.le_of_ble_eq_true rfl) ?_
     intro w1 S1 X1
     refine n0a ⟨rfl, rfl, rfl, rfl, rfl, u8, _, u6, c13, S1, hO.keepS X1 (S.blk 3 rfl), hrow.keep D0a (X1.mono (by simp)), fun hh => h0 (by simpa using hh), fun hh => h1 (by simpa using hh), fun hh => h2 (by simpa using hh), fun hh => h3 (by simpa using hh), fun hh => h4 (by simpa using hh), fun _ => rfl, fun hh => h6 (by simpa using hh)⟩
    ·cases ho
     refine P0a 47 (h3 (hpr 3 (by decide))) ?_
     refine v0a (kk := 2) S q7a rfl (by conv => lhs; whnf) rfl rfl (Nat.le_of_ble_eq_true rfl) ?_
     intro w1 S1 X1
     refine n0a ⟨rfl, rfl, rfl, rfl, rfl, _, u7, u6, c13, S1, hO.keepS X1 (S.blk 2 rfl), hrow.keep D0a (X1.mono (by simp)), fun hh => h0 (by simpa using hh), fun hh => h1 (by simpa using hh), fun hh => h2 (by simpa using hh), fun _ => rfl, fun hh => h4 (by simpa using hh), fun hh => h5 (by simpa using hh), fun _ => rfl⟩
   rintro f ε w ⟨e6, e7, e8, e12, u8, u7, u6, c13, S13, hO13, hrow13, h0, h1, h2, h3, h4, h5, h6⟩ hall
   obtain rfl := h4 (hall 4 (by decide))
   obtain rfl := h5 (hall 5 (by decide))
   obtain rfl := h6 (hall 6 (by decide))
   refine x5a ?_
   refine ⟨{ rc with state := .busy }, (hO13 (l, _) List.mem_cons_self).1, .inr ⟨herr, rfl, hle2, g5, G, cs', _, hO13.put (o' := .loop { rc with state := .done, pending := some .ret }) hlne (by simp), S13.tail.putObj (.loop { rc with state := .done, pending := some .ret }) hO13 (List.mem_cons_self) (.inl (by omega)), hrow13.keep D0a ((Y0a w l _).mono (by simp))⟩⟩
  refine n0a ?_
  refine r3a rfl ?_
  refine p3a ?_
  refine y0a ?_
  refine s0a Z2a rfl (by exact Sb.cell 1 rfl rfl) rfl ?_
  refine a1a j1a rfl (Sb.cells 0 rfl) rfl rfl ?_
  refine H0a Sb P5a (vs := [.agg _]) (cs := [_, _, _]) (by rfl) rfl rfl rfl rfl rfl rfl ?_
  intro g50 w50 S50 X50 G50
  replace Kr := Kr.trans X50
  replace Kb := Kb.trans (X50.of_nil)
  replace hOb := hOb.keep X50
  replace hYb := hYb.keep (X50.of_nil)
  have hc51 : (O1a p m run)[k]? = some c := by rcases hcase with h | h; exact h.2; omega
  refine G1a D0a (k := 7) (e1 := c) S50 P5a (by decide) rfl (hrowB.keep D0a Kr.of_nil) rfl rfl (S50.cells 0 rfl) (J0a.less hsubB hYb) (by rw [List.length_take]; omega) rfl ?_
  intro v51 G51 cs51 w51 S51 hrow51 X51 F51
  have Z51 := Kb.size
  obtain ⟨A51, c51, rfl⟩ := hrow51.form
  replace hOb := hOb.keepL X51 (g5b S50 7 rfl)
  replace Kb := Kb.freshL X51 (fun g hg => .inr (by simp [hg]))
  first | refine v0a (kk := 2) S51 b0b rfl (by conv => lhs; whnf) rfl rfl (by exact Nat.le_of_ble_eq_true rfl) ?_
  intro w14_4 S14_4 X14_4
  replace Kb := Kb.fresh2 X14_4 (by exact .inr (by simp))
  replace hOb := by exact hOb.keepS X14_4 (S51.blk 2 rfl)
  refine n0a ?_
  obtain ⟨herr, hc⟩ : err = 0 ∧ (O1a p m run)[k]? = some c := ⟨h43, by rcases hcase with h | h; exact h.2; omega⟩
  have hOn := hOb.put (o' := .loop rc) hlne (by simp)
  have Sn := S14_4.tail.tail.putObj (.loop rc) hOb (List.mem_cons_self) (.inl (by omega))
  have Kn := Kb.fresh2 (Y0a w14_4 l (.loop rc)) (.inr (by simp))
  have hrn := (hrow51.keep D0a (X14_4.mono (by simp))).keep D0a ((Y0a w14_4 l (.loop rc)).mono (by simp))
  refine ⟨{ rc with state := .busy }, (hOb (l, _) List.mem_cons_self).1, .inl ⟨herr, rfl, l :: g12 :: g8 :: g7 :: g6 :: g3 :: G51.toList, ?_⟩⟩
  rw [u8a hst hpe]
  refine ⟨⟨G51, cs51, _, rfl, hOn, Sn, by rw [g1a hc]; exact hrn⟩, Kn, fun g hg => ?_⟩
  simp only [List.mem_cons] at hg ⊢
  rcases hg with h | h | h | h | h | h | h
  ·simp [h]
  ·simp [h]
  ·simp [h]
  ·simp [h]
  ·simp [h]
  ·simp [h]
  ·rcases F51 g h with h | h
   ·simp [h]
   ·right; omega
 rintro v3 w3 (⟨hlen1, g5, Bs, G, cs', v, rfl, hO3, S3, hrow3⟩ | ⟨hle2, g5, G, cs', v, hO3, S3, hrow3⟩)
 rotate_left
 ·refine ⟨{ rc with state := .done, pending := some .ret }, (hO3 (l, _) List.mem_cons_self).1, by simp, .inr ⟨rfl, ?_⟩⟩
  have Sa := S3.putObj (.loop { rc with state := .exhausted, pending := some .ret }) hO3 (List.mem_cons_self) (.inl (by omega))
  have hOa := (hO3.put (o' := .loop { rc with state := .exhausted, pending := some .ret }) hlne (by simp)).tail
  have hra := hrow3.keep D0a ((Y0a w3 l (.loop { rc with state := .exhausted, pending := some .ret })).mono (by simp))
  exact T2a rfl Z2a J1a A0a rfl rfl rfl [w39.heap.size] rfl (by simp) hOa (Sa.blk 3 rfl) (Sa.blk 2 rfl) (Sa.blk 1 rfl) rfl rfl rfl (fun w' hb => ⟨⟨v, by unfold T5b; rw [if_neg (by omega)], U7a (A := [_, _, _, _, _]) hra Sa hM (fun g hg => by rcases List.mem_cons.1 hg with h | h <;> simp [h]) hOa hb (by omega)⟩, (N0a.step Sa.below hb (by simp; omega)).nil⟩)
 refine ⟨rc, (hO3 (l, .loop rc) (by simp)).1, by rw [hst]; simp, .inl ⟨hpe, ?_⟩⟩
 have Sa := S3.putObj (.loop { rc with state := .exhausted }) hO3 (List.mem_cons_self) (.inl (by omega))
 have hOa := (hO3.put (o' := .loop { rc with state := .exhausted }) hlne (by simp)).tail
 have hra := hrow3.keep D0a ((Y0a w3 l (.loop { rc with state := .exhausted })).mono (by simp))
 rw [List.take_length] at hra
 generalize w3.putObj l (.loop { rc with state := .exhausted }) = wa at Sa hOa hra ⊢
 obtain ⟨Av, cv, rfl⟩ := hra.form
 refine m1a ?_
 refine y0a ?_
 refine s0a Z2a rfl (by exact Sa.cell 0 rfl rfl) rfl ?_
 refine B0a (by conv => lhs; whnf) rfl ?_
 refine u9a v5a.slT rfl rfl ?_
 first | refine v0a (kk := 3) Sa b0b rfl (by conv => lhs; whnf) rfl rfl (by exact Nat.le_of_ble_eq_true rfl) ?_
 intro w15_3 S15_3 X15_3
 replace hOa := by exact hOa.keepS X15_3 (Sa.blk 3 rfl)
 first | refine v0a (kk := 2) S15_3 U5a rfl (by conv => lhs; whnf) rfl rfl (by exact Nat.le_of_ble_eq_true rfl) ?_
 intro w15_4 S15_4 X15_4
 replace hOa := by exact hOa.keepS X15_4 (S15_3.blk 2 rfl)
 first | refine v0a (kk := 1) S15_4 q7a rfl (by conv => lhs; whnf) rfl rfl (by exact Nat.le_of_ble_eq_true rfl) ?_
 intro w15_5 S15_5 X15_5
 replace hOa := by exact hOa.keepS X15_5 (S15_4.blk 1 rfl)
 refine n0a ?_
 refine x5a ?_
 have hrz := ((hra.keep D0a (X15_3.mono (by simp))).keep D0a (X15_4.mono (by simp))).keep D0a (X15_5.mono (by simp))
 refine T2a rfl Z2a J1a A0a rfl rfl rfl [w39.heap.size] rfl (by simp) hOa (S15_5.blk 3 rfl) (S15_5.blk 2 rfl) (S15_5.blk 1 rfl) rfl rfl rfl (fun w' hb => ⟨⟨_, ?_, U7a (A := [_, _, _, _, _]) hrz S15_5 hM (fun g hg => by rcases List.mem_cons.1 hg with h | h <;> simp [h]) hOa hb (by omega)⟩, (N0a.step S15_5.below hb (by simp; omega)).nil⟩)
 unfold T5b
 rw [if_pos hlen1, show ((O1a p m run).length : Int) - 1 = (nr : Int) by omega]
end Go.Proofs.YtjjmdcnmeommbaaGreatDoor
namespace Go.Fw
open Go.RowKit
theorem v3c {α : Type} {a b : List α} (hl : a.length = b.length) {k : Nat} (hk : a.length ≤ k) (h : ∀ i x y, i < k → a[i]? = some x → b[i]? = some y → x = y) : a = b := by
 apply List.ext_getElem hl
 intro i h1 h2
 exact h i _ _ (by omega) (List.getElem?_eq_getElem h1) (List.getElem?_eq_getElem h2)
def Q9b {α : Type} (a b : List α) (k : Nat) : Prop := ∀ i x y, i < k → a[i]? = some x → b[i]? = some y → x = y
theorem Q9b.zero {α : Type} {a b : List α} : Q9b a b 0 := fun i x y h => absurd h (by omega)
theorem Q9b.succ {α : Type} {a b : List α} {k : Nat} (h : Q9b a b k) {x y : α} (hx : a[k]? = some x) (hy : b[k]? = some y) (he : x = y) : Q9b a b (k + 1) := fun i x' y' hi h1 h2 => by
 by_cases hik : i = k
 ·subst hik; rw [hx] at h1; rw [hy] at h2; cases h1; cases h2; exact he
 ·exact h i x' y' (by omega) h1 h2
theorem Q9b.all {α : Type} {a b : List α} {k : Nat} (h : Q9b a b k) (hl : a.length = b.length) (hk : a.length ≤ k) : a = b := v3c hl hk h
theorem J6c {α : Type} {a b : List α} (h : ¬ a.length = b.length) : a ≠ b := fun e => h (by rw [e])
theorem u8c {α : Type} {a b : List α} {k : Nat} {x y : α} (hx : a[k]? = some x) (hy : b[k]? = some y) (h : x ≠ y) : a ≠ b := fun e => by subst e; rw [hx] at hy; cases hy; exact h rfl
theorem L0a.ext' {a b : L0a} (h1 : a.cells = b.cells) (h2 : a.values = b.values) : a = b := by cases a; cases b; simp_all
theorem F0a.ext' {a b : F0a} (h1 : a.mem = b.mem) (h2 : a.at_ = b.at_) (h3 : a.buf = b.buf) : a = b := by cases a; cases b; simp_all
theorem o0a.ext' {a b : o0a} (h : a.thread = b.thread ∧ a.step = b.step ∧ a.cell = b.cell) : a = b := by cases a; cases b; simp_all
end Go.Fw
namespace Go.Proofs.YtjjmdcnmeommbaaGreatDoor
open Go.Fw Go.RowKit
end Go.Proofs.YtjjmdcnmeommbaaGreatDoor
namespace Go.Fw
open Go.RowKit
section
variable {P : Program} {N : Nat} {ops : Array Oper} {rest : List Oper} {C : World → Prop} {K : Env → Prop} {e : Env} {d : Nat} {t : TypeId} {p : String} {af : Array Edge} {x y : Operand} {yt : TypeId}
end
end Go.Fw
namespace Go.Proofs.YtjjmdcnmeommbaaGreatDoor
open Go.Fw Go.RowKit
theorem x4b (t : U0a) (M : List Nat) (w0 : World) (cs : List Value) (hT : I0a M w0 cs t) :
 R0a Tryz.prog 39 #[.agg cs.toArray] w0 fun v w' => (∃ b, v = .bool b ∧ (b = true → True)) ∧ Below w0.heap.size w0 w' := by
 obtain ⟨Aa, na, ca, Am, nm, cm, As, ns, csx, Al, nl, cl, rfl, _, hEs, _, hSt, hLo, _, _, _, _, _, _, _, _⟩ := hT.open_
 have S := St.refl w0
 refine a0a Tryz.func39 rfl Tryz.ntmps39 rfl ?_
 refine wO0 rfl ⟨⟩ (m0a S (by conv => lhs; whnf) rfl ?_)
 intro g1 w1 S1 X1 G1
 refine lB S1.k [.o 0] rfl ⟨rfl,⟨⟩⟩ (fun h12 => ?_) fun h12 => ?_
 ·exact lT rfl ⟨⟩ rfl ⟨⟨_, rfl, fun _ => trivial⟩, S1.fin⟩
 refine lB S1.k [.o 0] rfl ⟨rfl,⟨⟩⟩ (fun h17 => ?_) fun h17 => ?_
 ·exact lT rfl ⟨⟩ rfl ⟨⟨_, rfl, fun _ => trivial⟩, S1.fin⟩
 refine lB S1.k [.o 0] rfl ⟨rfl,⟨⟩⟩ (fun h23 => ?_) fun h23 => ?_
 ·exact lT rfl ⟨⟩ rfl ⟨⟨_, rfl, fun _ => trivial⟩, S1.fin⟩
 refine lB S1.k [.o 0] rfl ⟨rfl,⟨⟩⟩ (fun h29 => ?_) fun h29 => ?_
 ·exact lT rfl ⟨⟩ rfl ⟨⟨_, rfl, fun _ => trivial⟩, S1.fin⟩
 refine lB S1.k [.o 0] rfl ⟨rfl,⟨⟩⟩ (fun h35 => ?_) fun h35 => ?_
 ·exact lT rfl ⟨⟩ rfl ⟨⟨_, rfl, fun _ => trivial⟩, S1.fin⟩
 refine lC0 rfl ⟨⟩ (wL (fun μk D ε w => D = [] ∧ ∃ k : Nat, (k + μk = (t.asserts.length)) ∧ St [] w0 w [(some g1, 60, [.string t.name, .int .i64 t.points, .slice Aa na ca, .slice Am nm cm, .slice As ns csx, .slice Al nl cl, .bool t.asleep])] ∧ Sl ε [(1, .pointer (some ⟨g1, 0, none⟩)), (3, .int .i64 k)]) (μ := (t.asserts.length)) ⟨rfl, 0, by omega, S1, rfl⟩ ?_)
 rintro μk D ε w ⟨rfl, k, hk, S, eZ⟩
 refine wK eZ (wB S.k [.o 0] rfl ⟨rfl,⟨⟩⟩ (fun h41 => ?_) fun h41 => ?_)
 ·obtain ⟨x, b47, p47, _, _, hA47, _, hl47, hc47, hr47⟩ := RdS.get (hEs) (k) (by omega)
  obtain ⟨_, _, _, rfl, _, _, _, _, _⟩ := RdE.cells hr47
  refine lO (S.k.a hc47) [.o 0,.x b47 p47,.v 0] rfl ⟨⟨rfl,hl47⟩,⟨hA47,by omega⟩,rfl,⟨⟩⟩ (r0a S M9a rfl rfl (f5a x M _ _ _ (RdE.keep (S.keep0 M) _ _ hr47) (by omega) (by omega)) (fun h49 w49 S49 X49 => ?_) (fun h49 w49 S49 X49 => ?_))
  ·refine lP0 rfl ⟨by omega,⟨⟩⟩ ⟨μk - 1, by omega, rfl, (k + 1), (by omega), S49, rfl⟩
  exact lT rfl ⟨⟩ rfl ⟨⟨_, rfl, fun _ => trivial⟩, S49.fin⟩
 refine lC0 rfl ⟨⟩ (wL (fun μk D ε w => D = [] ∧ ∃ k : Nat, (k + μk = (t.loops.length)) ∧ St [] w0 w [(some g1, 60, [.string t.name, .int .i64 t.points, .slice Aa na ca, .slice Am nm cm, .slice As ns csx, .slice Al nl cl, .bool t.asleep])] ∧ Sl ε [(1, .pointer (some ⟨g1, 0, none⟩)), (5, .int .i64 k)]) (μ := (t.loops.length)) ⟨rfl, 0, by omega, S, rfl⟩ ?_)
 rintro μk D ε w ⟨rfl, k, hk, S, eZ⟩
 refine wK eZ (wB S.k [.o 0] rfl ⟨rfl,⟨⟩⟩ (fun h56 => ?_) fun h56 => ?_)
 ·obtain ⟨lo, b62, p62, _, hxlo, hA62, _, _, hc62, hr62⟩ := RdS.get (hLo) (k) (by omega)
  obtain ⟨_, _, _, _, _, _, rfl, _, _, _, _, _⟩ := N4a.open_ hr62
  refine lB (S.k.a hc62) [.o 0,.x b62 p62,.f 0 1] rfl ⟨rfl,⟨hA62,by omega⟩,rfl,⟨⟩⟩ (fun h66 => ?_) fun h66 => ?_
  ·exact lT rfl ⟨⟩ rfl ⟨⟨_, rfl, fun _ => trivial⟩, S.fin⟩
  obtain ⟨_, b71, p71, _, hx71, hA71, _, _, hc71, hr71⟩ := RdS.get (hLo) (k) (by omega)
  obtain rfl := Option.some.inj (hxlo.symm.trans hx71)
  obtain ⟨_, _, _, _, _, _, rfl, _, _, hE71, _, _⟩ := N4a.open_ hr71
  refine lO (S.k.a hc71) [.o 0,.x b71 p71,.f 0 2] rfl ⟨rfl,⟨hA71,by omega⟩,rfl,⟨⟩⟩ (r0a S M9a rfl rfl (f5a lo.variant M _ _ _ (RdE.keep (S.keep0 M) _ _ hE71) (by omega) (by omega)) (fun h74 w74 S74 X74 => ?_) (fun h74 w74 S74 X74 => ?_))
  ·refine lP0 rfl ⟨by omega,⟨⟩⟩ ⟨μk - 1, by omega, rfl, (k + 1), (by omega), S74, rfl⟩
  exact lT rfl ⟨⟩ rfl ⟨⟨_, rfl, fun _ => trivial⟩, S74.fin⟩
 refine lC0 rfl ⟨⟩ (wL (fun μk D ε w => D = [] ∧ ∃ k : Nat, (k + μk = (t.steps.length)) ∧ St [] w0 w [(some g1, 60, [.string t.name, .int .i64 t.points, .slice Aa na ca, .slice Am nm cm, .slice As ns csx, .slice Al nl cl, .bool t.asleep])] ∧ Sl ε [(1, .pointer (some ⟨g1, 0, none⟩)), (6, .int .i64 k)]) (μ := (t.steps.length)) ⟨rfl, 0, by omega, S, rfl⟩ ?_)
 rintro μk D ε w ⟨rfl, k, hk, S, eZ⟩
 refine wK eZ (wB S.k [.o 0] rfl ⟨rfl,⟨⟩⟩ (fun h81 => ?_) fun h81 => ?_)
 ·obtain ⟨s, b87, p87, _, _, hA87, _, hl87, hc87, hr87⟩ := RdS.get (hSt) (k) (by omega)
  obtain ⟨Ag87, ng87, cg87, As87, ns87, cs87, rfl, ⟨_, _, _, _, _⟩, hG87, hSet87, _, _⟩ := x1a.open_ hr87
  refine lO (S.k.a hc87) [.o 0,.x b87 p87,.v 0] rfl ⟨⟨rfl,hl87⟩,⟨hA87,by omega⟩,rfl,⟨⟩⟩ (h0a S Y9a rfl rfl ?_)
  intro g7 w7 S7 X7 G7
  refine c0a (kk := 0) (vs := [_, _, _, _, _, _, _, _, _, _, _]) S7 U9a rfl rfl rfl rfl rfl rfl rfl ?_
  intro w17_6 S17_6 X17_6
  dsimp only [k0a, List.set] at S17_6
  refine lB S17_6.k [.o 0] rfl ⟨rfl,⟨⟩⟩ (fun h92 => ?_) fun h92 => ?_
  ·exact lT rfl ⟨⟩ rfl ⟨⟨_, rfl, fun _ => trivial⟩, S17_6.fin⟩
  refine lO S17_6.k [.o 0] rfl ⟨rfl,⟨⟩⟩ (r0a S17_6 M9a rfl rfl (f5a s.guard M _ _ _ (RdE.keep (S17_6.keep0 M) _ _ hG87) (by omega) (by omega)) (fun h96 w96 S96 X96 => ?_) (fun h96 w96 S96 X96 => ?_))
  ·refine lC0 rfl ⟨⟩ (wL (fun μj D ε w => D = [] ∧ ∃ j : Nat, (j + μj = (s.set.length)) ∧ St [] w0 w [(some g7, 88, [.int .i64 s.kind, .int .i64 s.frm, .int .i64 s.to, .int .i64 s.guard.op, .int .i64 s.guard.w, .int .i64 s.guard.n, .slice Ag87 ng87 cg87, .slice As87 ns87 cs87, .bool s.release, .int .i64 s.target, .int .i64 s.module_]), (some g1, 60, [.string t.name, .int .i64 t.points, .slice Aa na ca, .slice Am nm cm, .slice As ns csx, .slice Al nl cl, .bool t.asleep])] ∧ Sl ε [(1, .pointer (some ⟨g1, 0, none⟩)), (6, .int .i64 k), (7, .pointer (some ⟨g7, 0, none⟩)), (8, .int .i64 j)]) (μ := (s.set.length)) ⟨rfl, 0, by omega, S96, rfl⟩ ?_)
   rintro μj D ε w ⟨rfl, j, _, S, eZ⟩
   refine wK eZ (wB S.k [.o 0] rfl ⟨rfl,⟨⟩⟩ (fun h103 => ?_) fun h103 => ?_)
   ·obtain ⟨a, b109, p109, _, _, hA109, _, _, hc109, hr109⟩ := RdS.get (hSet87) (j) (by omega)
    obtain ⟨_, _, _, rfl, _, hE109⟩ := Q0a.open_ hr109
    refine lO (S.k.a hc109) [.o 0,.x b109 p109,.f 0 1] rfl ⟨rfl,⟨hA109,by omega⟩,rfl,⟨⟩⟩ (r0a S M9a rfl rfl (f5a a.to M _ _ _ (RdE.keep (S.keep0 M) _ _ hE109) (by omega) (by omega)) (fun h112 w112 S112 X112 => ?_) (fun h112 w112 S112 X112 => ?_))
    ·refine lP0 rfl ⟨by omega,⟨⟩⟩ ⟨μj - 1, by omega, rfl, (j + 1), (by omega), S112, rfl⟩
    exact lT rfl ⟨⟩ rfl ⟨⟨_, rfl, fun _ => trivial⟩, S112.fin⟩
   refine lP0 rfl ⟨by omega,⟨⟩⟩ ⟨μk - 1, by omega, rfl, (k + 1), (by omega), S.tail, rfl⟩
  exact lT rfl ⟨⟩ rfl ⟨⟨_, rfl, fun _ => trivial⟩, S96.fin⟩
 exact lT rfl ⟨⟩ rfl ⟨⟨_, rfl, fun _ => trivial⟩, S.fin⟩
theorem Z6b (p : e0a) (M : List Nat) (w0 : World) (cs : List Value) (hP : o1a M w0 p cs) (hM : ∀ g ∈ M, g < w0.heap.size) (hN : W4b p) :
 R0a Tryz.prog 14 #[.agg cs.toArray] w0 fun v w' => (∃ b, v = .bool b ∧ (b = true → e1a p)) ∧ Below w0.heap.size w0 w' := by
 obtain ⟨Ac, nc, cc, Am, nm, cm, Al, nl, cl, At, nt, ct, rfl, _, hMo, hLk, hTh, _, _, _, _, _, _, _, _⟩ := hP.open_
 have S := St.refl w0
 refine a0a Tryz.func14 rfl Tryz.ntmps14 rfl ?_
 refine wO0 rfl ⟨⟩ (m0a S (by conv => lhs; whnf) rfl ?_)
 intro g1 w1 S1 X1 G1
 refine lB S1.k [.o 0] rfl ⟨rfl,⟨⟩⟩ (fun h15 => ?_) fun h15 => ?_
 ·exact lT rfl ⟨⟩ rfl ⟨⟨_, rfl, fun h => by cases h⟩, S1.fin⟩
 refine lB S1.k [.o 0] rfl ⟨rfl,⟨⟩⟩ (fun h20 => ?_) fun h20 => ?_
 ·exact lT rfl ⟨⟩ rfl ⟨⟨_, rfl, fun h => by cases h⟩, S1.fin⟩
 refine lB S1.k [.o 0] rfl ⟨rfl,⟨⟩⟩ (fun h26 => ?_) fun h26 => ?_
 ·exact lT rfl ⟨⟩ rfl ⟨⟨_, rfl, fun h => by cases h⟩, S1.fin⟩
 refine lB S1.k [.o 0] rfl ⟨rfl,⟨⟩⟩ (fun h32 => ?_) fun h32 => ?_
 ·exact lT rfl ⟨⟩ rfl ⟨⟨_, rfl, fun h => by cases h⟩, S1.fin⟩
 refine lC0 rfl ⟨⟩ (wL (fun μk D ε w => D = [] ∧ ∃ k : Nat, (k + μk = (p.modules.length)) ∧ St [] w0 w [(some g1, 27, [.slice Ac nc cc, .slice Am nm cm, .slice Al nl cl, .slice At nt ct])] ∧ Sl ε [(1, .pointer (some ⟨g1, 0, none⟩)), (3, .int .i64 k)]) (μ := (p.modules.length)) ⟨rfl, 0, by omega, S1, rfl⟩ ?_)
 rintro μk D ε w ⟨rfl, k, hk, S, eZ⟩
 refine wK eZ (wB S.k [.o 0] rfl ⟨rfl,⟨⟩⟩ (fun h38 => ?_) fun h38 => ?_)
 ·obtain ⟨mo, b44, p44, _, _, hA44, _, hl44, hc44, hr44⟩ := RdS.get (hMo) (k) (by omega)
  obtain ⟨_, _, _, _, _, _, _, _, _, rfl, hR44, hG44, _, _, _⟩ := c1a.open_ hr44
  refine lO (S.k.a hc44) [.o 0,.x b44 p44,.v 0] rfl ⟨⟨rfl,hl44⟩,⟨hA44,by omega⟩,rfl,⟨⟩⟩ (h0a S k4c rfl rfl ?_)
  intro g4 w4 S4 X4 G4
  refine c0a (kk := 0) (vs := [_, _, _, _, _, _, _, _, _, _, _]) S4 G3c rfl rfl rfl rfl rfl rfl rfl ?_
  intro w6_6 S6_6 X6_6
  dsimp only [k0a, List.set] at S6_6
  refine lB S6_6.k [.o 0] rfl ⟨rfl,⟨⟩⟩ (fun h49 => ?_) fun h49 => ?_
  ·exact lT rfl ⟨⟩ rfl ⟨⟨_, rfl, fun h => by cases h⟩, S6_6.fin⟩
  refine lO S6_6.k [.o 0] rfl ⟨rfl,⟨⟩⟩ (r0a S6_6 M9a rfl rfl (f5a mo.rely M _ _ _ (RdE.keep (S6_6.keep0 M) _ _ hR44) (by omega) (by omega)) (fun h53 w53 S53 X53 => ?_) (fun h53 w53 S53 X53 => ?_))
  ·refine lO S53.k [.o 0] rfl ⟨rfl,⟨⟩⟩ (r0a S53 M9a rfl rfl (f5a mo.guar M _ _ _ (RdE.keep (S53.keep0 M) _ _ hG44) (by omega) (by omega)) (fun h59 w59 S59 X59 => ?_) (fun h59 w59 S59 X59 => ?_))
   ·refine lP0 rfl ⟨by omega,⟨⟩⟩ ⟨μk - 1, by omega, rfl, (k + 1), (by omega), S59.tail, rfl⟩
   exact lT rfl ⟨⟩ rfl ⟨⟨_, rfl, fun h => by cases h⟩, S59.fin⟩
  exact lT rfl ⟨⟩ rfl ⟨⟨_, rfl, fun h => by cases h⟩, S53.fin⟩
 refine lC0 rfl ⟨⟩ (wL (fun μk D ε w => D = [] ∧ ∃ k : Nat, (k + μk = (p.locks.length)) ∧ St [] w0 w [(some g1, 27, [.slice Ac nc cc, .slice Am nm cm, .slice Al nl cl, .slice At nt ct])] ∧ Sl ε [(1, .pointer (some ⟨g1, 0, none⟩)), (5, .int .i64 k)]) (μ := (p.locks.length)) ⟨rfl, 0, by omega, S, rfl⟩ ?_)
 rintro μk D ε w ⟨rfl, k, hk, S, eZ⟩
 refine wK eZ (wB S.k [.o 0] rfl ⟨rfl,⟨⟩⟩ (fun h66 => ?_) fun h66 => ?_)
 ·obtain ⟨lk, b72, p72, _, _, hA72, _, _, hc72, hr72⟩ := RdS.get (hLk) (k) (by omega)
  obtain ⟨_, _, _, rfl, _, _, hE72⟩ := d4a.open_ hr72
  refine lO (S.k.a hc72) [.o 0,.x b72 p72,.f 0 1] rfl ⟨rfl,⟨hA72,by omega⟩,rfl,⟨⟩⟩ (r0a S M9a rfl rfl (f5a lk.inv M _ _ _ (RdE.keep (S.keep0 M) _ _ hE72) (by omega) (by omega)) (fun h75 w75 S75 X75 => ?_) (fun h75 w75 S75 X75 => ?_))
  ·refine lP0 rfl ⟨by omega,⟨⟩⟩ ⟨μk - 1, by omega, rfl, (k + 1), (by omega), S75, rfl⟩
  exact lT rfl ⟨⟩ rfl ⟨⟨_, rfl, fun h => by cases h⟩, S75.fin⟩
 refine lC0 rfl ⟨⟩ (wL (fun μk D ε w => D = [] ∧ ∃ k : Nat, (k + μk = (p.threads.length)) ∧ St [] w0 w [(some g1, 27, [.slice Ac nc cc, .slice Am nm cm, .slice Al nl cl, .slice At nt ct])] ∧ Sl ε [(1, .pointer (some ⟨g1, 0, none⟩)), (7, .int .i64 k)]) (μ := (p.threads.length)) ⟨rfl, 0, by omega, S, rfl⟩ ?_)
 rintro μk D ε w ⟨rfl, k, hk, S, eZ⟩
 refine wK eZ (wB S.k [.o 0] rfl ⟨rfl,⟨⟩⟩ (fun h82 => ?_) fun h82 => ?_)
 ·obtain ⟨th, b88, p88, _, _, hA88, _, hl88, hc88, hr88⟩ := RdS.get (hTh) (k) (by omega)
  obtain ⟨_, _, _, _, _, _, _, _, _, _, _, _, rfl, _, _, _, _, _, _, _, _, _, _, _, _, _⟩ := I0a.open_ hr88
  refine lO (S.k.a hc88) [.o 0,.x b88 p88,.v 0] rfl ⟨⟨rfl,hl88⟩,⟨hA88,by omega⟩,rfl,⟨⟩⟩ (R7a S j6c rfl rfl (x4b th M _ _ (I0a.keep (S.keep0 M) _ _ hr88)) (fun h90 w90 S90 X90 => ?_) (fun w90 S90 X90 => ?_))
  ·refine lP0 rfl ⟨by omega,⟨⟩⟩ ⟨μk - 1, by omega, rfl, (k + 1), (by omega), S90, rfl⟩
  exact lT rfl ⟨⟩ rfl ⟨⟨_, rfl, fun h => by cases h⟩, S90.fin⟩
 refine lO S.k [.w 0] rfl ⟨⟨rfl,rfl⟩,⟨⟩⟩ (M0a S W5c rfl rfl (S6b p M _ _ (hP.keep (S.keep0 M)) (fun g hg => Nat.lt_of_lt_of_le (hM g hg) S.size) hN) ?_)
 rintro v95 w95 ⟨_, _, _, rfl, hv⟩ S95 X95
 refine lB0 rfl ⟨⟩ (fun h100 => ?_) fun h100 => ?_
 ·exact lT rfl ⟨⟩ rfl ⟨⟨_, rfl, fun _ => hv h100⟩, S95.fin⟩
 exact lT rfl ⟨⟩ rfl ⟨⟨_, rfl, fun h => by cases h⟩, S95.fin⟩
end Go.Proofs.YtjjmdcnmeommbaaGreatDoor
namespace Go.Fw
open Go.RowKit
def u0b (s : ByteArray) : Bool := decide (1 ≤ s.size) && decide (s.size ≤ 64) && s.data.toList.all fun b => decide (33 ≤ b.toNat) && decide (b.toNat ≤ 126)
theorem Q6a {s : ByteArray} (h : u0b s = true) : A6a s := by
 simp only [u0b, Bool.and_eq_true, decide_eq_true_eq, List.all_eq_true] at h
 refine ⟨h.1.1, h.1.2, fun i hi => ?_⟩
 exact h.2 s[i] (by rw [ByteArray.getElem_eq_getElem_data]; simp)
def inB (i : Int) (n : Nat) : Bool := decide (0 ≤ i) && decide (i < n)
theorem c8a {i : Int} {n : Nat} (h : inB i n = true) : L2a i n := by simpa [inB, L2a] using h
def i3b (cells : List h2a) (e : E) (sh : Bool) (t : Int) : Bool := (e.sup 3 ++ e.sup 2).all fun x => (decide (w1a cells x ≠ -1) || sh) && (decide (w1a cells x < 0) || decide (w1a cells x = t))
theorem I6a {cells : List h2a} {e : E} {sh : Bool} {t : Int} (h : i3b cells e sh t = true) : A5a cells e sh t := fun x hx => by
 have := List.all_eq_true.1 h x hx
 simp only [Bool.and_eq_true, Bool.or_eq_true, decide_eq_true_eq] at this
 exact ⟨fun e => this.1.resolve_left (fun h => h e), fun e => this.2.resolve_left (by omega)⟩
def N0b (cells : List h2a) (e : E) (pair : Bool) (t : Int) : Bool := e.valid cells pair && decide (e.w = 1) && i3b cells e true t
theorem O6a {cells : List h2a} {e : E} {pair : Bool} {t : Int} (h : N0b cells e pair t = true) : R8a cells e pair t := by
 simp only [N0b, Bool.and_eq_true, decide_eq_true_eq] at h
 exact ⟨h.1.1, h.1.2, I6a h.2⟩
def e9a : List Int → Bool
 | [] => true
 | x :: l => (l.all fun y => decide (x < y)) && e9a l
theorem L7a : ∀ {l : List Int}, e9a l = true → F5a l
 | [], _ => List.Pairwise.nil
 | x :: l, h => by
   simp only [e9a, Bool.and_eq_true, List.all_eq_true, decide_eq_true_eq] at h
   exact List.Pairwise.cons h.1 (L7a h.2)
def pwB {α : Type} (r : α → α → Bool) : List α → Bool
 | [] => true
 | x :: l => l.all (r x) && pwB r l
theorem o0b {α : Type} {r : α → α → Bool} {R : α → α → Prop} (hr : ∀ a b, r a b = true → R a b) : ∀ {l : List α}, pwB r l = true → l.Pairwise R
 | [], _ => List.Pairwise.nil
 | x :: l, h => by
   simp only [pwB, Bool.and_eq_true, List.all_eq_true] at h
   exact List.Pairwise.cons (fun y hy => hr _ _ (h.1 y hy)) (o0b hr h.2)
def O4b (e : E) : Bool := decide (e.op = 0) && decide (e.w = 0) && decide (e.n = 0) && e.kids.isEmpty
theorem M6b {e : E} (h : O4b e = true) : e.absent := by
 simp only [O4b, Bool.and_eq_true, decide_eq_true_eq, List.isEmpty_iff] at h
 exact ⟨h.1.1.1, h.1.1.2, h.1.2, h.2⟩
def P7c (e : E) : Bool := decide (e.op = 1) && decide (e.w = 1) && decide (e.n = 1) && e.kids.isEmpty
theorem R4c {e : E} (h : P7c e = true) : e = ⟨1, 1, 1, []⟩ := by
 simp only [P7c, Bool.and_eq_true, decide_eq_true_eq, List.isEmpty_iff] at h
 cases e; simp_all
def ifB (c : Prop) [Decidable c] (b : Bool) : Bool := !decide c || b
theorem f7a {c : Prop} [Decidable c] {b : Bool} (h : ifB c b = true) (hc : c) : b = true := by simpa [ifB, hc] using h
def C3c (p : e0a) (t : Int) (s : p1a) : Bool :=
 i3b p.cells s.guard (decide (s.kind = 4)) t &&
 ((List.range s.set.length).all fun i => match s.set[i]? with | some a => ifB (0 < i ∨ s.kind ≠ 2) (i3b p.cells a.to (decide (s.kind = 4)) t) | none => true) &&
 (s.set.all fun a => decide (w1a p.cells a.cell = t ∨ w1a p.cells a.cell = -1)) &&
 ifB (s.kind = 1) (s.set.all fun a => decide (w1a p.cells a.cell = t)) &&
 ifB (s.kind = 2) (match s.set with | [] => false | a :: l => decide (w1a p.cells a.cell = t ∧ g0b p.cells a.cell = false ∧ a.to.op = 2 ∧ w1a p.cells a.to.n = -1 ∧ g0b p.cells a.to.n = false) && l.all fun b => decide (w1a p.cells b.cell = t ∧ g0b p.cells b.cell = true)) &&
 ifB (s.kind = 3) (match s.set with | [] => false | a :: l => decide (w1a p.cells a.cell = -1 ∧ g0b p.cells a.cell = false) && l.all fun b => decide (g0b p.cells b.cell = true)) &&
 ifB (5 ≤ s.kind) (s.set.isEmpty && P7c s.guard) &&
 ifB (6 ≤ s.kind) (inB s.target p.threads.length && decide (s.target ≠ t)) &&
 ifB (s.kind = 6) (match p.threads[s.target.toNat]? with | some u => u.asleep | none => true)
theorem V9b {p : e0a} {t : Int} {s : p1a} (h : C3c p t s = true) : T7b p t s := by
 simp only [C3c, Bool.and_eq_true] at h
 obtain ⟨⟨⟨⟨⟨⟨⟨⟨a1, a2⟩, a3⟩, a4⟩, a5⟩, a6⟩, a7⟩, a8⟩, a9⟩ := h
 refine ⟨I6a a1, fun i hi hc => ?_, fun a ha => of_decide_eq_true (List.all_eq_true.1 a3 a ha), fun hk a ha => of_decide_eq_true (List.all_eq_true.1 (f7a a4 hk) a ha), fun hk => ?_, fun hk => ?_, fun hk => ?_, fun hk => ?_, fun hk u hu => ?_⟩
 ·have := List.all_eq_true.1 a2 i (List.mem_range.2 hi)
  rw [List.getElem?_eq_getElem hi] at this
  exact I6a (f7a this hc)
 ·have := f7a a5 hk
  split at this
  ·cases this
  ·rename_i a l hs
   rw [Bool.and_eq_true] at this
   obtain ⟨b1, b2, b3, b4, b5⟩ := of_decide_eq_true this.1
   exact ⟨a, l, hs, b1, b2, b3, b4, b5, fun b hb => of_decide_eq_true (List.all_eq_true.1 this.2 b hb)⟩
 ·have := f7a a6 hk
  split at this
  ·cases this
  ·rename_i a l hs
   rw [Bool.and_eq_true] at this
   obtain ⟨b1, b2⟩ := of_decide_eq_true this.1
   exact ⟨a, l, hs, b1, b2, fun b hb => of_decide_eq_true (List.all_eq_true.1 this.2 b hb)⟩
 ·have := f7a a7 hk
  rw [Bool.and_eq_true, List.isEmpty_iff] at this
  exact ⟨this.1, R4c this.2⟩
 ·have := f7a a8 hk
  rw [Bool.and_eq_true] at this
  exact ⟨c8a this.1, of_decide_eq_true this.2⟩
 ·have := f7a a9 hk
  rw [hu] at this; exact this
def stepB (p : e0a) (t : Int) (points : Int) (s : p1a) : Bool :=
 decide (1 ≤ s.kind ∧ s.kind ≤ 7) && decide (0 ≤ s.frm ∧ s.frm < points - 1) && decide (0 ≤ s.to ∧ s.to < points) && inB s.module_ p.modules.length && ifB (s.release = true) (decide (s.kind = 3)) &&
 ifB (s.target ≠ 0) (decide (s.kind = 6 ∨ s.kind = 7)) && (s.guard.valid p.cells false && decide (s.guard.w = 1)) &&
 (s.set.all fun a => inB a.cell p.cells.length && a.to.valid p.cells false && decide (a.to.w = wAt p.cells a.cell)) && pwB (fun a b => decide (a.cell ≠ b.cell)) s.set && C3c p t s
theorem H9b {p : e0a} {t points : Int} {s : p1a} (h : stepB p t points s = true) : s5a p t points s := by
 simp only [stepB, Bool.and_eq_true] at h
 obtain ⟨⟨⟨⟨⟨⟨⟨⟨⟨a1, a2⟩, a3⟩, a4⟩, a5⟩, a6⟩, a7, a7'⟩, a8⟩, a9⟩, a10⟩ := h
 refine ⟨of_decide_eq_true a1, of_decide_eq_true a2, of_decide_eq_true a3, c8a a4, fun hr => of_decide_eq_true (f7a a5 hr), fun hr => of_decide_eq_true (f7a a6 hr), ⟨a7, of_decide_eq_true a7'⟩, fun a ha => ?_, o0b (fun a b h => of_decide_eq_true h) a9, V9b a10⟩
 have := List.all_eq_true.1 a8 a ha
 simp only [Bool.and_eq_true] at this
 exact ⟨c8a this.1.1, this.1.2, of_decide_eq_true this.2⟩
def g2c (p : e0a) (t points : Int) (l : W3b) : Bool := decide (0 ≤ l.head ∧ l.head < points) && e9a l.body && (l.body.all fun x => decide (0 ≤ x ∧ x < points ∧ x ≠ l.head)) && (l.variant.valid p.cells false && i3b p.cells l.variant true t)
theorem f0c {p : e0a} {t points : Int} {l : W3b} (h : g2c p t points l = true) : G8b p t points l := by
 simp only [g2c, Bool.and_eq_true] at h
 obtain ⟨⟨⟨a1, a2⟩, a3⟩, a4, a5⟩ := h
 exact ⟨of_decide_eq_true a1, L7a a2, fun x hx => of_decide_eq_true (List.all_eq_true.1 a3 x hx), a4, I6a a5⟩
def K4b (p : e0a) (t : Nat) (x : U0a) : Bool :=
 u0b x.name && decide (1 ≤ x.points ∧ x.points ≤ 48) && decide (x.steps.length ≤ 64) && decide (x.loops.length ≤ 8) && decide ((x.asserts.length : Int) = x.points) && decide ((x.modules.length : Int) = x.points) &&
 (x.modules.all fun m => inB m p.modules.length) && (x.asserts.all fun e => N0b p.cells e false t) && (x.steps.all fun s => stepB p t x.points s) && (x.loops.all fun l => g2c p t x.points l)
theorem i6b {p : e0a} {t : Nat} {x : U0a} (h : K4b p t x = true) : c7a p t x := by
 simp only [K4b, Bool.and_eq_true] at h
 obtain ⟨⟨⟨⟨⟨⟨⟨⟨⟨a1, a2⟩, a3⟩, a4⟩, a5⟩, a6⟩, a7⟩, a8⟩, a9⟩, a10⟩ := h
 exact ⟨Q6a a1, of_decide_eq_true a2, of_decide_eq_true a3, of_decide_eq_true a4, of_decide_eq_true a5, of_decide_eq_true a6, fun m hm => c8a (List.all_eq_true.1 a7 m hm), fun m hm => O6a (List.all_eq_true.1 a8 m hm),
  fun m hm => H9b (List.all_eq_true.1 a9 m hm), fun m hm => f0c (List.all_eq_true.1 a10 m hm)⟩
def C4c (p : e0a) (c : h2a) : Bool := u0b c.name && decide (1 ≤ c.w ∧ c.w ≤ 8) && decide (0 ≤ c.init ∧ c.init < C4a c.w.toNat) && decide (-1 ≤ c.thread ∧ c.thread < p.threads.length) && inB c.module_ p.modules.length
theorem x1c {p : e0a} {c : h2a} (h : C4c p c = true) : G5b p c := by
 simp only [C4c, Bool.and_eq_true] at h
 obtain ⟨⟨⟨⟨a1, a2⟩, a3⟩, a4⟩, a5⟩ := h
 exact ⟨Q6a a1, of_decide_eq_true a2, of_decide_eq_true a3, of_decide_eq_true a4, c8a a5⟩
def j8c (p : e0a) (m : y2a) : Bool := u0b m.name && u0b m.owner && (O4b m.rely || N0b p.cells m.rely true (-1)) && N0b p.cells m.guar true (-1) && (m.frame.all fun x => inB x p.cells.length && decide (w1a p.cells x = -1)) && e9a m.frame
theorem V4c {p : e0a} {m : y2a} (h : j8c p m = true) : m0c p m := by
 simp only [j8c, Bool.and_eq_true, Bool.or_eq_true] at h
 obtain ⟨⟨⟨⟨⟨a1, a2⟩, a3⟩, a4⟩, a5⟩, a6⟩ := h
 refine ⟨Q6a a1, Q6a a2, a3.imp M6b O6a, O6a a4, fun x hx => ?_, L7a a6⟩
 have := List.all_eq_true.1 a5 x hx
 rw [Bool.and_eq_true] at this
 exact ⟨c8a this.1, of_decide_eq_true this.2⟩
def W4c (p : e0a) (l : n8a) : Bool := inB l.cell p.cells.length && decide (w1a p.cells l.cell = -1 ∧ wAt p.cells l.cell = 1 ∧ g0b p.cells l.cell = false) && inB l.module_ p.modules.length && N0b p.cells l.inv false (-1)
theorem S0c {p : e0a} {l : n8a} (h : W4c p l = true) : V5b p l := by
 simp only [W4c, Bool.and_eq_true] at h
 obtain ⟨⟨⟨a1, a2⟩, a3⟩, a4⟩ := h
 exact ⟨⟨c8a a1, of_decide_eq_true a2⟩, c8a a3, O6a a4⟩
def O6c (p : e0a) : Bool :=
 decide (p.cells.length ≤ 32) && decide (p.modules.length ≤ 6) && decide (p.locks.length ≤ 4) && decide (p.threads.length ≤ 4) &&
 p.cells.all (C4c p) && pwB (fun a b => decide (a.name ≠ b.name)) p.cells && p.modules.all (j8c p) && pwB (fun a b => decide (a.name ≠ b.name)) p.modules && p.locks.all (W4c p) && pwB (fun a b => decide (a.cell ≠ b.cell)) p.locks &&
 ((List.range p.threads.length).all fun t => match p.threads[t]? with | some x => K4b p t x | none => true) && pwB (fun a b => decide (a.name ≠ b.name)) p.threads
theorem B0c {p : e0a} (h : O6c p = true) : e1a p := by
 simp only [O6c, Bool.and_eq_true] at h
 obtain ⟨⟨⟨⟨⟨⟨⟨⟨⟨⟨⟨a1, a2⟩, a3⟩, a4⟩, a5⟩, a6⟩, a7⟩, a8⟩, a9⟩, a10⟩, a11⟩, a12⟩ := h
 refine ⟨of_decide_eq_true a1, of_decide_eq_true a2, of_decide_eq_true a3, of_decide_eq_true a4, fun c hc => x1c (List.all_eq_true.1 a5 c hc), o0b (fun _ _ h => of_decide_eq_true h) a6, fun c hc => V4c (List.all_eq_true.1 a7 c hc),
  o0b (fun _ _ h => of_decide_eq_true h) a8, fun c hc => S0c (List.all_eq_true.1 a9 c hc), o0b (fun _ _ h => of_decide_eq_true h) a10, fun t ht => ?_, o0b (fun _ _ h => of_decide_eq_true h) a12⟩
 have := List.all_eq_true.1 a11 t (List.mem_range.2 ht)
 rw [List.getElem?_eq_getElem ht] at this
 exact i6b this
end Go.Fw
namespace Go.Fw
open Go.RowKit
section
variable {P : Program} {r : Option Nat} {N : Nat} {D : List Deferred} {e : Env} {w : World} {ops : Array Oper} {rest : List Oper} {K : List Deferred → Env → World → Prop}
variable {d : Nat} {t : TypeId} {p : String} {af : Array Edge} {x y : Operand} {xt yt : TypeId} {kd : IntKind} {a b : Int} {C : World → Prop} {Kq : Env → Prop}
theorem H0c (w : World) (h0 : 0 ≤ a) (h1 : 0 < b) : (Op.intDiv .rem kd a b).run P w = .ok (.int kd (a % b)) w := by
 have hb : b ≠ 0 := by omega
 have ht : a.tmod b = a % b := Int.tmod_eq_emod_of_nonneg h0
 simp [Op.intDiv, hb, ht]
theorem c8c (hx : ev e x = .int kd a) (hy : ev e y = .int kd b) (h0 : 0 ≤ a) (h1 : 0 < b) (hd : Nat.ble (d + 1) N = true) (h : WL P r N ops rest K D (upd e d (.int kd (a % b))) w) :
 WL P r N ops (⟨some d, .binOp .rem xt x y yt, t, p, af, none⟩ :: rest) K D e w :=
 X0a rfl rfl hd (by simp) (by simp [execOp, hx, hy, eqGuard, binOp, H0c w h0 h1]) h
end
section
variable {α : Type} {M : List Nat} {w : World} {size : Nat} {R : List Value → α → Prop} {g : Nat}
theorem v7b {css : List (List Value)} {l : List α} {n : Nat} (hg : g ∉ M) (hc : v1a w g 0 css.flatten) (hn : n = l.length) (hl : css.length = l.length) (hl2 : l.length ≤ 1000000) (h4 : ∀ x ∈ css, x.length = size) (hR : ∀ (i : Nat) (x : α), l[i]? = some x → ∃ c, css[i]? = some c ∧ R c x) : RdS M w size R (.slice (some ⟨g, 0, none⟩) n n) l := by
 subst hn
 refine ⟨_, _, _, rfl, rfl, Nat.le_refl _, by unfold maxLen; omega, by omega, fun _ => ⟨g, 0, rfl, hg, fun i x hi => ?_⟩⟩
 obtain ⟨c, h5, h6⟩ := hR i x hi
 exact ⟨c, h4 c (List.mem_of_getElem? h5), fun j u hj => by simpa using hc _ u (V2c css i c h4 h5 j u hj), h6⟩
theorem H1b {c : List Value} {x : α} (hg : g ∉ M) (hc : v1a w g 0 c) (h4 : c.length = size) (hr : R c x) : RdS M w size R (.slice (some ⟨g, 0, none⟩) 1 1) [x] :=
 v7b (css := [c]) hg (by simpa using hc) rfl rfl (by simp) (by simpa using h4) (fun i y hi => by
  match i, hi with
  | 0, hi => cases hi; exact ⟨c, rfl, hr⟩)
theorem t6c {c c2 : List Value} {x x2 : α} (hg : g ∉ M) (hc : v1a w g 0 (c ++ c2)) (h4 : c.length = size) (h5 : c2.length = size) (hr : R c x) (hr2 : R c2 x2) : RdS M w size R (.slice (some ⟨g, 0, none⟩) 2 2) [x, x2] :=
 v7b (css := [c, c2]) hg (by simpa using hc) rfl rfl (by simp) (by simpa using ⟨h4, h5⟩) (fun i y hi => by
  match i, hi with
  | 0, hi => cases hi; exact ⟨c, rfl, hr⟩
  | 1, hi => cases hi; exact ⟨c2, rfl, hr2⟩)
end
theorem v2b {P : Program} {f : FuncId} {args : Array Value} {w : World} {b : Bool} (h : R0a P f args w fun v w' => v = .bool b ∧ Below w.heap.size w w') (hb : b = true) : R0a P f args w fun v w' => v = .bool true ∧ Below w.heap.size w w' := by
 subst hb; exact h
end Go.Fw
namespace Go.Fw
open Go.RowKit
structure p4a where
 at_ : Int
 kind : Int
 module_ : Int
 thread : Int
 item : Int
  deriving DecidableEq
def m8a (cs : List Value) (v : p4a) : Prop := cs = [.int .i64 v.at_, .int .i64 v.kind, .int .i64 v.module_, .int .i64 v.thread, .int .i64 v.item] ∧ i64 v.at_ ∧ i64 v.kind ∧ i64 v.module_ ∧ i64 v.thread ∧ i64 v.item
abbrev V6b (M : List Nat) (w : World) (v : Value) (l : List p4a) : Prop := RdS M w 5 m8a v l
theorem U2a : p8a (fun (_ : List Nat) (_ : World) => m8a) 5 where
 len h := by rw [h.1]; rfl
 one h u hu := by rw [h.1] at hu; simp at hu; rcases hu with rfl | rfl | rfl | rfl | rfl <;> rfl
 keep _ h := h
 more _ h := h
theorem m8a.of {a k m t i : Int} (h1 : i64 a) (h2 : i64 k) (h3 : i64 m) (h4 : i64 t) (h5 : i64 i) : m8a [.int .i64 a, .int .i64 k, .int .i64 m, .int .i64 t, .int .i64 i] ⟨a, k, m, t, i⟩ := ⟨rfl, h1, h2, h3, h4, h5⟩
def q6c : p1a := ⟨0, 0, 0, ⟨0, 0, 0, []⟩, [], false, 0, 0⟩
def q8c : y2a := ⟨ByteArray.empty, ByteArray.empty, ⟨0, 0, 0, []⟩, ⟨0, 0, 0, []⟩, []⟩
def G7c : U0a := ⟨ByteArray.empty, 0, [], [], [], [], false⟩
def noE : E := ⟨0, 0, 0, []⟩
def W6a (c : F0a) : Bool := !(c.buf.any fun b => decide (0 < b.length))
structure EvD where
 at_ : Int
 x : o0a
 c : F0a
 d : F0a
section
variable (p : e0a) (e : EvD)
def EvD.step : Bool := decide (0 ≤ e.at_) && decide (e.x.step ≠ -1)
def EvD.still : Bool := e.step && (W6a e.c && W6a e.d)
def sOf : p1a := (i2a p e.x.thread.toNat).getD e.x.step.toNat q6c
def h2b (m : Int) : y2a := p.modules.getD m.toNat q8c
def b6a (t : Nat) : U0a := p.threads.getD t G7c
def f3b (kind : Int) : p4a := ⟨e.at_, kind, (sOf p e).module_, e.x.thread, e.x.step⟩
def q4a (s : p1a) : Bool := s.set.any fun a => decide (w1a p.cells a.cell = -1) && !decide (a.cell ∈ (h2b p s.module_).frame)
def Q3a : List p4a := if e.still = true ∧ q4a p (sOf p e) = true then [f3b p e 4] else []
def s8a : Bool := decide ((h2b p (sOf p e).module_).guar.evl e.c.mem e.d.mem ≠ 0)
def m6a : List p4a := if e.still = true ∧ s8a p e = false then [f3b p e 3] else []
def P9a (t : Nat) : List p4a :=
 if (t : Int) = e.x.thread ∨ e.c.at_.getD t 0 = -1 then []
 else if (h2b p ((b6a p t).modules.getD (e.c.at_.getD t 0).toNat 0)).rely.op ≠ 0 ∧ (h2b p ((b6a p t).modules.getD (e.c.at_.getD t 0).toNat 0)).rely.evl e.c.mem e.d.mem = 0 then
  [⟨e.at_, 5, (b6a p t).modules.getD (e.c.at_.getD t 0).toNat 0, t, e.c.at_.getD t 0⟩]
 else []
def M6a (k : Nat) : List p4a := (List.range k).flatMap (P9a p e)
def q8a : List p4a := if e.still = true ∧ Q3a p e = [] ∧ m6a p e = [] then M6a p e p.threads.length else []
def O1b (l : n8a) : Int := if e.step = true then (sOf p e).module_ else if 0 ≤ e.at_ then (b6a p e.x.thread.toNat).modules.getD (e.d.at_.getD e.x.thread.toNat 0).toNat 0 else l.module_
def v7a (i : Nat) : List p4a := match p.locks[i]? with
 | some l => if e.d.mem.getD l.cell.toNat 0 ≠ 0 ∨ l.inv.evl e.d.mem e.d.mem ≠ 0 then [] else [⟨e.at_, 2, O1b p e l, if 0 ≤ e.at_ then e.x.thread else -1, i⟩]
 | none => []
def b5a (k : Nat) : List p4a := (List.range k).flatMap (v7a p e)
def r5a : List p4a := if W6a e.d = true then b5a p e p.locks.length else []
def M3a (t : Nat) : Int := if e.step = true ∧ ((t : Int) = e.x.thread ∨ (sOf p e).kind = 6 ∧ (sOf p e).target = t) then (sOf p e).module_ else (b6a p t).modules.getD (e.d.at_.getD t 0).toNat 0
def m3a (t : Nat) : List p4a :=
 if e.d.at_.getD t 0 = -1 ∨ ((b6a p t).asserts.getD (e.d.at_.getD t 0).toNat noE).evl e.d.mem e.d.mem ≠ 0 then []
 else [⟨e.at_, 1, M3a p e t, t, e.d.at_.getD t 0⟩]
def g3a (k : Nat) : List p4a := (List.range k).flatMap (m3a p e)
def R2a : List p4a := if W6a e.d = true then g3a p e p.threads.length else []
def t5a : List p4a := (if 0 ≤ e.at_ then Q3a p e ++ (m6a p e ++ q8a p e) else []) ++ (r5a p e ++ R2a p e)
end
def T2c : o0a := ⟨0, 0, 0⟩
def noC : F0a := ⟨[], [], []⟩
def i7a (run : List o0a) (l : List F0a) (i : Nat) : EvD := if i = 0 then ⟨-1, T2c, noC, l.getD 0 noC⟩ else ⟨(i : Int) - 1, run.getD (i - 1) T2c, l.getD (i - 1) noC, l.getD i noC⟩
def L3a (p : e0a) (run : List o0a) (l : List F0a) (k : Nat) : List p4a := (List.range k).flatMap fun i => t5a p (i7a run l i)
def s4a (p : e0a) (m : Int) (run : List o0a) : List p4a := L3a p run (O1a p m run) (O1a p m run).length
structure D1b (p : e0a) (e : EvD) : Prop where
 lo : -1 ≤ e.at_
 hi : e.at_ ≤ 1000
 d : D5a p e.d
 c : 0 ≤ e.at_ → D5a p e.c
 t : 0 ≤ e.at_ → 0 ≤ e.x.thread ∧ e.x.thread < p.threads.length
 s : 0 ≤ e.at_ → e.x.step = -1 ∨ (0 ≤ e.x.step ∧ e.x.step < (i2a p e.x.thread.toNat).length)
 aw : 0 ≤ e.at_ → e.d.at_.getD e.x.thread.toNat 0 ≠ -1
 ci : e.at_ = -1 → e.x = T2c ∧ e.c = noC
section
variable {p : e0a} {e : EvD}
theorem V1a {t : Nat} {th : U0a} (h : p.threads[t]? = some th) : b6a p t = th := getD_some h
theorem b3a {m : Int} {c : y2a} (h : p.modules[m.toNat]? = some c) : h2b p m = c := getD_some h
theorem j4a (k : Nat) : M6a p e (k + 1) = M6a p e k ++ P9a p e k := by simp [M6a, List.range_succ]
theorem Y2a (k : Nat) : b5a p e (k + 1) = b5a p e k ++ v7a p e k := by simp [b5a, List.range_succ]
theorem a2a (k : Nat) : g3a p e (k + 1) = g3a p e k ++ m3a p e k := by simp [g3a, List.range_succ]
theorem c3b {run : List o0a} {l : List F0a} (k : Nat) : L3a p run l (k + 1) = L3a p run l k ++ t5a p (i7a run l k) := by simp [L3a, List.range_succ]
theorem g6a {f : Nat → List p4a} {n : Nat} (h : ∀ i, (f i).length ≤ n) : ∀ k, ((List.range k).flatMap f).length ≤ k * n
 | 0 => by simp
 | k + 1 => by
   have h1 := g6a h k
   have h2 := h k
   have h3 : ([k].flatMap f).length = (f k).length := by simp
   rw [List.range_succ, List.flatMap_append, List.length_append, Nat.add_mul]
   omega
theorem c8b (k : Nat) : (P9a p e k).length ≤ 1 := by
 unfold P9a
 split
 ·simp
 ·split <;> simp
theorem K8b (k : Nat) : (v7a p e k).length ≤ 1 := by
 unfold v7a
 split
 ·split <;> simp
 ·simp
theorem h5b (k : Nat) : (m3a p e k).length ≤ 1 := by unfold m3a; split <;> simp
theorem j0b : (Q3a p e).length ≤ 1 := by unfold Q3a; split <;> simp
theorem E3b : (m6a p e).length ≤ 1 := by unfold m6a; split <;> simp
theorem f6a (k : Nat) : (M6a p e k).length ≤ k := by have := g6a (c8b (p := p) (e := e)) k; simpa [M6a] using this
theorem S2a (k : Nat) : (b5a p e k).length ≤ k := by have := g6a (K8b (p := p) (e := e)) k; simpa [b5a] using this
theorem X1a (k : Nat) : (g3a p e k).length ≤ k := by have := g6a (h5b (p := p) (e := e)) k; simpa [g3a] using this
theorem t6b (hp : e1a p) : (t5a p e).length ≤ 16 := by
 have h1 := j0b (p := p) (e := e)
 have h2 := E3b (p := p) (e := e)
 have h3 := f6a (p := p) (e := e) p.threads.length
 have h4 := S2a (p := p) (e := e) p.locks.length
 have h5 := X1a (p := p) (e := e) p.threads.length
 have h6 := hp.nthreads
 have h7 := hp.nlocks
 unfold t5a q8a r5a R2a
 repeat' split
 all_goals simp <;> omega
theorem H9a (hp : e1a p) {run : List o0a} {l : List F0a} (k : Nat) : (L3a p run l k).length ≤ k * 16 := g6a (fun _ => t6b hp) k
end
end Go.Fw
namespace Go.Fw
open Go.RowKit
section
variable {P : Program} {r : Option Nat} {N : Nat} {D : List Deferred} {e : Env} {w w0 : World} {ops : Array Oper} {rest : List Oper} {K : List Deferred → Env → World → Prop} {L : List Ent} {M : List Nat}
variable {d : Nat} {t : TypeId} {p : String} {af : Array Edge} {f : FuncId} {args : Array Operand} {at_ : Array TypeId} {vs : List Value} {x : Operand}
theorem r0c {g : Operand} {b : Bool} (S : St M w0 w L) (hH : Has P f) (hg : ev e g = .func (.func f) #[] #[]) (hvs : args.toList.map (ev e) = vs) (hd : Nat.ble (d + 1) N = true)
 (hc : R0a P f vs.toArray w fun v w' => v = .bool b ∧ Below w.heap.size w w') (h1 : b = true → ∀ w1, St M w0 w1 L → G0a [] w w1 → WL P r N ops rest K D (upd e d (.bool true)) w1)
 (h2 : b = false → ∀ w1, St M w0 w1 L → G0a [] w w1 → WL P r N ops rest K D (upd e d (.bool false)) w1) :
 WL P r N ops (⟨some d, .call { callee := .value g, args := args, argTypes := at_ }, t, p, af, none⟩ :: rest) K D e w := by
 refine S8a hH hg (vs := vs) (by simpa using hvs) hd hc fun v w' ⟨hv, hb⟩ => ?_
 subst hv
 cases b
 ·exact h2 rfl w' (S.later hb) (G0a.of_below hb)
 ·exact h1 rfl w' (S.later hb) (G0a.of_below hb)
end
end Go.Fw
namespace Go.Proofs.YtjjmdcnmeommbaaGreatDoor
open Go.Fw Go.RowKit
structure r2b (p : e0a) (e : EvD) (M : List Nat) (w : World) (g : Nat) (cs xs ys : List Value) : Prop where
 cell : v1a w g 0 (cs ++ (.int .i64 e.at_ :: .int .i64 e.x.thread :: .int .i64 e.x.step :: .int .i64 e.x.cell :: (xs ++ ys)))
 inp : InP p M w cs
 c : J0a M w e.c xs
 d : J0a M w e.d ys
 out : g ∉ M
 ok : D1b p e
theorem r2b.keep {p : e0a} {e : EvD} {M : List Nat} {w w' : World} {g : Nat} {cs xs ys : List Value} (h : r2b p e M w g cs xs ys) (hk : G0a M w w') : r2b p e M w' g cs xs ys :=
 ⟨h.cell.keep hk h.out, h.inp.keep hk, h.c.keep hk, h.d.keep hk, h.out, h.ok⟩
theorem e7a (p : e0a) (e : EvD) (M : List Nat) (w0 : World) (ge : Nat) (cs xs ys : List Value) (hE : r2b p e M w0 ge cs xs ys) :
 R0a Tryz.prog 160 #[.pointer (some ⟨ge, 0, none⟩)] w0 fun v w' => v = .bool e.step ∧ Below w0.heap.size w0 w' := by
 obtain ⟨_, _, _, _, _, _, _, _, _, _, _, _, rfl, -⟩ := hE.inp.rd.open_
 have hc0 := hE.cell
 have S := St.refl w0
 refine a0a Tryz.func160 rfl Tryz.ntmps160 rfl ?_
 refine wB (S.k.a hc0) [.f 0 4] rfl ⟨rfl,⟨⟩⟩ (fun h7 => ?_) fun h7 => ?_
 ·refine lB (S.k.a hc0) [.f 0 6] rfl ⟨rfl,⟨⟩⟩ (fun h14 => ?_) fun h14 => ?_
  ·refine lT rfl ⟨⟩ rfl ⟨congrArg Value.bool ?_, S.fin⟩
   unfold EvD.step
   simp; omega
  refine lT rfl ⟨⟩ rfl ⟨congrArg Value.bool ?_, S.fin⟩
  unfold EvD.step
  simp; omega
 refine lT rfl ⟨⟩ rfl ⟨congrArg Value.bool ?_, S.fin⟩
 unfold EvD.step
 simp; omega
theorem m7b (b : List L0a) (M : List Nat) (w0 : World) (v : Value) (hR : x5c M w0 v b) :
 R0a Tryz.prog 192 #[v] w0 fun v w' => v = .bool (decide (0 < b.length)) ∧ Below w0.heap.size w0 w' := by
 obtain ⟨_, _, _, rfl⟩ := hR.form
 have hn := hR.len.1
 have S := St.refl w0
 refine a0a Tryz.func192 rfl Tryz.ntmps192 rfl ?_
 refine wB0 rfl ⟨⟩ (fun h5 => ?_) fun h5 => ?_
 ·refine lT rfl ⟨⟩ rfl ⟨congrArg Value.bool ?_, S.fin⟩
  exact (decide_eq_true (by omega)).symm
 refine lT rfl ⟨⟩ rfl ⟨congrArg Value.bool ?_, S.fin⟩
 exact (decide_eq_false (by omega)).symm
theorem j1b (M : List Nat) (w0 : World) (v : Value) (l : List (List L0a)) (hR : A5c M w0 v l) :
 R0a Tryz.prog 207 #[v, .func (.func 192) #[] #[]] w0 fun v w' => (∃ n, v = .int .i64 n ∧ (0 ≤ n ↔ (l.any fun b => decide (0 < b.length)) = true)) ∧ Below w0.heap.size w0 w' := by
 obtain ⟨A, n, c, rfl⟩ := hR.form
 obtain ⟨_, _, _⟩ := hR.len
 have S := St.refl w0
 refine a0a Tryz.func207 rfl Tryz.ntmps207 rfl ?_
 refine wC0 rfl ⟨⟩ (wL (fun μk D ε w => D = [] ∧ ∃ k : Nat, (k + μk = (l.length)) ∧ (r1a (l) k (fun x => decide (0 < x.length) = false)) ∧ St [] w0 w [] ∧ Sl ε [(0, .slice A n c), (1, .func (.func 192) #[] #[]), (7, .int .i64 n), (8, .int .i64 k)]) (μ := (l.length)) ⟨rfl, 0, by omega, r1a.zero, S, rfl⟩ ?_)
 rintro μk D ε w ⟨rfl, k, _, ha, S, eZ⟩
 refine wK eZ (wB0 rfl ⟨⟩ (fun h9 => ?_) fun h9 => ?_)
 ·obtain ⟨x, b14, p14, _, hxx, hA14, _, _, hc14, hr14⟩ := RdS.get (hR) (k) (by omega)
  obtain ⟨Ab14, nb14, cb14, rfl, hBu14, _, _⟩ := d7a.open_ hr14
  refine lO (S.k.a hc14) [.x b14 p14,.f 0 0] rfl ⟨rfl,⟨hA14,by omega⟩,⟨⟩⟩ (r0c (vs := [.slice Ab14 nb14 cb14]) S z2c rfl rfl rfl (m7b x M _ _ (RdS.keepW hBu14 (S.keep0 M) (k1a.keep (S.keep0 M)))) (fun h16 w16 S16 X16 => ?_) (fun h16 w16 S16 X16 => ?_))
  ·exact lT rfl ⟨⟩ rfl ⟨⟨_, rfl, ⟨fun _ => List.any_eq_true.2 ⟨x, d0a hxx, h16⟩, fun _ => by omega⟩⟩, S16.fin⟩
  refine lP0 rfl ⟨by omega,⟨⟩⟩ ⟨μk - 1, by omega, rfl, (k + 1), (by omega), (ha.succ hxx (h16)), S16, rfl⟩
 refine lT rfl ⟨⟩ rfl ?_
 refine ⟨⟨_, rfl, ⟨fun h => by omega, fun h => ?_⟩⟩, S.fin⟩; obtain ⟨x, h1, h2⟩ := List.any_eq_true.1 h; rw [ha.all (by omega) x h1] at h2; cases h2
theorem j8a (M : List Nat) (w0 : World) (v : Value) (l : List (List L0a)) (hR : A5c M w0 v l) :
 R0a Tryz.prog 191 #[v, .func (.func 192) #[] #[]] w0 fun v w' => v = .bool (l.any fun b => decide (0 < b.length)) ∧ Below w0.heap.size w0 w' := by
 obtain ⟨_, _, _, rfl⟩ := hR.form
 have S := St.refl w0
 refine a0a Tryz.func191 rfl Tryz.ntmps191 rfl ?_
 refine wO0 rfl ⟨⟩ (M0a S p5c rfl rfl (j1b M _ _ l (RdS.keepW hR (S.keep0 M) (d7a.keep (S.keep0 M)))) ?_)
 rintro v7 w7 ⟨_, rfl, hm⟩ S7 X7
 refine lB0 rfl ⟨⟩ (fun h8 => ?_) fun h8 => ?_
 ·refine lR0 rfl ⟨⟩ (q0a rfl (by conv => lhs; whnf) ?_)
  exact ⟨by rw [hm.1 (by omega)], S7.fin⟩
 refine lT rfl ⟨⟩ rfl ?_
 refine ⟨congrArg Value.bool ?_, S7.fin⟩; cases hq : (l.any fun b => decide (0 < b.length)) with | false => rfl | true => exact absurd (hm.2 hq) (by omega)
theorem U6a (c : F0a) (M : List Nat) (w0 : World) (xs : List Value) (hX : J0a M w0 c xs) :
 R0a Tryz.prog 158 #[.agg xs.toArray] w0 fun v w' => v = .bool (W6a c) ∧ Below w0.heap.size w0 w' := by
 obtain ⟨_, _, _, _, _, _, _, _, _, rfl, _, _, hBuf, _, _, _, _, _, _⟩ := hX.open_
 have S := St.refl w0
 refine a0a Tryz.func158 rfl Tryz.ntmps158 rfl ?_
 refine wO0 rfl ⟨⟩ (m0a S (by conv => lhs; whnf) rfl ?_)
 intro g1 w1 S1 X1 G1
 refine lO S1.k [.o 0] rfl ⟨rfl,⟨⟩⟩ (f0a S1 q5c rfl rfl (j8a M _ _ c.buf (RdS.keepW hBuf (S1.keep0 M) (d7a.keep (S1.keep0 M)))) ?_)
 intro w5 S5 X5
 exact lT rfl ⟨⟩ rfl ⟨rfl, S5.fin⟩
theorem T2b (x : E) (l : List Int) (M : List Nat) (w0 : World) (es : List Value) (v : Value) (hR : RdE M w0 x es) (hK : e3a M w0) (hL : RdI M w0 v l) :
 R0a Tryz.prog 159 #[.agg es.toArray, v] w0 fun v w' => v = .bool (decide (x.evl l l ≠ 0)) ∧ Below w0.heap.size w0 w' := by
 obtain ⟨_, _, _, rfl, -⟩ := RdE.cells hR
 obtain ⟨_, _, _, rfl⟩ := hL.form
 have S := St.refl w0
 refine a0a Tryz.func159 rfl Tryz.ntmps159 rfl ?_
 refine wO0 rfl ⟨⟩ (m0a S (by conv => lhs; whnf) rfl ?_)
 intro g2 w2 S2 X2 G2
 refine lO S2.k [.w 0] rfl ⟨⟨rfl,by rfl⟩,⟨⟩⟩ (f0a S2 Q5a rfl rfl (Y3a x M _ _ _ _ l l (RdE.keep (S2.keep0 M) _ _ hR) (hK.keep (S2.keep0 M)) (hL.keep (S2.keep0 M)) (hL.keep (S2.keep0 M))) ?_)
 intro w8 S8 X8
 refine lB0 rfl ⟨⟩ (fun h9 => ?_) fun h9 => ?_
 ·refine lT rfl ⟨⟩ rfl ⟨congrArg Value.bool ?_, S8.fin⟩
  simp [h9]
 refine lT rfl ⟨⟩ rfl ⟨congrArg Value.bool ?_, S8.fin⟩
 simp [h9]
theorem s1b (p : e0a) (e : EvD) (M : List Nat) (w0 : World) (ge : Nat) (cs xs ys : List Value) (hE : r2b p e M w0 ge cs xs ys) :
 R0a Tryz.prog 154 #[.pointer (some ⟨ge, 0, none⟩)] w0 fun v w' => v = .bool e.still ∧ Below w0.heap.size w0 w' := by
 obtain ⟨_, _, _, _, _, _, _, _, _, _, _, _, rfl, -⟩ := hE.inp.rd.open_
 obtain ⟨_, _, _, _, _, _, _, _, _, rfl, -⟩ := hE.c.open_
 obtain ⟨_, _, _, _, _, _, _, _, _, rfl, -⟩ := hE.d.open_
 have hc0 := hE.cell
 have S := St.refl w0
 refine a0a Tryz.func154 rfl Tryz.ntmps154 rfl ?_
 refine wO0 rfl ⟨⟩ (r0a S a1b rfl rfl (e7a p e M _ _ _ _ _ (hE.keep (S.keep0 M))) (fun h4 w4 S4 X4 => ?_) (fun h4 w4 S4 X4 => ?_))
 ·refine lO (S4.k.a hc0) [.f 0 8] rfl ⟨rfl,⟨⟩⟩ (r0a S4 L1b rfl rfl (U6a e.c M _ _ (hE.c.keep (S4.keep0 M))) (fun h10 w10 S10 X10 => ?_) (fun h10 w10 S10 X10 => ?_))
  ·refine lO (S10.k.a hc0) [.f 0 11] rfl ⟨rfl,⟨⟩⟩ (r0a S10 L1b rfl rfl (U6a e.d M _ _ (hE.d.keep (S10.keep0 M))) (fun h17 w17 S17 X17 => ?_) (fun h17 w17 S17 X17 => ?_))
   ·refine lT rfl ⟨⟩ rfl ⟨congrArg Value.bool ?_, S17.fin⟩
    unfold EvD.still
    rw [h4, h10, h17]; rfl
   refine lT rfl ⟨⟩ rfl ⟨congrArg Value.bool ?_, S17.fin⟩
   unfold EvD.still
   rw [h4, h10, h17]; rfl
  refine lT rfl ⟨⟩ rfl ⟨congrArg Value.bool ?_, S10.fin⟩
  unfold EvD.still
  rw [h4, h10]; rfl
 refine lT rfl ⟨⟩ rfl ⟨congrArg Value.bool ?_, S4.fin⟩
 unfold EvD.still
 rw [h4]; rfl
end Go.Proofs.YtjjmdcnmeommbaaGreatDoor
namespace Go.Proofs.YtjjmdcnmeommbaaGreatDoor
open Go.Fw Go.RowKit
def O5a (w : World) (cs : List Value) (x : o0a) (ss : List Value) : Prop :=
 ∃ (bt ot nt ct bs os ns cn : Nat) (a1 a2 a3 a4 a5 a6 : Value), cs[3]? = some (.slice (some ⟨bt, ot, none⟩) nt ct) ∧ (0 ≤ x.thread ∧ x.thread < nt) ∧ v1a w bt (ot + x.thread.toNat * 7) [a1, a2, a3, a4, .slice (some ⟨bs, os, none⟩) ns cn, a5, a6] ∧
  (0 ≤ x.step ∧ x.step < ns) ∧ v1a w bs (os + x.step.toNat * 11) ss ∧ ss.length = 11
theorem N9b {p : e0a} {e : EvD} {th : U0a} {s : p1a} (h : p.threads[e.x.thread.toNat]? = some th) (hs : th.steps[e.x.step.toNat]? = some s) : sOf p e = s := by
 unfold sOf; rw [C1a h]; exact getD_some hs
theorem r2b.step {p : e0a} {e : EvD} {M : List Nat} {w : World} {g : Nat} {cs xs ys : List Value} (h : r2b p e M w g cs xs ys) (hs : e.step = true) :
 ∃ ss th, O5a w cs e.x ss ∧ x1a M w ss (sOf p e) ∧ p.threads[e.x.thread.toNat]? = some th ∧ th.steps[e.x.step.toNat]? = some (sOf p e) ∧ sOf p e ∈ th.steps := by
 obtain ⟨_, _, _, _, _, _, _, _, _, _, nt, ct, rfl, _, _, _, hTh, _, _, _, _, _, _, _, _⟩ := h.inp.rd.open_
 unfold EvD.step at hs
 simp only [Bool.and_eq_true, decide_eq_true_eq] at hs
 obtain ⟨h0, h1⟩ := hs
 have ht := h.ok.t h0
 have hst := (h.ok.s h0).resolve_left h1
 obtain ⟨th, b, o, _, hth, hA, -, -, hc, hr⟩ := RdS.get hTh e.x.thread.toNat (by omega)
 obtain ⟨_, _, _, _, _, _, _, ns, cn, _, _, _, rfl, -, -, -, hSt, -, -, -, _, -⟩ := I0a.open_ hr
 rw [C1a hth] at hst
 obtain ⟨s, b2, o2, c2, hs2, hA2, -, hl2, hc2, hr2⟩ := RdS.get hSt e.x.step.toNat (by omega)
 have he := N9b (p := p) (e := e) hth hs2
 rw [he]
 subst hA; subst hA2
 exact ⟨c2, th, ⟨b, o, nt, ct, b2, o2, ns, cn, _, _, _, _, _, _, rfl, ⟨ht.1, by omega⟩, hc, ⟨hst.1, by omega⟩, hc2, hl2⟩, hr2, hth, hs2, d0a hs2⟩
theorem O5a.keep {w w' : World} {cs : List Value} {x : o0a} {ss : List Value} (h : O5a w cs x ss) (hk : G0a [] w w') : O5a w' cs x ss := by
 obtain ⟨bt, ot, nt, ct, bs, os, ns, cn, a1, a2, a3, a4, a5, a6, h1, h2, h3, h4, h5, h6⟩ := h
 exact ⟨bt, ot, nt, ct, bs, os, ns, cn, a1, a2, a3, a4, a5, a6, h1, h2, h3.keep hk (by simp), h4, h5.keep hk (by simp), h6⟩
theorem Y4a (p : e0a) (e : EvD) (M : List Nat) (w0 : World) (ge : Nat) (cs xs ys ss : List Value) (hE : r2b p e M w0 ge cs xs ys) (hss : O5a w0 cs e.x ss) (s : p1a) (hr : x1a M w0 ss s) :
 R0a Tryz.prog 155 #[.pointer (some ⟨ge, 0, none⟩)] w0 fun v w' => v = .agg ss.toArray ∧ Below w0.heap.size w0 w' := by
 obtain ⟨bt, ot, _, _, bs, os, _, _, _, _, _, _, _, _, h3, _, hcT, _, hcS, hls⟩ := hss
 obtain ⟨_, _, _, _, _, _, _, _, _, _, _, _, rfl, -⟩ := hE.inp.rd.open_
 simp only [List.getElem?_cons_succ, List.getElem?_cons_zero, Option.some.injEq, Value.slice.injEq] at h3
 obtain ⟨rfl, rfl, rfl⟩ := h3
 obtain ⟨_, _, _, _, _, _, rfl, -⟩ := x1a.open_ hr
 have hc0 := hE.cell
 have S := St.refl w0
 refine a0a Tryz.func155 rfl Tryz.ntmps155 rfl ?_
 refine wO0 rfl ⟨⟩ (h0a S Y9a rfl rfl ?_)
 intro g2 w2 S2 X2 G2
 refine lC0 rfl ⟨⟩ (u0a b0a [0, 1, 2, 3, 4, 5, 6, 7, 8, 9, 10, 11, 12, 13, 14, 15, 16, 17, 18, 19] [] [20] (by kernel_rfl) rfl (Cl _ _ _ _) (Cl.start S2) ?_)
 refine qN (((S2.q.a hcS).a hcT).a hc0) [.f 0 3,.f 0 5,.x bt ot,.f 1 4,.f 0 6,.x bs os,.v 2] rfl ⟨⟨rfl,hls⟩,⟨rfl,by omega⟩,rfl,rfl,⟨rfl,by omega⟩,rfl,rfl,⟨⟩⟩ (c3a ?_)
 refine y1a ?_
 rintro wR1 ⟨SR1, _⟩
 first | refine c0a (kk := 0) (vs := [_, _, _, _, _, _, _, _, _, _, _]) SR1 U9a rfl rfl rfl rfl rfl rfl rfl ?_
 intro w1_20 S1_20 X1_20
 dsimp only [k0a, List.set] at S1_20
 exact lR0 rfl ⟨⟩ (F1a (n := 11) rfl g8b rfl (S1_20.cells 0 rfl) rfl ⟨rfl, S1_20.fin⟩)
theorem P2b (p : e0a) (e : EvD) (kind : Int) (M : List Nat) (w0 : World) (ge : Nat) (cs xs ys : List Value) (hE : r2b p e M w0 ge cs xs ys) (hs : e.step = true) :
 R0a Tryz.prog 157 #[.pointer (some ⟨ge, 0, none⟩), .int .i64 kind] w0 fun v w' => v = .agg #[.int .i64 e.at_, .int .i64 kind, .int .i64 (sOf p e).module_, .int .i64 e.x.thread, .int .i64 e.x.step] ∧ Below w0.heap.size w0 w' := by
 obtain ⟨_, _, hss, hr, -⟩ := hE.step hs
 obtain ⟨_, _, _, _, _, _, _, _, _, _, _, _, rfl, -⟩ := hE.inp.rd.open_
 obtain ⟨_, _, _, _, _, _, rfl, -⟩ := x1a.open_ hr
 have hc0 := hE.cell
 have S := St.refl w0
 refine a0a Tryz.func157 rfl Tryz.ntmps157 rfl ?_
 refine wO0 rfl ⟨⟩ (h0a S x6b rfl rfl ?_)
 intro g4 w4 S4 X4 G4
 refine lC0 rfl ⟨⟩ (u0a b0a [0, 1, 2, 3, 4, 5, 6, 7, 8, 9, 10, 11, 12, 13, 14, 15, 16, 17, 18] [] [19] (by kernel_rfl) rfl (Cl _ _ _ _) (Cl.start S4) ?_)
 refine qO (S4.q.a hc0) [.f 0 4] rfl ⟨rfl,⟨⟩⟩ (T1a Z4a rfl rfl (fun w1 S1 X1 => Y4a p e M _ _ _ _ _ _ (hE.keep (S1.keep0 M)) (hss.keep (S1.keep0 [])) _ (x1a.keep (S1.keep0 M) _ _ hr)) ?_)
 refine qO (S4.q.a hc0) [.f 0 5,.f 0 6] rfl ⟨rfl,rfl,⟨⟩⟩ (j3a a8a (vs := [(0, .int .i64 _), (1, .int .i64 _), (2, .int .i64 _), (3, .int .i64 _), (4, .int .i64 _)]) (cs := [_, _, _, _, _]) rfl rfl rfl rfl ?_)
 refine qD rfl ⟨⟩ ?_
 rintro wR1 ⟨SR1, _⟩
 first | refine c0a (kk := 0) (vs := [_, _, _, _, _]) SR1 q3b rfl rfl rfl rfl rfl rfl rfl ?_
 intro w1_19 S1_19 X1_19
 dsimp only [k0a, List.set] at S1_19
 exact lR0 rfl ⟨⟩ (F1a (n := 5) rfl t7a rfl (S1_19.cells 0 rfl) rfl ⟨rfl, S1_19.fin⟩)
theorem t7b {p : e0a} {e : EvD} (h : e.still = false) : Q3a p e = [] := by unfold Q3a; rw [if_neg (by rw [h]; simp)]
theorem G0c {p : e0a} {e : EvD} (h : e.still = false) : m6a p e = [] := by unfold m6a; rw [if_neg (by rw [h]; simp)]
theorem EvD.still_step {e : EvD} (h : e.still = true) : e.step = true := by unfold EvD.still at h; simp only [Bool.and_eq_true] at h; exact h.1
theorem D1b.stepOK {p : e0a} {e : EvD} {th : U0a} (hp : e1a p) (hth : p.threads[e.x.thread.toNat]? = some th) (hs : sOf p e ∈ th.steps) : s5a p e.x.thread.toNat th.points (sOf p e) := (hp.thread hth).steps _ hs
theorem H8a {p : e0a} {e : EvD} {M : List Nat} {w : World} {g : Nat} {cs xs ys : List Value} (h : r2b p e M w g cs xs ys) (hs : e.step = true) {k : Int} (hk : i64 k) :
 m8a [.int .i64 e.at_, .int .i64 k, .int .i64 (sOf p e).module_, .int .i64 e.x.thread, .int .i64 e.x.step] (f3b p e k) := by
 obtain ⟨_, _, _, _, hth, hxs, hms⟩ := h.step hs
 have hp := h.inp.ok
 have h1 := (D1b.stepOK hp hth hms).mod
 have h2 := hp.nmodules
 have h3 := h.ok.lo
 have h4 := h.ok.hi
 have h5 := hp.nthreads
 have h6 := (hp.thread hth).nsteps
 have h7 := q1a hth
 have h8 := q1a hxs
 unfold EvD.step at hs
 simp only [Bool.and_eq_true, decide_eq_true_eq] at hs
 have h9 := h.ok.t hs.1
 have h10 := (h.ok.s hs.1).resolve_left hs.2
 unfold L2a at h1
 exact m8a.of (by unfold i64; omega) hk (by unfold i64; omega) (by unfold i64; omega) (by unfold i64; omega)
theorem x5b (p : e0a) (e : EvD) (M : List Nat) (w0 : World) (ge : Nat) (cs xs ys : List Value) (hE : r2b p e M w0 ge cs xs ys) :
 R0a Tryz.prog 115 #[.pointer (some ⟨ge, 0, none⟩)] w0 fun v w' => V6b M w' v (Q3a p e) ∧ Below w0.heap.size w0 w' := by
 obtain ⟨_, _, _, _, _, _, _, _, _, _, _, _, rfl, hC, hMo, _, _, _, _, _, _, _, _, _, _⟩ := hE.inp.rd.open_
 have hc0 := hE.cell
 have hp := hE.inp.ok
 have n1 := hp.nmodules
 have n2 := hp.ncells
 have S := St.refl w0
 refine a0a Tryz.func115 rfl Tryz.ntmps115 rfl ?_
 refine wO0 rfl ⟨⟩ (r0a S a5b rfl rfl (s1b p e M _ _ _ _ _ (hE.keep (S.keep0 M))) (fun h8 w8 S8 X8 => ?_) (fun h8 w8 S8 X8 => ?_))
 ·obtain ⟨_, _, hss, hr, hth, hxs, hms⟩ := hE.step (EvD.still_step h8)
  obtain ⟨s, hs⟩ : ∃ s, s = sOf p e := ⟨_, rfl⟩
  have hso := D1b.stepOK hp hth hms
  rw [← hs] at hr hxs hms hso
  obtain ⟨Ag, ng, cg, As, ns, cs', rfl, -, -, hSet, _, _⟩ := x1a.open_ hr
  have hmi := hso.mod
  unfold L2a at hmi
  refine lO0 rfl ⟨⟩ (f0a S8 Z4a rfl rfl (Y4a p e M _ _ _ _ _ _ (hE.keep (S8.keep0 M)) (hss.keep (S8.keep0 [])) _ (x1a.keep (S8.keep0 M) _ _ hr)) ?_)
  intro w11 S11 X11
  refine h0a S11 Y9a rfl rfl ?_
  intro g3 w3 S3 X3 G3
  first | refine c0a (kk := 0) (vs := [_, _, _, _, _, _, _, _, _, _, _]) S3 U9a rfl rfl rfl rfl rfl rfl rfl ?_
  intro w3_3 S3_3 X3_3
  dsimp only [k0a, List.set] at S3_3
  refine lC0 rfl ⟨⟩ (u0a b0a [0, 1, 2, 3, 4, 5, 6, 7, 8, 9, 10] [] [] (by kernel_rfl) rfl (Cl _ _ _ _) (Cl.start S3_3) ?_)
  obtain ⟨md, b19, p19, _, hxmd, hA19, _, _, hc19, hr19⟩ := RdS.get (hMo) (s.module_.toNat) (by omega)
  obtain ⟨_, _, _, _, _, _, Af19, nf19, cf19, rfl, _, _, hF19, _, _⟩ := c1a.open_ hr19
  refine qN ((S3_3.q.a hc19).a hc0) [.f 0 1,.o 0,.x b19 p19,.f 1 10] rfl ⟨rfl,⟨hA19,by omega⟩,rfl,rfl,⟨⟩⟩ (c3a ?_)
  refine y1a ?_
  rintro wR4 ⟨SR4, _⟩
  refine lC SR4.k [.o 0] rfl ⟨rfl,⟨⟩⟩ (wL (fun μk D ε w => D = [] ∧ ∃ k : Nat, (k + μk = (s.set.length)) ∧ (r1a (s.set) k (fun a => ¬ (w1a p.cells a.cell = -1 ∧ a.cell ∉ md.frame))) ∧ St [] w0 w [(some g3, 88, [.int .i64 s.kind, .int .i64 s.frm, .int .i64 s.to, .int .i64 s.guard.op, .int .i64 s.guard.w, .int .i64 s.guard.n, .slice Ag ng cg, .slice As ns cs', .bool s.release, .int .i64 s.target, .int .i64 s.module_])] ∧ Sl ε [(0, .pointer (some ⟨ge, 0, none⟩)), (4, .slice Af19 nf19 cf19), (23, .slice As ns cs'), (24, .int .i64 ns), (25, .int .i64 k)]) (μ := (s.set.length)) ⟨rfl, 0, by omega, r1a.zero, SR4, rfl⟩ ?_)
  rintro μk D ε w ⟨rfl, k, _, ha, S, eZ⟩
  refine wK eZ (wB0 rfl ⟨⟩ (fun h26 => ?_) fun h26 => ?_)
  ·obtain ⟨a, b27, p27, _, hxa, hA27, _, hl27, hc27, hr27⟩ := RdS.get (hSet) (k) (by omega)
   obtain ⟨_, _, _, rfl, _, _⟩ := Q0a.open_ hr27
   have hac := (hso.set a (d0a hxa)).1
   unfold L2a at hac
   refine lO (S.k.a hc27) [.x b27 p27,.v 0] rfl ⟨⟨rfl,hl27⟩,⟨hA27,by omega⟩,⟨⟩⟩ (h0a S K2b rfl rfl ?_)
   intro g6 w6 S6 X6 G6
   first | refine c0a (kk := 0) (vs := [_, _, _, _, _]) S6 C3b rfl rfl rfl rfl rfl rfl rfl ?_
   intro w7_3 S7_3 X7_3
   dsimp only [k0a, List.set] at S7_3
   refine lC0 rfl ⟨⟩ (u0a b0a [0, 1, 2, 3, 4, 5, 6, 7, 8, 9, 10, 11, 12, 13, 14, 15, 16, 17] [] [] (by kernel_rfl) rfl (Cl _ _ _ _) (Cl.start S7_3) ?_)
   obtain ⟨_, b36, p36, _, hxcl', hA36, _, _, hc36, hr36⟩ := RdS.get (hC) (a.cell.toNat) (by omega)
   obtain ⟨rfl, _, _, _, _⟩ := K2a.open_ hr36
   refine qB ((S7_3.q.a hc36).a hc0) [.f 0 0,.o 0,.x b36 p36,.f 1 3] rfl ⟨rfl,⟨hA36,by omega⟩,rfl,rfl,⟨⟩⟩ (fun h39 => ?_) fun h39 => ?_
   ·refine qO S7_3.q [.o 0] rfl ⟨rfl,⟨⟩⟩ (S1a U4b rfl rfl (fun w1 S1 X1 => I5a M _ _ md.frame a.cell (hF19.keep (S1.keep0 M))) (fun h44 => ?_) fun h44 => ?_)
    ·refine qD rfl ⟨⟩ ?_
     rintro wR8 ⟨SR8, XR8⟩
     refine lP0 rfl ⟨by omega,⟨⟩⟩ ⟨μk - 1, by omega, rfl, (k + 1), (by omega), ?_, SR8.tail, rfl⟩
     exact ha.succ hxa (fun ⟨_, q2⟩ => by simp at h44; exact q2 h44)
    refine qD rfl ⟨⟩ ?_
    rintro wR8 ⟨SR8, XR8⟩
    refine lO0 rfl ⟨⟩ (f0a SR8 w9b rfl rfl (P2b p e 4 M _ _ _ _ _ (hE.keep (SR8.keep0 M)) (EvD.still_step h8)) ?_)
    intro w48 S48 X48
    refine H0a S48 q2a (vs := [.agg _]) (cs := [_, _, _, _, _]) (by rfl) rfl rfl rfl rfl rfl rfl ?_
    intro g49 w49 S49 X49 G49
    refine lR0 rfl ⟨⟩ (q0a rfl (by conv => lhs; whnf) ?_)
    refine ⟨?_, S49.fin⟩
    have hb : q4a p (sOf p e) = true := by
     rw [← hs]; unfold q4a; rw [b3a hxmd]
     exact List.any_eq_true.2 ⟨a, d0a hxa, by simp; exact ⟨by rw [f1a hxcl']; exact h39, by simpa using h44⟩⟩
    unfold Q3a; rw [if_pos ⟨h8, hb⟩]
    exact H1b (c := [_, _, _, _, _]) (Z0a hE.inp.lt (S49.new 0 rfl)) (S49.cells 0 rfl) rfl (H8a hE (EvD.still_step h8) (by unfold i64; omega))
   refine qD rfl ⟨⟩ ?_
   rintro wR8 ⟨SR8, XR8⟩
   refine lP0 rfl ⟨by omega,⟨⟩⟩ ⟨μk - 1, by omega, rfl, (k + 1), (by omega), ?_, SR8.tail, rfl⟩
   exact ha.succ hxa (fun ⟨q1, _⟩ => by rw [f1a hxcl'] at q1; exact absurd q1 h39)
  refine lR0 rfl ⟨⟩ (q0a rfl (by conv => lhs; whnf) ?_)
  refine ⟨?_, S.fin⟩
  have hb : q4a p (sOf p e) = false := by
   rw [← hs]; unfold q4a; rw [b3a hxmd, List.any_eq_false]
   intro a hma hh
   simp at hh
   exact ha.all (by omega) a hma ⟨hh.1, hh.2⟩
  unfold Q3a; rw [if_neg (by rw [hb]; simp)]; exact j2a
 refine lR0 rfl ⟨⟩ (q0a rfl (by conv => lhs; whnf) ?_)
 refine ⟨?_, S8.fin⟩
 rw [t7b h8]; exact j2a
end Go.Proofs.YtjjmdcnmeommbaaGreatDoor
namespace Go.Proofs.YtjjmdcnmeommbaaGreatDoor
open Go.Fw Go.RowKit
theorem q8b (p : e0a) (e : EvD) (M : List Nat) (w0 : World) (ge : Nat) (cs xs ys : List Value) (hE : r2b p e M w0 ge cs xs ys) :
 R0a Tryz.prog 116 #[.pointer (some ⟨ge, 0, none⟩)] w0 fun v w' => V6b M w' v (m6a p e) ∧ Below w0.heap.size w0 w' := by
 obtain ⟨_, _, _, _, _, _, _, _, _, _, _, _, rfl, _, hMo, _, _, _, _, _, _, _, _, _, _⟩ := hE.inp.rd.open_
 obtain ⟨_, _, _, _, _, _, _, _, _, rfl, hMem, -⟩ := hE.c.open_
 obtain ⟨_, _, _, _, _, _, _, _, _, rfl, hMem2, -⟩ := hE.d.open_
 have hc0 := hE.cell
 have hp := hE.inp.ok
 have n1 := hp.nmodules
 have S := St.refl w0
 refine a0a Tryz.func116 rfl Tryz.ntmps116 rfl ?_
 refine wC0 rfl ⟨⟩ (u0a b0a [0, 1, 2, 3, 4, 5, 6, 7, 8, 9, 10, 11, 12, 13, 14, 15, 16, 17, 18, 19, 20, 21, 22, 23, 24, 25, 26, 27] [] [] (by kernel_rfl) rfl (Cl _ _ _ _) (Cl.start S) ?_)
 refine qO0 rfl ⟨⟩ (S1a a5b rfl rfl (fun w1 S1 X1 => s1b p e M _ _ _ _ _ (hE.keep (S1.keep0 M))) (fun h4 => ?_) fun h4 => ?_)
 ·obtain ⟨_, _, hss, hr, hth, hxs, hms⟩ := hE.step (EvD.still_step h4)
  obtain ⟨s, hs⟩ : ∃ s, s = sOf p e := ⟨_, rfl⟩
  have hso := D1b.stepOK hp hth hms
  rw [← hs] at hr hxs hms hso
  obtain ⟨_, _, _, _, _, _, rfl, -⟩ := x1a.open_ hr
  have hmi := hso.mod
  unfold L2a at hmi
  refine qO (S.q.a hc0) [.f 0 1] rfl ⟨rfl,⟨⟩⟩ (T1a Z4a rfl rfl (fun w1 S1 X1 => Y4a p e M _ _ _ _ _ _ (hE.keep (S1.keep0 M)) (hss.keep (S1.keep0 [])) _ (x1a.keep (S1.keep0 M) _ _ hr)) ?_)
  obtain ⟨md, b15, p15, _, hxmd, hA15, _, _, hc15, hr15⟩ := RdS.get (hMo) (s.module_.toNat) (by omega)
  obtain ⟨_, _, _, _, _, _, _, _, _, rfl, _, hG15, _, _, _⟩ := c1a.open_ hr15
  refine qO ((S.q.a hc0).a hc15) [.x b15 p15,.f 0 6,.f 1 8,.f 1 11] rfl ⟨rfl,rfl,rfl,⟨hA15,by omega⟩,⟨⟩⟩ (T1a Q5a rfl rfl (fun w1 S1 X1 => Y3a md.guar M _ _ _ _ e.c.mem e.d.mem (RdE.keep (S1.keep0 M) _ _ hG15) (hE.inp.keep (S1.keep0 M)).msk (hMem.keep (S1.keep0 M)) (hMem2.keep (S1.keep0 M))) ?_)
  refine qB0 rfl ⟨⟩ (fun h29 => ?_) fun h29 => ?_
  ·refine qD rfl ⟨⟩ ?_
   rintro wR1 ⟨SR1, XR1⟩
   refine lR0 rfl ⟨⟩ (q0a rfl (by conv => lhs; whnf) ?_)
   refine ⟨?_, SR1.fin⟩
   have hb : s8a p e = true := by
    unfold s8a; rw [← hs, b3a hxmd]; exact decide_eq_true h29
   unfold m6a; rw [if_neg (by rw [hb]; simp)]; exact j2a
  refine qD rfl ⟨⟩ ?_
  rintro wR1 ⟨SR1, XR1⟩
  refine lO0 rfl ⟨⟩ (f0a SR1 w9b rfl rfl (P2b p e 3 M _ _ _ _ _ (hE.keep (SR1.keep0 M)) (EvD.still_step h4)) ?_)
  intro w32 S32 X32
  refine H0a S32 q2a (vs := [.agg _]) (cs := [_, _, _, _, _]) (by rfl) rfl rfl rfl rfl rfl rfl ?_
  intro g33 w33 S33 X33 G33
  refine lR0 rfl ⟨⟩ (q0a rfl (by conv => lhs; whnf) ?_)
  refine ⟨?_, S33.fin⟩
  have hb : s8a p e = false := by
   unfold s8a; rw [← hs, b3a hxmd]; exact decide_eq_false (fun hh => hh h29)
  unfold m6a; rw [if_pos ⟨h4, hb⟩]
  exact H1b (c := [_, _, _, _, _]) (Z0a hE.inp.lt (S33.new 0 rfl)) (S33.cells 0 rfl) rfl (H8a hE (EvD.still_step h4) (by unfold i64; omega))
 refine qD rfl ⟨⟩ ?_
 rintro wR1 ⟨SR1, XR1⟩
 refine lR0 rfl ⟨⟩ (q0a rfl (by conv => lhs; whnf) ?_)
 refine ⟨?_, SR1.fin⟩
 rw [G0c h4]; exact j2a
theorem T1b {p : e0a} {e : EvD} (h : e.still = false ∨ Q3a p e ≠ [] ∨ m6a p e ≠ []) : q8a p e = [] := by
 unfold q8a; rw [if_neg]
 rintro ⟨h1, h2, h3⟩
 rcases h with h | h | h
 ·rw [h1] at h; cases h
 ·exact h h2
 ·exact h h3
theorem z3b {p : e0a} {e : EvD} {t : Nat} (h : (t : Int) = e.x.thread ∨ e.c.at_.getD t 0 = -1) : P9a p e t = [] := by unfold P9a; rw [if_pos h]
theorem W0b {p : e0a} {e : EvD} {t : Nat} {th : U0a} {n m : Int} {md : y2a} (hth : p.threads[t]? = some th) (hn : e.c.at_[t]? = some n) (hm : th.modules[n.toNat]? = some m) (hmd : p.modules[m.toNat]? = some md)
 (h1 : (t : Int) ≠ e.x.thread) (h2 : n ≠ -1) : P9a p e t = if md.rely.op ≠ 0 ∧ md.rely.evl e.c.mem e.d.mem = 0 then [⟨e.at_, 5, m, t, n⟩] else [] := by
 have e1 : e.c.at_.getD t 0 = n := getD_some hn
 have e2 : (b6a p t).modules.getD n.toNat 0 = m := by rw [V1a hth]; exact getD_some hm
 unfold P9a
 rw [e1, e2, b3a hmd, if_neg (by rintro (h | h) <;> contradiction)]
theorem y4c (p : e0a) (e : EvD) (M : List Nat) (w0 : World) (ge : Nat) (cs xs ys : List Value) (hE : r2b p e M w0 ge cs xs ys) (h0 : 0 ≤ e.at_) :
 R0a Tryz.prog 117 #[.pointer (some ⟨ge, 0, none⟩)] w0 fun v w' => V6b M w' v (q8a p e) ∧ Below w0.heap.size w0 w' := by
 obtain ⟨_, _, _, _, _, _, _, _, _, At, nt, ct, rfl, _, hMo, _, hTh, _, _, _, _, _, _, _, _⟩ := hE.inp.rd.open_
 obtain ⟨_, _, _, _, _, _, _, _, _, rfl, hMem, hAt, -, -, _, -⟩ := hE.c.open_
 obtain ⟨_, _, _, _, _, _, _, _, _, rfl, hMem2, -⟩ := hE.d.open_
 have hc0 := hE.cell
 have hp := hE.inp.ok
 have n1 := hp.nmodules
 have n2 := hp.nthreads
 have hfc := hE.ok.c h0
 have hna := hfc.nat
 have h3 := hE.ok.lo
 have h4 := hE.ok.hi
 have S := (St.refl w0).nilEnt 36
 refine a0a Tryz.func117 rfl Tryz.ntmps117 rfl ?_
 refine wO0 rfl ⟨⟩ (r0a S a5b rfl rfl (s1b p e M _ _ _ _ _ (hE.keep (S.keep0 M))) (fun h10 w10 S10 X10 => ?_) (fun h10 w10 S10 X10 => ?_))
 ·refine lO0 rfl ⟨⟩ (M0a S10 P7b rfl rfl (x5b p e M _ _ _ _ _ (hE.keep (S10.keep0 M))) ?_)
  rintro v14 w14 hf14 S14 X14
  obtain ⟨_, _, _, rfl⟩ := hf14.form
  have hnf := hf14.len.1
  clear hf14
  refine lB0 rfl ⟨⟩ (fun h16 => ?_) fun h16 => ?_
  ·refine lR0 rfl ⟨⟩ (q0a rfl (by conv => lhs; whnf) ?_)
   refine ⟨?_, S14.fin⟩
   rw [T1b (.inr (.inl (fun hh => by rw [hh] at hnf; simp at hnf; omega)))]; exact j2a
  refine lO0 rfl ⟨⟩ (M0a S14 s9b rfl rfl (q8b p e M _ _ _ _ _ (hE.keep (S14.keep0 M))) ?_)
  rintro v20 w20 hf20 S20 X20
  obtain ⟨_, _, _, rfl⟩ := hf20.form
  have hng := hf20.len.1
  clear hf20
  refine lB0 rfl ⟨⟩ (fun h22 => ?_) fun h22 => ?_
  ·refine lR0 rfl ⟨⟩ (q0a rfl (by conv => lhs; whnf) ?_)
   refine ⟨?_, S20.fin⟩
   rw [T1b (.inr (.inr (fun hh => by rw [hh] at hng; simp at hng; omega)))]; exact j2a
  refine lC (S20.k.a hc0) [.f 0 3] rfl ⟨rfl,⟨⟩⟩ (wL (fun μk D ε w => D = [] ∧ ∃ k : Nat, ∃ G : Option Nat, ∃ cs' : List Value, ∃ v : Value, (k + μk = (p.threads.length)) ∧ (J2a (fun _ _ => m8a) 5 [] w0 G cs' v (M6a p e k)) ∧ St [] w0 w [(G, 36, cs')] ∧ Sl ε [(0, .pointer (some ⟨ge, 0, none⟩)), (3, v), (28, .slice At nt ct), (29, .int .i64 nt), (30, .int .i64 k)]) (μ := (p.threads.length)) ⟨rfl, 0, none, [], .slice none 0 0, by omega, J2a.nil, S20, rfl⟩ ?_)
  rintro μk D ε w ⟨rfl, k, G, cs', v, _, hrow, S, eZ⟩
  refine wK eZ (wB0 rfl ⟨⟩ (fun h31 => ?_) fun h31 => ?_)
  ·obtain ⟨th, b33, p33, _, hxth, hA33, _, hl33, hc33, hr33⟩ := RdS.get (hTh) (k) (by omega)
   obtain ⟨_, _, _, _, _, _, _, _, _, _, _, _, rfl, _, _, hMs33, _, _, _, _, _, _, _, _, _, _⟩ := I0a.open_ hr33
   have hto := hp.thread hxth
   have hto1 := hto.nmod
   have hto3 := hto.asserts
   refine lO (S.k.a hc33) [.x b33 p33,.v 0] rfl ⟨⟨rfl,hl33⟩,⟨hA33,by omega⟩,⟨⟩⟩ (h0a S k2b rfl rfl ?_)
   intro g5 w5 S5 X5 G5
   refine lO0 rfl ⟨⟩ ?_
   first | refine c0a (kk := 0) (vs := [_, _, _, _, _, _, _]) S5 R0b rfl rfl rfl rfl rfl rfl rfl ?_
   intro w6_5 S6_5 X6_5
   dsimp only [k0a, List.set] at S6_5
   obtain ⟨n, b41, p41, _, hxn, hA41, _, _, hc41, hr41⟩ := RdS.get (hAt) (k) (by omega)
   obtain ⟨rfl, _⟩ := id hr41
   have hat := hfc.atr k n hxn th hxth
   refine lB ((S6_5.k.a hc41).a hc0) [.f 0 9,.x b41 p41,.f 1 0,.f 0 5] rfl ⟨rfl,rfl,⟨hA41,by omega⟩,rfl,⟨⟩⟩ (fun h49 => ?_) fun h49 => ?_
   ·refine lP0 rfl ⟨by omega,⟨⟩⟩ ⟨μk - 1, by omega, rfl, (k + 1), (_), (_), (_), (by omega), ?_, S6_5.tail, rfl⟩
    rw [j4a, z3b (.inl h49), List.append_nil]; exact hrow
   refine lB0 rfl ⟨⟩ (fun h52 => ?_) fun h52 => ?_
   ·refine lP0 rfl ⟨by omega,⟨⟩⟩ ⟨μk - 1, by omega, rfl, (k + 1), (_), (_), (_), (by omega), ?_, S6_5.tail, rfl⟩
    rw [j4a, z3b (.inr (by rw [getD_some hxn]; exact h52)), List.append_nil]; exact hrow
   obtain ⟨m, b57, p57, _, hxm, hA57, _, _, hc57, hr57⟩ := RdS.get (hMs33) (n.toNat) (by omega)
   obtain ⟨rfl, _⟩ := id hr57
   have hmi := hto.modules m (d0a hxm)
   unfold L2a at hmi
   obtain ⟨md, b65, p65, _, hxmd, hA65, _, _, hc65, hr65⟩ := RdS.get (hMo) (m.toNat) (by omega)
   obtain ⟨_, _, _, _, _, _, _, _, _, rfl, hR65, _, _, _, _⟩ := c1a.open_ hr65
   refine lO (((S6_5.k.a hc65).a hc0).a hc57) [.o 0,.x b57 p57,.f 0 0,.f 1 1,.x b65 p65,.f 2 2] rfl ⟨rfl,⟨hA65,by omega⟩,rfl,rfl,⟨hA57,by omega⟩,rfl,⟨⟩⟩ (h0a S6_5 o8a rfl rfl ?_)
   intro g8 w8 S8 X8 G8
   first | refine c0a (kk := 0) (vs := [_, _, _, _]) S8 r8a rfl rfl rfl rfl rfl rfl rfl ?_
   intro w10_10 S10_10 X10_10
   dsimp only [k0a, List.set] at S10_10
   refine lC0 rfl ⟨⟩ (u0a b0a [0, 1, 2, 3, 4, 5, 6, 7, 8, 9, 10, 11, 12, 13, 14, 15, 16, 17] [] [] (by kernel_rfl) rfl (Cl _ _ _ _) (Cl.start S10_10) ?_)
   refine qB S10_10.q [.o 0] rfl ⟨rfl,⟨⟩⟩ (fun h70 => ?_) fun h70 => ?_
   ·refine qO (S10_10.q.a hc0) [.w 0,.f 0 8,.f 0 11] rfl ⟨rfl,rfl,⟨rfl,by rfl⟩,⟨⟩⟩ (T1a Q5a rfl rfl (fun w1 S1 X1 => Y3a md.rely M _ _ _ _ e.c.mem e.d.mem (RdE.keep (S1.keep0 M) _ _ hR65) (hE.inp.keep (S1.keep0 M)).msk (hMem.keep (S1.keep0 M)) (hMem2.keep (S1.keep0 M))) ?_)
    refine qB0 rfl ⟨⟩ (fun h84 => ?_) fun h84 => ?_
    ·refine qD rfl ⟨⟩ ?_
     rintro wR11 ⟨SR11, XR11⟩
     refine lOn 4 SR11.k [] rfl ⟨⟩ (B0a (by conv => lhs; whnf) rfl ?_)
     refine lO (SR11.k.a hc0) [.f 0 4] rfl ⟨rfl,⟨⟩⟩ (i1a a8a (vs := [(0, .int .i64 _), (1, .int .i64 _), (2, .int .i64 _), (3, .int .i64 _), (4, .int .i64 _)]) (cs := [_, _, _, _, _]) rfl rfl rfl rfl ?_)
     refine H0a SR11 q2a (vs := [.agg _]) (cs := [_, _, _, _, _]) (by rfl) rfl rfl rfl rfl rfl rfl ?_
     intro g95 w95 S95 X95 G95
     have l1 := f6a (p := p) (e := e) k
     have hto2 := hto.points
     refine G1a U2a (k := 3) (M2 := []) (e1 := ⟨e.at_, 5, m, k, n⟩) S95 q2a (by decide) rfl hrow rfl rfl (S95.cells 0 rfl) (m8a.of (by unfold i64; omega) (by unfold i64; omega) (by unfold i64; omega) (by unfold i64; omega) (by unfold i64; omega)) (by omega) rfl ?_
     intro v96 G96 cs96 w96 S96 hrow96 X96 F96
     refine O0a (by conv => lhs; whnf) rfl ?_
     refine lP0 rfl ⟨by omega,⟨⟩⟩ ⟨μk - 1, by omega, rfl, (k + 1), (_), (_), (_), (by omega), ?_, S96.tail.tail.tail, rfl⟩
     rw [j4a, W0b hxth hxn hxm hxmd h49 h52, if_pos ⟨h70, h84⟩]; exact hrow96
    refine qD rfl ⟨⟩ ?_
    rintro wR11 ⟨SR11, XR11⟩
    refine lP0 rfl ⟨by omega,⟨⟩⟩ ⟨μk - 1, by omega, rfl, (k + 1), (_), (_), (_), (by omega), ?_, SR11.tail.tail, rfl⟩
    rw [j4a, W0b hxth hxn hxm hxmd h49 h52, if_neg (fun hh => h84 hh.2), List.append_nil]; exact hrow
   refine qD rfl ⟨⟩ ?_
   rintro wR11 ⟨SR11, XR11⟩
   refine lP0 rfl ⟨by omega,⟨⟩⟩ ⟨μk - 1, by omega, rfl, (k + 1), (_), (_), (_), (by omega), ?_, SR11.tail.tail, rfl⟩
   rw [j4a, W0b hxth hxn hxm hxmd h49 h52, if_neg (fun hh => hh.1 h70), List.append_nil]; exact hrow
  refine lOn 8 S.k [] rfl ⟨⟩ (B0a (by conv => lhs; whnf) rfl ?_)
  refine O0a (by conv => lhs; whnf) rfl ?_
  refine lR0 rfl ⟨⟩ (q0a rfl (by conv => lhs; whnf) ?_)
  refine ⟨?_, S.fin⟩
  have l1 := f6a (p := p) (e := e) p.threads.length
  have e1 : q8a p e = M6a p e k := by
   unfold q8a; rw [if_pos ⟨h10, List.length_eq_zero_iff.1 (by omega), List.length_eq_zero_iff.1 (by omega)⟩, show p.threads.length = k by omega]
  rw [e1]
  exact J2a.rd U2a (M := M) hrow S (k := 0) rfl (fun g hg => by subst hg; exact Z0a hE.inp.lt (S.new 0 rfl)) (by rw [show k = p.threads.length by omega]; omega)
 refine lR0 rfl ⟨⟩ (q0a rfl (by conv => lhs; whnf) ?_)
 refine ⟨?_, S10.fin⟩
 rw [T1b (.inl h10)]; exact j2a
end Go.Proofs.YtjjmdcnmeommbaaGreatDoor
namespace Go.Proofs.YtjjmdcnmeommbaaGreatDoor
open Go.Fw Go.RowKit
theorem u7b {p : e0a} {e : EvD} (h : W6a e.d = false) : r5a p e = [] := by unfold r5a; rw [if_neg (by rw [h]; simp)]
theorem V4b {p : e0a} {e : EvD} (h : W6a e.d = false) : R2a p e = [] := by unfold R2a; rw [if_neg (by rw [h]; simp)]
theorem H3b {p : e0a} {e : EvD} {i : Nat} {l : n8a} {v : Int} (hl : p.locks[i]? = some l) (hv : e.d.mem[l.cell.toNat]? = some v) (h : v ≠ 0 ∨ l.inv.evl e.d.mem e.d.mem ≠ 0) : v7a p e i = [] := by
 unfold v7a; rw [hl]; simp only; rw [getD_some hv, if_pos h]
theorem Q1b {p : e0a} {e : EvD} {i : Nat} {l : n8a} {v m t : Int} (hl : p.locks[i]? = some l) (hv : e.d.mem[l.cell.toNat]? = some v) (h1 : v = 0) (h2 : l.inv.evl e.d.mem e.d.mem = 0) (hm : m = O1b p e l) (ht : t = if 0 ≤ e.at_ then e.x.thread else -1) :
 v7a p e i = [⟨e.at_, 2, m, t, i⟩] := by
 unfold v7a; rw [hl]; simp only; rw [getD_some hv, if_neg (by rintro (h | h) <;> contradiction), ← hm, ← ht]
theorem EvD.step_at {e : EvD} (h : e.step = true) : 0 ≤ e.at_ ∧ e.x.step ≠ -1 := by unfold EvD.step at h; simpa using h
theorem b1c (p : e0a) (e : EvD) (M : List Nat) (w0 : World) (ge : Nat) (cs xs ys : List Value) (hE : r2b p e M w0 ge cs xs ys) :
 R0a Tryz.prog 118 #[.pointer (some ⟨ge, 0, none⟩)] w0 fun v w' => V6b M w' v (r5a p e) ∧ Below w0.heap.size w0 w' := by
 obtain ⟨_, _, _, _, _, _, Al, nl, cl, _, _, _, rfl, _, _, hLk, hTh, _, _, _, _, _, _, _, _⟩ := hE.inp.rd.open_
 obtain ⟨_, _, _, _, _, _, _, _, _, rfl, -⟩ := hE.c.open_
 obtain ⟨_, _, _, _, _, _, _, _, _, rfl, hMem2, hAt2, -, _, _, -⟩ := hE.d.open_
 have hc0 := hE.cell
 have hp := hE.inp.ok
 have n1 := hp.nmodules
 have n2 := hp.nthreads
 have n3 := hp.nlocks
 have n4 := hp.ncells
 have hfd := hE.ok.d
 have hna := hfd.nat
 have hml := hfd.mem.len
 have h3 := hE.ok.lo
 have h4 := hE.ok.hi
 have S := (St.refl w0).nilEnt 36
 refine a0a Tryz.func118 rfl Tryz.ntmps118 rfl ?_
 refine wO (S.k.a hc0) [.f 0 11] rfl ⟨rfl,⟨⟩⟩ (r0a S L1b rfl rfl (U6a e.d M _ _ (hE.d.keep (S.keep0 M))) (fun h11 w11 S11 X11 => ?_) (fun h11 w11 S11 X11 => ?_))
 ·refine lC (S11.k.a hc0) [.f 0 2] rfl ⟨rfl,⟨⟩⟩ (wL (fun μk D ε w => D = [] ∧ ∃ k : Nat, ∃ G : Option Nat, ∃ cs' : List Value, ∃ v : Value, (k + μk = (p.locks.length)) ∧ (J2a (fun _ _ => m8a) 5 [] w0 G cs' v (b5a p e k)) ∧ St [] w0 w [(G, 36, cs')] ∧ Sl ε [(0, .pointer (some ⟨ge, 0, none⟩)), (3, v), (17, .slice Al nl cl), (18, .int .i64 nl), (19, .int .i64 k)]) (μ := (p.locks.length)) ⟨rfl, 0, none, [], .slice none 0 0, by omega, J2a.nil, S11, rfl⟩ ?_)
  rintro μk D ε w ⟨rfl, k, G, cs', v, _, hrow, S, eZ⟩
  refine wK eZ (wB0 rfl ⟨⟩ (fun h20 => ?_) fun h20 => ?_)
  ·obtain ⟨l, b22, p22, _, hxl, hA22, _, hl22, hc22, hr22⟩ := RdS.get (hLk) (k) (by omega)
   obtain ⟨_, _, _, rfl, _, _, hE22⟩ := d4a.open_ hr22
   have hlo := hp.locks l (d0a hxl)
   have hce := hlo.cell.1
   have hmo := hlo.mod
   unfold L2a at hce hmo
   refine lO (S.k.a hc22) [.x b22 p22,.v 0] rfl ⟨⟨rfl,hl22⟩,⟨hA22,by omega⟩,⟨⟩⟩ (h0a S q2c rfl rfl ?_)
   intro g5 w5 S5 X5 G5
   refine lO0 rfl ⟨⟩ ?_
   first | refine c0a (kk := 0) (vs := [_, _, _, _, _, _]) S5 p4c rfl rfl rfl rfl rfl rfl rfl ?_
   intro w6_5 S6_5 X6_5
   dsimp only [k0a, List.set] at S6_5
   refine lC0 rfl ⟨⟩ (u0a b0a [0, 1, 2, 3, 4, 5, 6, 7, 8, 9, 10, 11, 12, 13, 14, 15, 16, 17, 18, 19] [] [] (by kernel_rfl) rfl (Cl _ _ _ _) (Cl.start S6_5) ?_)
   obtain ⟨v, b31, p31, _, hxv, hA31, _, _, hc31, hr31⟩ := RdS.get (hMem2) (l.cell.toNat) (by omega)
   obtain ⟨rfl, _⟩ := id hr31
   refine qB ((S6_5.q.a hc31).a hc0) [.f 0 11,.o 0,.x b31 p31,.f 1 0] rfl ⟨rfl,⟨hA31,by omega⟩,rfl,rfl,⟨⟩⟩ (fun h33 => ?_) fun h33 => ?_
   ·refine qD rfl ⟨⟩ ?_
    rintro wR7 ⟨SR7, XR7⟩
    refine lP0 rfl ⟨by omega,⟨⟩⟩ ⟨μk - 1, by omega, rfl, (k + 1), (_), (_), (_), (by omega), ?_, SR7.tail, rfl⟩
    rw [Y2a, H3b hxl hxv (.inl h33), List.append_nil]; exact hrow
   refine qO (S6_5.q.a hc0) [.o 0,.f 0 11] rfl ⟨rfl,rfl,⟨⟩⟩ (S1a L8b rfl rfl (fun w1 S1 X1 => T2b l.inv e.d.mem M _ _ _ (RdE.keep (S1.keep0 M) _ _ hE22) (hE.inp.keep (S1.keep0 M)).msk (hMem2.keep (S1.keep0 M))) (fun h42 => ?_) fun h42 => ?_)
   ·refine qD rfl ⟨⟩ ?_
    rintro wR7 ⟨SR7, XR7⟩
    refine lP0 rfl ⟨by omega,⟨⟩⟩ ⟨μk - 1, by omega, rfl, (k + 1), (_), (_), (_), (by omega), ?_, SR7.tail, rfl⟩
    rw [Y2a, H3b hxl hxv (.inr (of_decide_eq_true h42)), List.append_nil]; exact hrow
   refine qD rfl ⟨⟩ ?_
   rintro wR7 ⟨SR7, XR7⟩
   refine lC0 rfl ⟨⟩ (u0a b0a [0, 1, 2, 3, 4, 5, 6, 7] [8] [9] (by kernel_rfl) rfl (Cl _ _ _ _) (Cl.start SR7) ?_)
   refine qO (SR7.q.a hc0) [.f 0 4,.o 0] rfl ⟨rfl,rfl,⟨⟩⟩ (j3a a8a (vs := [(0, .int .i64 _), (1, .int .i64 _), (2, .int .i64 _), (3, .int .i64 _), (4, .int .i64 _)]) (cs := [_, _, _, _, _]) rfl rfl rfl rfl ?_)
   refine qN0 rfl ⟨⟩ (c3a ?_)
   refine E4a rfl rfl x6b rfl ?_
   refine y1a ?_
   rintro wR8 ⟨SR8, _⟩
   intro g6 hg6 G6 ng6
   dsimp only [x3a]
   clear ng6
   replace SR8 := SR8.push_new SR7 hg6 G6
   first | refine c0a (kk := 0) (vs := [_, _, _, _, _]) SR8 q3b rfl rfl rfl rfl rfl rfl rfl ?_
   intro w8_9 S8_9 X8_9
   dsimp only [k0a, List.set] at S8_9
   refine lB (S8_9.k.a hc0) [.f 0 4] rfl ⟨rfl,⟨⟩⟩ (fun h56 => ?_) fun h56 => ?_
   ·refine lO (S8_9.k.a hc0) [.f 0 5] rfl ⟨rfl,⟨⟩⟩ ?_
    first | refine v0a (kk := 0) S8_9 q7a rfl (by conv => lhs; whnf) rfl rfl (by exact Nat.le_of_ble_eq_true rfl) ?_
    intro w10_6 S10_6 X10_6
    refine lC0 rfl ⟨⟩ (u0a b0a [0, 1, 2, 3, 4, 5, 6, 7, 8, 9, 10, 11, 12, 13, 14, 15, 16, 17, 18, 19, 20, 21] [] [22] (by kernel_rfl) rfl (Cl _ _ _ _) (Cl.start S10_6) ?_)
    have htt := hE.ok.t h56
    obtain ⟨tx, b70, p70, _, hxtx, hA70, _, _, hc70, hr70⟩ := RdS.get (hTh) (e.x.thread.toNat) (by omega)
    obtain ⟨_, _, _, _, _, _, _, _, _, _, _, _, rfl, _, _, hMs70, _, _, _, _, _, _, _, _, _, _⟩ := I0a.open_ hr70
    have htx := hp.thread hxtx
    have htx1 := htx.nmod
    obtain ⟨nx, b80, p80, _, hxnx, hA80, _, _, hc80, hr80⟩ := RdS.get (hAt2) (e.x.thread.toNat) (by omega)
    obtain ⟨rfl, _⟩ := id hr80
    have haw := hE.ok.aw h56
    rw [getD_some hxnx] at haw
    have hax := hfd.atr _ nx hxnx tx hxtx
    obtain ⟨mx, b82, p82, _, hxmx, hA82, _, _, hc82, hr82⟩ := RdS.get (hMs70) (nx.toNat) (by omega)
    obtain ⟨rfl, _⟩ := id hr82
    have hmx := htx.modules mx (d0a hxmx)
    unfold L2a at hmx
    refine qN ((((S10_6.q.a hc82).a hc80).a hc70).a hc0) [.f 0 3,.o 0,.x b70 p70,.f 1 3,.f 0 12,.o 0,.x b80 p80,.f 2 0,.x b82 p82,.f 3 0] rfl ⟨rfl,⟨hA82,by omega⟩,rfl,⟨hA80,by omega⟩,rfl,rfl,rfl,⟨hA70,by omega⟩,rfl,rfl,⟨⟩⟩ (c3a ?_)
    refine y1a ?_
    rintro wR11 ⟨SR11, _⟩
    first | refine v0a (kk := 0) SR11 q7a rfl (by conv => lhs; whnf) rfl rfl (by exact Nat.le_of_ble_eq_true rfl) ?_
    intro w11_22 S11_22 X11_22
    refine lO0 rfl ⟨⟩ (r0a S11_22 a1b rfl rfl (e7a p e M _ _ _ _ _ (hE.keep (S11_22.keep0 M))) (fun h86 w86 S86 X86 => ?_) (fun h86 w86 S86 X86 => ?_))
    ·refine lO0 rfl ⟨⟩ ?_
     obtain ⟨ss, th, hss, hr, hth, hxs, hms⟩ := hE.step h86
     have hpos := (EvD.step_at h86).1
     obtain ⟨s, hs⟩ : ∃ s, s = sOf p e := ⟨_, rfl⟩
     have hso := D1b.stepOK hp hth hms
     rw [← hs] at hr hxs hms hso
     obtain ⟨Ag, ng, cg, As, ns, cs', rfl, -⟩ := x1a.open_ hr
     have hmi := hso.mod
     unfold L2a at hmi
     refine f0a S86 Z4a rfl rfl (Y4a p e M _ _ _ _ _ _ (hE.keep (S86.keep0 M)) (hss.keep (S86.keep0 [])) _ (x1a.keep (S86.keep0 M) _ _ hr)) ?_
     intro w88 S88 X88
     refine lO0 rfl ⟨⟩ ?_
     first | refine v0a (kk := 0) S88 q7a rfl (by conv => lhs; whnf) rfl rfl (by exact Nat.le_of_ble_eq_true rfl) ?_
     intro w13_4 S13_4 X13_4
     refine lOn 3 S13_4.k [] rfl ⟨⟩ (B0a (by conv => lhs; whnf) rfl ?_)
     refine lO S13_4.k [.w 0] rfl ⟨⟨rfl,by rfl⟩,⟨⟩⟩ (H0a S13_4 q2a (vs := [.agg _]) (cs := [_, _, _, _, _]) (by rfl) rfl rfl rfl rfl rfl rfl ?_)
     intro g93 w93 S93 X93 G93
     have l1 := S2a (p := p) (e := e) k
     have hT1 : v7a p e k = [⟨e.at_, 2, s.module_, e.x.thread, k⟩] := Q1b hxl hxv h33 (by simpa using h42) (by unfold O1b; rw [if_pos h86, hs]) (by rw [if_pos (EvD.step_at h86).1])
     have htq := hE.ok.t (EvD.step_at h86).1
     refine G1a U2a (k := 3) (M2 := []) (e1 := ⟨e.at_, 2, s.module_, e.x.thread, k⟩) S93 q2a (by decide) rfl hrow rfl rfl (S93.cells 0 rfl) (m8a.of (by unfold i64; omega) (by unfold i64; omega) (by unfold i64; omega) (by unfold i64; omega) (by unfold i64; omega)) (by omega) rfl ?_
     intro v94 G94 cs94 w94 S94 hrow94 X94 F94
     refine O0a (by conv => lhs; whnf) rfl ?_
     refine lP0 rfl ⟨by omega,⟨⟩⟩ ⟨μk - 1, by omega, rfl, (k + 1), (_), (_), (_), (by omega), ?_, S94.tail.tail.tail, rfl⟩
     rw [Y2a, hT1]; exact hrow94
    refine lOn 6 S86.k [] rfl ⟨⟩ (B0a (by conv => lhs; whnf) rfl ?_)
    refine lO S86.k [.w 0] rfl ⟨⟨rfl,by rfl⟩,⟨⟩⟩ (H0a S86 q2a (vs := [.agg _]) (cs := [_, _, _, _, _]) (by rfl) rfl rfl rfl rfl rfl rfl ?_)
    intro g93 w93 S93 X93 G93
    have l1 := S2a (p := p) (e := e) k
    have hT1 : v7a p e k = [⟨e.at_, 2, mx, e.x.thread, k⟩] := Q1b hxl hxv h33 (by simpa using h42) (by unfold O1b; rw [if_neg (by rw [h86]; simp), if_pos h56, V1a hxtx, getD_some hxnx]; exact (getD_some hxmx).symm) (by rw [if_pos h56])
    refine G1a U2a (k := 3) (M2 := []) (e1 := ⟨e.at_, 2, mx, e.x.thread, k⟩) S93 q2a (by decide) rfl hrow rfl rfl (S93.cells 0 rfl) (m8a.of (by unfold i64; omega) (by unfold i64; omega) (by unfold i64; omega) (by unfold i64; omega) (by unfold i64; omega)) (by omega) rfl ?_
    intro v94 G94 cs94 w94 S94 hrow94 X94 F94
    refine O0a (by conv => lhs; whnf) rfl ?_
    refine lP0 rfl ⟨by omega,⟨⟩⟩ ⟨μk - 1, by omega, rfl, (k + 1), (_), (_), (_), (by omega), ?_, S94.tail.tail.tail, rfl⟩
    rw [Y2a, hT1]; exact hrow94
   refine lO0 rfl ⟨⟩ (r0a S8_9 a1b rfl rfl (e7a p e M _ _ _ _ _ (hE.keep (S8_9.keep0 M))) (fun h86 w86 S86 X86 => ?_) (fun h86 w86 S86 X86 => ?_))
   ·refine lO0 rfl ⟨⟩ ?_
    obtain ⟨ss, th, hss, hr, hth, hxs, hms⟩ := hE.step h86
    have hpos := (EvD.step_at h86).1
    obtain ⟨s, hs⟩ : ∃ s, s = sOf p e := ⟨_, rfl⟩
    have hso := D1b.stepOK hp hth hms
    rw [← hs] at hr hxs hms hso
    obtain ⟨Ag, ng, cg, As, ns, cs', rfl, -⟩ := x1a.open_ hr
    have hmi := hso.mod
    unfold L2a at hmi
    refine f0a S86 Z4a rfl rfl (Y4a p e M _ _ _ _ _ _ (hE.keep (S86.keep0 M)) (hss.keep (S86.keep0 [])) _ (x1a.keep (S86.keep0 M) _ _ hr)) ?_
    intro w88 S88 X88
    refine lO0 rfl ⟨⟩ ?_
    first | refine v0a (kk := 0) S88 q7a rfl (by conv => lhs; whnf) rfl rfl (by exact Nat.le_of_ble_eq_true rfl) ?_
    intro w13_4 S13_4 X13_4
    refine lOn 3 S13_4.k [] rfl ⟨⟩ (B0a (by conv => lhs; whnf) rfl ?_)
    refine lO S13_4.k [.w 0] rfl ⟨⟨rfl,by rfl⟩,⟨⟩⟩ (H0a S13_4 q2a (vs := [.agg _]) (cs := [_, _, _, _, _]) (by rfl) rfl rfl rfl rfl rfl rfl ?_)
    intro g93 w93 S93 X93 G93
    have l1 := S2a (p := p) (e := e) k
    have hT1 : v7a p e k = [⟨0, 0, 0, 0, 0⟩] := by exfalso; omega
    refine G1a U2a (k := 3) (M2 := []) (e1 := ⟨0, 0, 0, 0, 0⟩) S93 q2a (by decide) rfl hrow rfl rfl (S93.cells 0 rfl) (by exfalso; omega) (by omega) rfl ?_
    intro v94 G94 cs94 w94 S94 hrow94 X94 F94
    refine O0a (by conv => lhs; whnf) rfl ?_
    refine lP0 rfl ⟨by omega,⟨⟩⟩ ⟨μk - 1, by omega, rfl, (k + 1), (_), (_), (_), (by omega), ?_, S94.tail.tail.tail, rfl⟩
    rw [Y2a, hT1]; exact hrow94
   refine lOn 6 S86.k [] rfl ⟨⟩ (B0a (by conv => lhs; whnf) rfl ?_)
   refine lO S86.k [.w 0] rfl ⟨⟨rfl,by rfl⟩,⟨⟩⟩ (H0a S86 q2a (vs := [.agg _]) (cs := [_, _, _, _, _]) (by rfl) rfl rfl rfl rfl rfl rfl ?_)
   intro g93 w93 S93 X93 G93
   have l1 := S2a (p := p) (e := e) k
   have hT1 : v7a p e k = [⟨e.at_, 2, l.module_, -1, k⟩] := Q1b hxl hxv h33 (by simpa using h42) (by unfold O1b; rw [if_neg (by rw [h86]; simp), if_neg (by omega)]) (by rw [if_neg (by omega)])
   refine G1a U2a (k := 3) (M2 := []) (e1 := ⟨e.at_, 2, l.module_, -1, k⟩) S93 q2a (by decide) rfl hrow rfl rfl (S93.cells 0 rfl) (m8a.of (by unfold i64; omega) (by unfold i64; omega) (by unfold i64; omega) (by unfold i64; omega) (by unfold i64; omega)) (by omega) rfl ?_
   intro v94 G94 cs94 w94 S94 hrow94 X94 F94
   refine O0a (by conv => lhs; whnf) rfl ?_
   refine lP0 rfl ⟨by omega,⟨⟩⟩ ⟨μk - 1, by omega, rfl, (k + 1), (_), (_), (_), (by omega), ?_, S94.tail.tail.tail, rfl⟩
   rw [Y2a, hT1]; exact hrow94
  refine lOn 8 S.k [] rfl ⟨⟩ (B0a (by conv => lhs; whnf) rfl ?_)
  refine O0a (by conv => lhs; whnf) rfl ?_
  refine lR0 rfl ⟨⟩ (q0a rfl (by conv => lhs; whnf) ?_)
  refine ⟨?_, S.fin⟩
  have l1 := S2a (p := p) (e := e) p.locks.length
  have e1 : r5a p e = b5a p e k := by unfold r5a; rw [if_pos h11, show p.locks.length = k by omega]
  rw [e1]
  exact J2a.rd U2a (M := M) hrow S (k := 0) rfl (fun g hg => by subst hg; exact Z0a hE.inp.lt (S.new 0 rfl)) (by rw [show k = p.locks.length by omega]; omega)
 refine lR0 rfl ⟨⟩ (q0a rfl (by conv => lhs; whnf) ?_)
 refine ⟨?_, S11.fin⟩
 rw [u7b h11]; exact j2a
theorem W8a {p : e0a} {e : EvD} {t : Nat} {n : Int} (hn : e.d.at_[t]? = some n) (h : n = -1 ∨ ((b6a p t).asserts.getD n.toNat noE).evl e.d.mem e.d.mem ≠ 0) : m3a p e t = [] := by
 unfold m3a; rw [getD_some hn, if_pos h]
theorem D4a {p : e0a} {e : EvD} {t : Nat} {n m : Int} {th : U0a} {a : E} (hth : p.threads[t]? = some th) (ha : th.asserts[n.toNat]? = some a) (hn : e.d.at_[t]? = some n) (h1 : n ≠ -1) (h2 : a.evl e.d.mem e.d.mem = 0) (hm : m = M3a p e t) :
 m3a p e t = [⟨e.at_, 1, m, t, n⟩] := by
 unfold m3a; rw [getD_some hn, if_neg, ← hm]
 rintro (h | h)
 ·exact h1 h
 ·rw [V1a hth, getD_some ha] at h; exact h h2
theorem c5a {p : e0a} {e : EvD} {t : Nat} {n m : Int} {th : U0a} (hth : p.threads[t]? = some th) (hm : th.modules[n.toNat]? = some m) (hn : e.d.at_[t]? = some n) (h : ¬(e.step = true ∧ ((t : Int) = e.x.thread ∨ (sOf p e).kind = 6 ∧ (sOf p e).target = t))) : m = M3a p e t := by
 unfold M3a; rw [if_neg h, getD_some hn, V1a hth]; exact (getD_some hm).symm
theorem E6a {p : e0a} {e : EvD} {t : Nat} (h : e.step = true ∧ ((t : Int) = e.x.thread ∨ (sOf p e).kind = 6 ∧ (sOf p e).target = t)) : (sOf p e).module_ = M3a p e t := by
 unfold M3a; rw [if_pos h]
theorem N6b (p : e0a) (e : EvD) (M : List Nat) (w0 : World) (ge : Nat) (cs xs ys : List Value) (hE : r2b p e M w0 ge cs xs ys) :
 R0a Tryz.prog 119 #[.pointer (some ⟨ge, 0, none⟩)] w0 fun v w' => V6b M w' v (R2a p e) ∧ Below w0.heap.size w0 w' := by
 obtain ⟨_, _, _, _, _, _, _, _, _, At, nt, ct, rfl, _, _, _, hTh, _, _, _, _, _, _, _, _⟩ := hE.inp.rd.open_
 obtain ⟨_, _, _, _, _, _, _, _, _, rfl, -⟩ := hE.c.open_
 obtain ⟨_, _, _, _, _, _, _, _, _, rfl, hMem2, hAt2, -, _, _, -⟩ := hE.d.open_
 have hc0 := hE.cell
 have hp := hE.inp.ok
 have n1 := hp.nmodules
 have n2 := hp.nthreads
 have n3 := hp.nlocks
 have n4 := hp.ncells
 have hfd := hE.ok.d
 have hna := hfd.nat
 have hml := hfd.mem.len
 have h3 := hE.ok.lo
 have h4 := hE.ok.hi
 have S := (St.refl w0).nilEnt 36
 refine a0a Tryz.func119 rfl Tryz.ntmps119 rfl ?_
 refine wO (S.k.a hc0) [.f 0 11] rfl ⟨rfl,⟨⟩⟩ (r0a S L1b rfl rfl (U6a e.d M _ _ (hE.d.keep (S.keep0 M))) (fun h12 w12 S12 X12 => ?_) (fun h12 w12 S12 X12 => ?_))
 ·refine lC (S12.k.a hc0) [.f 0 3] rfl ⟨rfl,⟨⟩⟩ (wL (fun μk D ε w => D = [] ∧ ∃ k : Nat, ∃ G : Option Nat, ∃ cs' : List Value, ∃ v : Value, (k + μk = (p.threads.length)) ∧ (J2a (fun _ _ => m8a) 5 [] w0 G cs' v (g3a p e k)) ∧ St [] w0 w [(G, 36, cs')] ∧ Sl ε [(0, .pointer (some ⟨ge, 0, none⟩)), (3, v), (18, .slice At nt ct), (19, .int .i64 nt), (20, .int .i64 k)]) (μ := (p.threads.length)) ⟨rfl, 0, none, [], .slice none 0 0, by omega, J2a.nil, S12, rfl⟩ ?_)
  rintro μk D ε w ⟨rfl, k, G, cs', v, _, hrow, S, eZ⟩
  refine wK eZ (wB0 rfl ⟨⟩ (fun h21 => ?_) fun h21 => ?_)
  ·obtain ⟨th, b23, p23, _, hxth, hA23, _, hl23, hc23, hr23⟩ := RdS.get (hTh) (k) (by omega)
   obtain ⟨_, _, _, _, _, _, _, _, _, _, _, _, rfl, _, hEs23, hMs23, _, _, _, _, _, _, _, _, _, _⟩ := I0a.open_ hr23
   have hto := hp.thread hxth
   have hto1 := hto.nmod
   have hto3 := hto.asserts
   refine lO (S.k.a hc23) [.x b23 p23,.v 0] rfl ⟨⟨rfl,hl23⟩,⟨hA23,by omega⟩,⟨⟩⟩ (h0a S k2b rfl rfl ?_)
   intro g5 w5 S5 X5 G5
   refine lO0 rfl ⟨⟩ ?_
   first | refine c0a (kk := 0) (vs := [_, _, _, _, _, _, _]) S5 R0b rfl rfl rfl rfl rfl rfl rfl ?_
   intro w6_5 S6_5 X6_5
   dsimp only [k0a, List.set] at S6_5
   obtain ⟨n, b31, p31, _, hxn, hA31, _, _, hc31, hr31⟩ := RdS.get (hAt2) (k) (by omega)
   obtain ⟨rfl, _⟩ := id hr31
   have hat := hfd.atr k n hxn th hxth
   refine lC ((S6_5.k.a hc31).a hc0) [.f 0 12,.x b31 p31,.f 1 0] rfl ⟨rfl,⟨hA31,by omega⟩,rfl,⟨⟩⟩ (u0a b0a [0, 1, 2, 3, 4, 5, 6, 7, 8, 9, 10, 11, 12, 13, 14] [] [] (by kernel_rfl) rfl (Cl _ _ _ _) (Cl.start S6_5) ?_)
   refine qB0 rfl ⟨⟩ (fun h34 => ?_) fun h34 => ?_
   ·refine qD rfl ⟨⟩ ?_
    rintro wR8 ⟨SR8, XR8⟩
    refine lP0 rfl ⟨by omega,⟨⟩⟩ ⟨μk - 1, by omega, rfl, (k + 1), (_), (_), (_), (by omega), ?_, SR8.tail, rfl⟩
    rw [a2a, W8a hxn (.inl h34), List.append_nil]; exact hrow
   obtain ⟨a, b39, p39, _, hxa, hA39, _, hl39, hc39, hr39⟩ := RdS.get (hEs23) (n.toNat) (by omega)
   obtain ⟨_, _, _, rfl, _, _, _, _, _⟩ := RdE.cells hr39
   refine qO ((S6_5.q.a hc0).a hc39) [.o 0,.x b39 p39,.v 0,.f 1 11] rfl ⟨rfl,⟨rfl,hl39⟩,⟨hA39,by omega⟩,rfl,⟨⟩⟩ (S1a L8b rfl rfl (fun w1 S1 X1 => T2b a e.d.mem M _ _ _ (RdE.keep (S1.keep0 M) _ _ hr39) (hE.inp.keep (S1.keep0 M)).msk (hMem2.keep (S1.keep0 M))) (fun h46 => ?_) fun h46 => ?_)
   ·refine qD rfl ⟨⟩ ?_
    rintro wR8 ⟨SR8, XR8⟩
    refine lP0 rfl ⟨by omega,⟨⟩⟩ ⟨μk - 1, by omega, rfl, (k + 1), (_), (_), (_), (by omega), ?_, SR8.tail, rfl⟩
    rw [a2a, W8a hxn (.inr (by rw [V1a hxth, getD_some hxa]; exact of_decide_eq_true h46)), List.append_nil]; exact hrow
   refine qD rfl ⟨⟩ ?_
   rintro wR8 ⟨SR8, XR8⟩
   refine lC0 rfl ⟨⟩ (u0a b0a [0, 1, 2, 3, 4, 5, 6, 7, 8, 9, 10, 11] [12] [13] (by kernel_rfl) rfl (Cl _ _ _ _) (Cl.start SR8) ?_)
   obtain ⟨m, b55, p55, _, hxm, hA55, _, _, hc55, hr55⟩ := RdS.get (hMs23) (n.toNat) (by omega)
   obtain ⟨rfl, _⟩ := id hr55
   have hmi := hto.modules m (d0a hxm)
   unfold L2a at hmi
   have hpt := hto.points
   refine qO ((SR8.q.a hc55).a hc0) [.f 0 4,.o 0,.x b55 p55,.f 1 0] rfl ⟨rfl,⟨hA55,by omega⟩,rfl,rfl,⟨⟩⟩ (j3a a8a (vs := [(0, .int .i64 _), (1, .int .i64 _), (2, .int .i64 _), (3, .int .i64 _), (4, .int .i64 _)]) (cs := [_, _, _, _, _]) rfl rfl rfl rfl ?_)
   refine qN0 rfl ⟨⟩ (c3a ?_)
   refine E4a rfl rfl x6b rfl ?_
   refine y1a ?_
   rintro wR9 ⟨SR9, _⟩
   intro g7 hg7 G7 ng7
   dsimp only [x3a]
   clear ng7
   replace SR9 := SR9.push_new SR8 hg7 G7
   first | refine c0a (kk := 0) (vs := [_, _, _, _, _]) SR9 q3b rfl rfl rfl rfl rfl rfl rfl ?_
   intro w9_13 S9_13 X9_13
   dsimp only [k0a, List.set] at S9_13
   refine lO0 rfl ⟨⟩ (r0a S9_13 a1b rfl rfl (e7a p e M _ _ _ _ _ (hE.keep (S9_13.keep0 M))) (fun h61 w61 S61 X61 => ?_) (fun h61 w61 S61 X61 => ?_))
   ·obtain ⟨_, _, hss, hr, hth, hxs, hms⟩ := hE.step h61
    obtain ⟨s, hs⟩ : ∃ s, s = sOf p e := ⟨_, rfl⟩
    have hso := D1b.stepOK hp hth hms
    rw [← hs] at hr hxs hms hso
    obtain ⟨_, _, _, _, _, cs', rfl, -⟩ := x1a.open_ hr
    have hmj := hso.mod
    unfold L2a at hmj
    refine lB (S61.k.a hc0) [.f 0 5] rfl ⟨rfl,⟨⟩⟩ (fun h69 => ?_) fun h69 => ?_
    ·refine lO0 rfl ⟨⟩ (f0a S61 Z4a rfl rfl (Y4a p e M _ _ _ _ _ _ (hE.keep (S61.keep0 M)) (hss.keep (S61.keep0 [])) _ (x1a.keep (S61.keep0 M) _ _ hr)) ?_)
     intro w85 S85 X85
     refine lO0 rfl ⟨⟩ ?_
     first | refine v0a (kk := 0) S85 q7a rfl (by conv => lhs; whnf) rfl rfl (by exact Nat.le_of_ble_eq_true rfl) ?_
     intro w11_4 S11_4 X11_4
     refine lOn 3 S11_4.k [] rfl ⟨⟩ (B0a (by conv => lhs; whnf) rfl ?_)
     refine lO S11_4.k [.w 0] rfl ⟨⟨rfl,by rfl⟩,⟨⟩⟩ (H0a S11_4 q2a (vs := [.agg _]) (cs := [_, _, _, _, _]) (by rfl) rfl rfl rfl rfl rfl rfl ?_)
     intro g90 w90 S90 X90 G90
     have l1 := X1a (p := p) (e := e) k
     have hT2 : m3a p e k = [⟨e.at_, 1, s.module_, k, n⟩] := D4a hxth hxa hxn h34 (by simpa using h46) (by rw [hs]; exact E6a (by exact ⟨h61, .inl h69⟩))
     refine G1a U2a (k := 3) (M2 := []) (e1 := ⟨e.at_, 1, s.module_, k, n⟩) S90 q2a (by decide) rfl hrow rfl rfl (S90.cells 0 rfl) (m8a.of (by unfold i64; omega) (by unfold i64; omega) (by unfold i64; omega) (by unfold i64; omega) (by unfold i64; omega)) (by omega) rfl ?_
     intro v91 G91 cs91 w91 S91 hrow91 X91 F91
     refine O0a (by conv => lhs; whnf) rfl ?_
     refine lP0 rfl ⟨by omega,⟨⟩⟩ ⟨μk - 1, by omega, rfl, (k + 1), (_), (_), (_), (by omega), ?_, S91.tail.tail.tail, rfl⟩
     rw [a2a, hT2]; exact hrow91
    refine lO0 rfl ⟨⟩ (f0a S61 Z4a rfl rfl (Y4a p e M _ _ _ _ _ _ (hE.keep (S61.keep0 M)) (hss.keep (S61.keep0 [])) _ (x1a.keep (S61.keep0 M) _ _ hr)) ?_)
    intro w72 S72 X72
    refine lB0 rfl ⟨⟩ (fun h74 => ?_) fun h74 => ?_
    ·refine lO0 rfl ⟨⟩ (f0a S72 Z4a rfl rfl (Y4a p e M _ _ _ _ _ _ (hE.keep (S72.keep0 M)) (hss.keep (S72.keep0 [])) _ (x1a.keep (S72.keep0 M) _ _ hr)) ?_)
     intro w77 S77 X77
     refine lB0 rfl ⟨⟩ (fun h80 => ?_) fun h80 => ?_
     ·refine lO0 rfl ⟨⟩ (f0a S77 Z4a rfl rfl (Y4a p e M _ _ _ _ _ _ (hE.keep (S77.keep0 M)) (hss.keep (S77.keep0 [])) _ (x1a.keep (S77.keep0 M) _ _ hr)) ?_)
      intro w85 S85 X85
      refine lO0 rfl ⟨⟩ ?_
      first | refine v0a (kk := 0) S85 q7a rfl (by conv => lhs; whnf) rfl rfl (by exact Nat.le_of_ble_eq_true rfl) ?_
      intro w11_4 S11_4 X11_4
      refine lOn 3 S11_4.k [] rfl ⟨⟩ (B0a (by conv => lhs; whnf) rfl ?_)
      refine lO S11_4.k [.w 0] rfl ⟨⟨rfl,by rfl⟩,⟨⟩⟩ (H0a S11_4 q2a (vs := [.agg _]) (cs := [_, _, _, _, _]) (by rfl) rfl rfl rfl rfl rfl rfl ?_)
      intro g90 w90 S90 X90 G90
      have l1 := X1a (p := p) (e := e) k
      have hT2 : m3a p e k = [⟨e.at_, 1, s.module_, k, n⟩] := D4a hxth hxa hxn h34 (by simpa using h46) (by rw [hs]; exact E6a (by exact ⟨h61, .inr (by rw [← hs]; exact ⟨h74, h80⟩)⟩))
      refine G1a U2a (k := 3) (M2 := []) (e1 := ⟨e.at_, 1, s.module_, k, n⟩) S90 q2a (by decide) rfl hrow rfl rfl (S90.cells 0 rfl) (m8a.of (by unfold i64; omega) (by unfold i64; omega) (by unfold i64; omega) (by unfold i64; omega) (by unfold i64; omega)) (by omega) rfl ?_
      intro v91 G91 cs91 w91 S91 hrow91 X91 F91
      refine O0a (by conv => lhs; whnf) rfl ?_
      refine lP0 rfl ⟨by omega,⟨⟩⟩ ⟨μk - 1, by omega, rfl, (k + 1), (_), (_), (_), (by omega), ?_, S91.tail.tail.tail, rfl⟩
      rw [a2a, hT2]; exact hrow91
     refine lOn 9 S77.k [] rfl ⟨⟩ (B0a (by conv => lhs; whnf) rfl ?_)
     refine lO S77.k [.w 0] rfl ⟨⟨rfl,by rfl⟩,⟨⟩⟩ (H0a S77 q2a (vs := [.agg _]) (cs := [_, _, _, _, _]) (by rfl) rfl rfl rfl rfl rfl rfl ?_)
     intro g90 w90 S90 X90 G90
     have l1 := X1a (p := p) (e := e) k
     have hT2 : m3a p e k = [⟨e.at_, 1, m, k, n⟩] := D4a hxth hxa hxn h34 (by simpa using h46) (c5a hxth hxm hxn (by (rw [← hs]; rintro ⟨-, q | ⟨-, q2⟩⟩; exact h69 q; exact h80 q2)))
     refine G1a U2a (k := 3) (M2 := []) (e1 := ⟨e.at_, 1, m, k, n⟩) S90 q2a (by decide) rfl hrow rfl rfl (S90.cells 0 rfl) (m8a.of (by unfold i64; omega) (by unfold i64; omega) (by unfold i64; omega) (by unfold i64; omega) (by unfold i64; omega)) (by omega) rfl ?_
     intro v91 G91 cs91 w91 S91 hrow91 X91 F91
     refine O0a (by conv => lhs; whnf) rfl ?_
     refine lP0 rfl ⟨by omega,⟨⟩⟩ ⟨μk - 1, by omega, rfl, (k + 1), (_), (_), (_), (by omega), ?_, S91.tail.tail.tail, rfl⟩
     rw [a2a, hT2]; exact hrow91
    refine lOn 15 S72.k [] rfl ⟨⟩ (B0a (by conv => lhs; whnf) rfl ?_)
    refine lO S72.k [.w 0] rfl ⟨⟨rfl,by rfl⟩,⟨⟩⟩ (H0a S72 q2a (vs := [.agg _]) (cs := [_, _, _, _, _]) (by rfl) rfl rfl rfl rfl rfl rfl ?_)
    intro g90 w90 S90 X90 G90
    have l1 := X1a (p := p) (e := e) k
    have hT2 : m3a p e k = [⟨e.at_, 1, m, k, n⟩] := D4a hxth hxa hxn h34 (by simpa using h46) (c5a hxth hxm hxn (by (rw [← hs]; rintro ⟨-, q | ⟨q1, -⟩⟩; exact h69 q; exact h74 q1)))
    refine G1a U2a (k := 3) (M2 := []) (e1 := ⟨e.at_, 1, m, k, n⟩) S90 q2a (by decide) rfl hrow rfl rfl (S90.cells 0 rfl) (m8a.of (by unfold i64; omega) (by unfold i64; omega) (by unfold i64; omega) (by unfold i64; omega) (by unfold i64; omega)) (by omega) rfl ?_
    intro v91 G91 cs91 w91 S91 hrow91 X91 F91
    refine O0a (by conv => lhs; whnf) rfl ?_
    refine lP0 rfl ⟨by omega,⟨⟩⟩ ⟨μk - 1, by omega, rfl, (k + 1), (_), (_), (_), (by omega), ?_, S91.tail.tail.tail, rfl⟩
    rw [a2a, hT2]; exact hrow91
   refine lOn 28 S61.k [] rfl ⟨⟩ (B0a (by conv => lhs; whnf) rfl ?_)
   refine lO S61.k [.w 0] rfl ⟨⟨rfl,by rfl⟩,⟨⟩⟩ (H0a S61 q2a (vs := [.agg _]) (cs := [_, _, _, _, _]) (by rfl) rfl rfl rfl rfl rfl rfl ?_)
   intro g90 w90 S90 X90 G90
   have l1 := X1a (p := p) (e := e) k
   have hT2 : m3a p e k = [⟨e.at_, 1, m, k, n⟩] := D4a hxth hxa hxn h34 (by simpa using h46) (c5a hxth hxm hxn (by (rw [h61]; simp; done)))
   refine G1a U2a (k := 3) (M2 := []) (e1 := ⟨e.at_, 1, m, k, n⟩) S90 q2a (by decide) rfl hrow rfl rfl (S90.cells 0 rfl) (m8a.of (by unfold i64; omega) (by unfold i64; omega) (by unfold i64; omega) (by unfold i64; omega) (by unfold i64; omega)) (by omega) rfl ?_
   intro v91 G91 cs91 w91 S91 hrow91 X91 F91
   refine O0a (by conv => lhs; whnf) rfl ?_
   refine lP0 rfl ⟨by omega,⟨⟩⟩ ⟨μk - 1, by omega, rfl, (k + 1), (_), (_), (_), (by omega), ?_, S91.tail.tail.tail, rfl⟩
   rw [a2a, hT2]; exact hrow91
  refine lOn 8 S.k [] rfl ⟨⟩ (B0a (by conv => lhs; whnf) rfl ?_)
  refine O0a (by conv => lhs; whnf) rfl ?_
  refine lR0 rfl ⟨⟩ (q0a rfl (by conv => lhs; whnf) ?_)
  refine ⟨?_, S.fin⟩
  have l1 := X1a (p := p) (e := e) p.threads.length
  have e1 : R2a p e = g3a p e k := by unfold R2a; rw [if_pos h12, show p.threads.length = k by omega]
  rw [e1]
  exact J2a.rd U2a (M := M) hrow S (k := 0) rfl (fun g hg => by subst hg; exact Z0a hE.inp.lt (S.new 0 rfl)) (by rw [show k = p.threads.length by omega]; omega)
 refine lR0 rfl ⟨⟩ (q0a rfl (by conv => lhs; whnf) ?_)
 refine ⟨?_, S12.fin⟩
 rw [V4b h12]; exact j2a
end Go.Proofs.YtjjmdcnmeommbaaGreatDoor
namespace Go.Fw
open Go.RowKit
section
variable {P : Program} {r : Option Nat} {N : Nat} {D : List Deferred} {e : Env} {w w0 : World} {ops : Array Oper} {rest : List Oper} {K : List Deferred → Env → World → Prop} {L : List Ent} {M : List Nat}
variable {d : Nat} {t : TypeId} {p : String} {af : Array Edge} {f : FuncId} {args : Array Operand} {at_ : Array TypeId} {vs : List Value} {x : Operand}
theorem G8a {xt : TypeId} {v : Value} (hx : ev e x = v) (hI : ∀ w : World, (Instr.makeInterface xt v).run P w = .ok (.iface xt v) w) (hd : Nat.ble (d + 1) N = true) (h : WL P r N ops rest K D (upd e d (.iface xt v)) w) :
 WL P r N ops (⟨some d, .makeInterface xt x, t, p, af, none⟩ :: rest) K D e w :=
 X0a rfl rfl hd (by simp) (by simp only [execOp, hx, Sem.run_bind, hI, Result.andThen_ok, Sem.run_pure]) h
theorem M9b {ty : TypeId} {parts : Array (Nat × Operand)} {ps : List (Nat × Value)} {cs : List Value} (hvs : parts.toList.map (fun q => (q.1, ev e q.2)) = ps) (hB : ∀ w : World, (Instr.build ty ps.toArray).run P w = .ok (.agg cs.toArray) w) (hd : Nat.ble (d + 1) N = true)
 (h : WL P r N ops rest K D (upd e d (.agg cs.toArray)) w) : WL P r N ops (⟨some d, .build ty parts, t, p, af, none⟩ :: rest) K D e w := by
 have hp : (parts.map fun (i, x) => (i, ev e x)) = ps.toArray := by subst hvs; apply Array.ext'; simp
 exact X0a rfl rfl hd (by simp) (by simp [execOp, hp, hB w]) h
theorem t0c {tt : TypeId} {v : Value} {name : String} {recv : Operand} {R : Value → World → Prop} (S : St M w0 w L) (hx : ev e recv = .iface tt v) (hM : ∀ (az : Array Value) (w : World), (callMethod (.iface tt v) name az).run P w = .ok (.enter f (#[v] ++ az)) w)
 (hvs : args.toList.map (ev e) = vs) (hd : Nat.ble (d + 1) N = true) (hc : R0a P f (v :: vs).toArray w fun u w' => R u w' ∧ Below w.heap.size w w')
 (h : ∀ u w1, R u w1 → St M w0 w1 L → G0a [] w w1 → WL P r N ops rest K D (upd e d u) w1) :
 WL P r N ops (⟨some d, .call { callee := .invoke recv name, args := args, argTypes := at_ }, t, p, af, none⟩ :: rest) K D e w := by
 refine S1b rfl rfl hd (by simp) ?_ hc fun u w1 hr => h u w1 hr.1 (S.later hr.2) (G0a.of_below hr.2)
 subst hvs
 have h1 : (args.map (ev e)) = (args.toList.map (ev e)).toArray := by apply Array.ext'; simp
 have h2 : (#[Value.iface tt v] ++ args.map (ev e)).extract 1 (#[Value.iface tt v] ++ args.map (ev e)).size = args.map (ev e) := by
  apply Array.ext'
  simp
  exact List.take_of_length_le (by simp)
 simp only [execOp, resolve, hx, Sem.run_bind, Sem.run_pure, Result.andThen_ok, invoke]
 have h3 : (#[Value.iface tt v] ++ args.map (ev e))[0]? = some (.iface tt v) := by rw [Array.getElem?_append_left (by simp)]; rfl
 rw [h3]
 simp only [h2, hM]
 rw [h1]
 simp
theorem Z9b {ty len size lo b o : Nat} {el : TypeId} {xl : Operand} {kd : IntKind} (hu : P.underlying ty = some (.array len el)) (hz : ∀ w : World, (sizeOf el).run P w = .ok size w) (hx : ev e x = .pointer (some ⟨b, o, none⟩))
 (hl : ev e xl = .int kd (lo : Int)) (hlo : lo < len) (hd : Nat.ble (d + 1) N = true) (h : WL P r N ops rest K D (upd e d (.slice (some ⟨b, o + lo * size, none⟩) (len - lo) (len - lo))) w) :
 WL P r N ops (⟨some d, .slice ty x (some xl) none none, t, p, af, none⟩ :: rest) K D e w := by
 have e1 : (0 : Int) ≤ (lo : Int) ∧ (lo : Int) ≤ (len : Int) := by omega
 have e2 : ¬ (len = lo) := by omega
 refine X0a rfl rfl hd (by simp) ?_ h
 simp [execOp, Instr.sliceAt, Instr.sureAddr, Instr.sliceBounds, Instr.sliceBound, asIntOf, run_underlying hu, hz, hx, hl, e1, e2, Addr.add_lit]
 intro hh; omega
theorem A0c {α : Type} {l : List α} {k : Nat} {x : α} (h : l[k]? = some x) : l.set k x = l := by
 obtain ⟨hlt, he⟩ := List.getElem?_eq_some_iff.1 h
 rw [← he]; exact List.set_getElem_self hlt
theorem k7b {α : Type} {R0 : List Value → α → Prop} {size : Nat} (hL : p8a (fun (_ : List Nat) (_ : World) => R0) size) {M2 M3 : List Nat} {ty el bytes k c m : Nat} {A2 : Option Addr} {y : Operand} {z v : Value} {G : Option Nat} {cs : List Value} {l l2 : List α} (S : St M w0 w L) (hS : SlZ P ty el size z bytes) (hby : bytes ≤ 1000) (hk : L[k]? = some (G, el, cs)) (hR : J2a (fun _ _ => R0) size M2 w G cs v l)
 (hx : ev e x = v) (hy : ev e y = .slice A2 m c) (h2 : RdS M3 w size R0 (.slice A2 m c) l2) (hll : l.length + l2.length ≤ 1000000) (hd : Nat.ble (d + 1) N = true)
 (h : ∀ v' G' cs' w1, St M w0 w1 (L.set k (G', el, cs')) → J2a (fun _ _ => R0) size M2 w1 G' cs' v' (l ++ l2) → G0a G.toList w w1 → (∀ g ∈ G'.toList, g ∈ G.toList ∨ w.heap.size ≤ g) → WL P r N ops rest K D (upd e d v') w1) :
 WL P r N ops (⟨some d, .call { callee := .builtin .append, args := #[x, y], argTypes := #[ty, ty] }, t, p, af, none⟩ :: rest) K D e w := by
 obtain ⟨hm, -, -⟩ := h2.len
 by_cases h0 : l2 = []
 ·subst h0
  obtain ⟨A, c', rfl⟩ := hR.form
  have hm0 : m = 0 := by simpa using hm
  subst hm0
  have hnc : l.length ≤ c' := by
   obtain ⟨css, _, _, q3, _⟩ := hR
   rcases q3.2 with ⟨-, q5, q6⟩ | ⟨g, cap, -, q5, q6, -⟩
   ·simp only [Value.slice.injEq] at q5; omega
   ·simp only [Value.slice.injEq] at q5; omega
  refine Y2b hS hx hnc hy hd ?_
  have := h (.slice A l.length c') G cs w (by rw [A0c hk]; exact S) (by rw [List.append_nil]; exact hR) (G0a.refl _ _) (fun g hg => .inl hg)
  exact this
 ·have hpos : 0 < l2.length := List.length_pos_iff.2 h0
  obtain ⟨b, o, hA⟩ : ∃ b o, A2 = some ⟨b, o, none⟩ := by
   obtain ⟨_, _, _, _, h5⟩ := h2.at
   obtain ⟨b', o', hA', -⟩ := h5 (by omega)
   exact ⟨b', o', hA'⟩
  obtain ⟨css, c1, c2, c3⟩ := RdS.all h2 hA hpos
  subst hA
  exact d3b hL S hS hby hk hR hx hy hm c1 c2 c3 hll hd h
end
end Go.Fw
namespace Go.Proofs.YtjjmdcnmeommbaaGreatDoor
open Go.Fw Go.RowKit
def Y7a (p : e0a) (e : EvD) (c : Nat) : List p4a := match c with
 | 0 => Q3a p e
 | 1 => m6a p e
 | 2 => q8a p e
 | 3 => r5a p e
 | _ => R2a p e
def P5c : Nat → Nat
 | 0 => 115
 | 1 => 116
 | 2 => 117
 | 3 => 118
 | _ => 119
def f7b (c : Nat) : Value := .iface 174 (.func (.func (P5c c)) #[] #[])
def B5c : List Value := [f7b 0, f7b 1, f7b 2, f7b 3, f7b 4]
theorem M6c {b j : Nat} (h : b + j < 5) : B5c[0 + b * 1 + ((j : Nat) : Int).toNat * 1]? = some (f7b (b + j)) := by
 rw [show 0 + b * 1 + ((j : Nat) : Int).toNat * 1 = b + j by simp]
 match b + j, h with
 | 0, _ => rfl
 | 1, _ => rfl
 | 2, _ => rfl
 | 3, _ => rfl
 | 4, _ => rfl
theorem R8b (w0 : World) : R0a Tryz.prog 69 #[] w0 fun v w' => v = .agg B5c.toArray ∧ Below w0.heap.size w0 w' := by
 have S := St.refl w0
 refine a0a Tryz.func69 rfl Tryz.ntmps69 rfl ?_
 refine wO0 rfl ⟨⟩ (h0a S P1c rfl rfl ?_)
 intro g0 w0 S0 X0 G0
 refine lO0 rfl ⟨⟩ (G8a rfl (fun _ => by simp [Instr.makeInterface, run_underlying Tryz.underlying174]) rfl ?_)
 refine G8a rfl (fun _ => by simp [Instr.makeInterface, run_underlying Tryz.underlying174]) rfl ?_
 refine G8a rfl (fun _ => by simp [Instr.makeInterface, run_underlying Tryz.underlying174]) rfl ?_
 refine G8a rfl (fun _ => by simp [Instr.makeInterface, run_underlying Tryz.underlying174]) rfl ?_
 refine G8a rfl (fun _ => by simp [Instr.makeInterface, run_underlying Tryz.underlying174]) rfl ?_
 refine M9b (ps := [(0, f7b 0), (1, f7b 1), (2, f7b 2), (3, f7b 3), (4, f7b 4)]) (cs := B5c) rfl (fun _ => by kernel_rfl) rfl ?_
 first | refine c0a (kk := 0) (vs := [_, _, _, _, _]) S0 S1c rfl rfl rfl rfl rfl rfl rfl ?_
 intro w1_6 S1_6 X1_6
 dsimp only [k0a, List.set] at S1_6
 exact lR0 rfl ⟨⟩ (F1a (n := 5) rfl L5b rfl (S1_6.cells 0 rfl) rfl ⟨rfl, S1_6.fin⟩)
set_option maxRecDepth 100000 in
theorem m8b (p : e0a) (e : EvD) (c : Nat) (hc : c < 5) (h0 : c < 3 → 0 ≤ e.at_) (M : List Nat) (w0 : World) (ge : Nat) (cs xs ys : List Value) (hE : r2b p e M w0 ge cs xs ys) :
 R0a Tryz.prog 231 #[.func (.func (P5c c)) #[] #[], .pointer (some ⟨ge, 0, none⟩)] w0 fun v w' => V6b M w' v (Y7a p e c) ∧ Below w0.heap.size w0 w' := by
 have hH : Has Tryz.prog (P5c c) := by
  match c, hc with
  | 0, _ => exact (P7b : Has Tryz.prog 115)
  | 1, _ => exact (s9b : Has Tryz.prog 116)
  | 2, _ => exact (o3c : Has Tryz.prog 117)
  | 3, _ => exact (E3c : Has Tryz.prog 118)
  | 4, _ => exact (a4c : Has Tryz.prog 119)
 have hcc : ∀ w, r2b p e M w ge cs xs ys → R0a Tryz.prog (P5c c) #[.pointer (some ⟨ge, 0, none⟩)] w fun v w' => V6b M w' v (Y7a p e c) ∧ Below w.heap.size w w' := by
  match c, hc, h0 with
  | 0, _, _ => exact fun w h => x5b p e M w _ _ _ _ h
  | 1, _, _ => exact fun w h => q8b p e M w _ _ _ _ h
  | 2, _, h0 => exact fun w h => y4c p e M w _ _ _ _ h (h0 (by omega))
  | 3, _, _ => exact fun w h => b1c p e M w _ _ _ _ h
  | 4, _, _ => exact fun w h => N6b p e M w _ _ _ _ h
 have S := St.refl w0
 refine a0a Tryz.func231 rfl Tryz.ntmps231 rfl ?_
 refine wO0 rfl ⟨⟩ (S8a (f := P5c c) (vs := [.pointer (some ⟨ge, 0, none⟩)]) hH rfl rfl rfl (hcc w0 (hE.keep (S.keep0 M))) ?_)
 rintro v7 w7 ⟨hr, hb⟩
 have S7 := S.later hb
 refine O0a (by conv => lhs; whnf) rfl ?_
 refine lR0 rfl ⟨⟩ (q0a rfl (by conv => lhs; whnf) ?_)
 exact ⟨hr, S7.fin⟩
def R0c (p : e0a) (e : EvD) (b j : Nat) : List p4a := (List.range j).flatMap fun i => Y7a p e (b + i)
theorem f8b {p : e0a} {e : EvD} {b : Nat} (j : Nat) : R0c p e b (j + 1) = R0c p e b j ++ Y7a p e (b + j) := by simp [R0c, List.range_succ]
theorem n1c {p : e0a} {e : EvD} {b : Nat} (h : (b = 3 ∧ ¬ 0 ≤ e.at_) ∨ (b = 0 ∧ 0 ≤ e.at_)) : R0c p e b (5 - b) = t5a p e := by
 rcases h with ⟨rfl, h⟩ | ⟨rfl, h⟩
 ·unfold t5a; rw [if_neg h]; simp [R0c, Y7a, List.range_succ]
 ·unfold t5a; rw [if_pos h]; simp [R0c, Y7a, List.range_succ]
theorem r0b {p : e0a} {e : EvD} (hp : e1a p) (c : Nat) : (Y7a p e c).length ≤ 4 := by
 have h1 := j0b (p := p) (e := e)
 have h2 := E3b (p := p) (e := e)
 have h3 := f6a (p := p) (e := e) p.threads.length
 have h4 := S2a (p := p) (e := e) p.locks.length
 have h5 := X1a (p := p) (e := e) p.threads.length
 have h6 := hp.nthreads
 have h7 := hp.nlocks
 unfold Y7a
 split
 ·omega
 ·omega
 ·unfold q8a; split
  ·omega
  ·simp
 ·unfold r5a; split
  ·omega
  ·simp
 ·unfold R2a; split
  ·omega
  ·simp
theorem O9b {p : e0a} {e : EvD} (hp : e1a p) (b j : Nat) : (R0c p e b j).length ≤ j * 4 := g6a (fun _ => r0b hp _) j
end Go.Proofs.YtjjmdcnmeommbaaGreatDoor
namespace Go.Fw
open Go.RowKit
section
variable {P : Program} {r : Option Nat} {N : Nat} {l : List Oper} {D : List Deferred} {C : World → Prop} {K : List Deferred → Env → World → Prop} {pur : Nat → Bool}
def i2b (e : Env) (d : Option Nat) (v : Value) : Env := match d with | some d => upd e d v | none => e
def r4b (N : Nat) (o : Oper) : Prop := ∀ d, o.dst = some d → d < N
theorem X3a {a : Act} (o : Oper) (v : Value) (h : r4b a.tmps.size o) : W0a (a.put o.dst v) = i2b (W0a a) o.dst v := by
 cases hd : o.dst with
 | none => rfl
 | some d => exact h1a v (h d hd)
theorem I4a (a : Act) (o : Oper) (v : Value) : (a.put o.dst v).tmps.size = a.tmps.size := by
 cases o.dst <;> simp [Act.put]
theorem B2a (a : Act) (o : Oper) (v : Value) : (a.put o.dst v).defers = a.defers := by
 cases o.dst <;> simp [Act.put]
theorem M7a {e : Env} {o : Oper} {v : Value} (hN : r4b N o) (hz : ∀ i, N ≤ i → e i = undef) : ∀ i, N ≤ i → i2b e o.dst v i = undef := by
 cases hd : o.dst with
 | none => exact hz
 | some d => exact W1a (hN d hd) hz
theorem t4a {o : Oper} {K1 : List Deferred → Env → World → Prop} {e e1 : Env} {w : World} (hN : r4b N o) (hsel : Op.isSelect o.op = false) (hdef : ∀ c, o.op ≠ .defer c) (hz : ∀ i, N ≤ i → e1 i = undef)
 (agree : ∀ s ∈ Oper.looksAt l.toArray o, e s = e1 s) (h : WL P r N l.toArray [o] K1 D e1 w) : WL P r N l.toArray [o] (fun D' e' w' => ∃ v, e' = i2b e o.dst v ∧ K1 D' (i2b e1 o.dst v) w') D e w := by
 unfold WL at *
 intro a Q hs hD he hK
 obtain ⟨a1, hs1, hD1, he1⟩ := e6a e1 N D hz
 have h1 := h a1 (fun ex a' w' => ex = .normal ∧ K1 a'.defers (W0a a') w') hs1 hD1 he1 (fun a' w' _ hk => ⟨rfl, hk⟩)
 have hw : Region.wanted o (yielded l.toArray a.tmps) = Region.wanted o (yielded l.toArray a1.tmps) := by rw [s1a, s1a, he, he1]; exact V0a agree
 have fin : ∀ (v : Value) (w' : World), K1 (a1.put o.dst v).defers (W0a (a1.put o.dst v)) w' → Q .normal (a.put o.dst v) w' := by
  intro v w' hk
  rw [X3a o v (by rw [hs1]; exact hN), he1, B2a, hD1] at hk
  refine hK _ _ (by rw [I4a, hs]) ⟨v, by rw [X3a o v (by rw [hs]; exact hN), he], ?_⟩
  rw [B2a, hD]; exact hk
 simp only [wpListIn] at h1 ⊢
 rw [hw]
 split
 ·rename_i hww
  simp only [hww, if_true] at h1
  refine ⟨z0a _ _ _, ?_⟩
  have h4 := h1.2
  have hsem : Oper.semAt (fc r).round a.eval o = Oper.semAt (fc r).round a1.eval o := by
   rw [Oper.semAt_eq _ _ _ hdef, Oper.semAt_eq _ _ _ hdef, k2a, k2a, he, he1]; exact t1a hsel agree
  rw [hsem]
  revert h4
  generalize (Oper.semAt (fc r).round a1.eval o).run P w = res
  intro h4
  cases res with
  | ok x w' =>
    cases x with
    | value v => simp only [Oper.uponIn] at h4 ⊢; exact fin v w' h4.2
    | skip => simp only [Oper.uponIn] at h4 ⊢; exact fin undef w' h4.2
    | defer dd =>
      simp only [Oper.uponIn] at h4 ⊢
      have hk := h4.2
      have ee1 : W0a ({ a1 with defers := dd :: a1.defers } : Act) = e1 := he1
      have ee : W0a ({ a with defers := dd :: a.defers } : Act) = e := he
      rw [X3a (a := { a1 with defers := dd :: a1.defers }) o undef (by rw [show ({ a1 with defers := dd :: a1.defers } : Act).tmps.size = N from hs1]; exact hN), ee1, B2a] at hk
      refine hK _ _ (by rw [I4a]; exact hs) ⟨undef, by rw [X3a (a := { a with defers := dd :: a.defers }) o undef (by rw [show ({ a with defers := dd :: a.defers } : Act).tmps.size = N from hs]; exact hN), ee], ?_⟩
      rw [B2a]
      show K1 (dd :: a.defers) _ _
      rw [hD, ← hD1]; exact hk
    | enter f args =>
      simp only [Oper.uponIn] at h4 ⊢
      exact ⟨h4.1, CallsIn.mono h4.2 (fun en w'' hh => by
       cases en
       ·exact fin _ _ hh.2
       ·exact absurd hh.1 (by simp)
       ·obtain ⟨a0, w0, hh⟩ := hh; exact absurd hh.1 (by simp))⟩
    | row rw' args => simp only [Oper.uponIn] at h4 ⊢; exact ⟨h4.1, RowsIn.mono h4.2 (fun _ _ hh => fin _ _ hh.2)⟩
    | round l' f tmps assign body =>
      simp only [Oper.uponIn] at h4 ⊢
      exact ⟨h4.1, RoundIn.mono h4.2 (fun en w'' hh => by
       cases en
       ·exact fin _ _ hh.2
       ·exact absurd hh.1 (by simp)
       ·obtain ⟨a0, w0, hh⟩ := hh; exact absurd hh.1 (by simp))⟩
    | _ => simp only [Oper.uponIn] at h4
  | halt x w' => cases x <;> simp only [Oper.uponIn] at h4 ⊢ <;> exact absurd h4.1 (by simp)
 ·rename_i hww
  simp only [hww] at h1
  exact ⟨z0a _ _ _, fin undef w h1.2.2⟩
theorem N0c {o : Oper} {K1 : List Deferred → Env → World → Prop} {e : Env} {w : World} (hN : r4b N o) (hz : ∀ i, N ≤ i → e i = undef)
 (h : WL P r N l.toArray [o] K1 D e w) : ∃ D' v w', K1 D' (i2b e o.dst v) w' := by
 unfold WL at h
 obtain ⟨a1, hs1, hD1, he1⟩ := e6a e N D hz
 have h1 := h a1 (fun ex a' w' => ex = .normal ∧ K1 a'.defers (W0a a') w') hs1 hD1 he1 (fun a' w' _ hk => ⟨rfl, hk⟩)
 have fin : ∀ (v : Value) (w' : World), K1 (a1.put o.dst v).defers (W0a (a1.put o.dst v)) w' → ∃ D' v w', K1 D' (i2b e o.dst v) w' := by
  intro v w' hk
  rw [X3a o v (by rw [hs1]; exact hN), he1] at hk
  exact ⟨_, v, w', hk⟩
 simp only [wpListIn] at h1
 split at h1
 ·have h4 := h1.2
  revert h4
  generalize (Oper.semAt (fc r).round a1.eval o).run P w = res
  intro h4
  cases res with
  | ok x w' =>
    cases x with
    | value v => simp only [Oper.uponIn] at h4; exact fin v w' h4.2
    | skip => simp only [Oper.uponIn] at h4; exact fin undef w' h4.2
    | defer dd =>
      simp only [Oper.uponIn] at h4
      have hk := h4.2
      rw [X3a (a := { a1 with defers := dd :: a1.defers }) o undef (by rw [show ({ a1 with defers := dd :: a1.defers } : Act).tmps.size = N from hs1]; exact hN), show W0a ({ a1 with defers := dd :: a1.defers } : Act) = e from he1] at hk
      exact ⟨_, _, _, hk⟩
    | enter f args =>
      simp only [Oper.uponIn] at h4
      obtain ⟨en, w2, _, hR, _⟩ := h4.2.2 [] (room_wide _)
      cases en
      ·exact fin _ _ hR.2
      ·exact absurd hR.1 (by simp)
      ·obtain ⟨a0, w0, hh⟩ := hR; exact absurd hh.1 (by simp)
    | row rw' args =>
      simp only [Oper.uponIn] at h4
      obtain ⟨v, w2, hR, _⟩ := h4.2 default [] (room_wide _)
      exact fin _ _ hR.2
    | round l' f tmps assign body =>
      simp only [Oper.uponIn] at h4
      obtain ⟨en, w2, hR, _⟩ := h4.2.2 default [] (room_wide _)
      cases en
      ·exact fin _ _ hR.2
      ·exact absurd hR.1 (by simp)
      ·obtain ⟨a0, w0, hh⟩ := hR; exact absurd hh.1 (by simp)
    | _ => simp only [Oper.uponIn] at h4
  | halt x w' => cases x <;> simp only [Oper.uponIn] at h4 <;> exact absurd h4.1 (by simp)
 ·exact fin undef w h1.2.2
def WN (P : Program) (r : Option Nat) (N : Nat) (l : List Oper) (C : World → Prop) (pur : Nat → Bool) (K : List Deferred → Env → World → Prop) (D : List Deferred) : List Nat → Env → World → Prop
 | [], e, w => C w ∧ K D e w
 | i :: rest, e, w => C w ∧ ∃ o, l[i]? = some o ∧ r4b N o ∧
  ((pur i = true ∧ ∃ d v, o.dst = some d ∧ PV P l C o e v ∧ WN P r N l C pur K D rest (upd e d v) w) ∨
   (pur i = false ∧ WL P r N l.toArray [o] (fun D' e' w' => D' = D ∧ WN P r N l C pur K D rest e' w') D e w))
theorem WN.inC {rem : List Nat} {e : Env} {w : World} (h : WN P r N l C pur K D rem e w) : C w := by cases rem <;> exact h.1
def J0b (l : List Oper) (pur : Nat → Bool) (j i : Nat) : Bool :=
 match l[j]?, l[i]? with
 | some p, some q => (pur i || pur j) && (match p.dst, q.dst with
   | some c, some d => !(c == d) && !(Oper.looksAt l.toArray p).contains d && !(Oper.looksAt l.toArray q).contains c
   | some c, none => pur j && !(Oper.looksAt l.toArray q).contains c
   | none, some d => pur i && !(Oper.looksAt l.toArray p).contains d
   | _, _ => false)
 | _, _ => false
structure N8c (l : List Oper) (pur : Nat → Bool) (j i : Nat) (o1 o2 : Oper) : Prop where
 pur : pur i = true ∨ pur j = true
 dst : ∀ c d, o1.dst = some c → o2.dst = some d → c ≠ d
 p : ∀ d, o2.dst = some d → d ∉ Oper.looksAt l.toArray o1
 q : ∀ c, o1.dst = some c → c ∉ Oper.looksAt l.toArray o2
theorem m9a {j i : Nat} {p q : Oper} (h : J0b l pur j i = true) (hj : l[j]? = some p) (hi : l[i]? = some q) : N8c l pur j i p q := by
 unfold J0b at h
 simp only [hj, hi, Bool.and_eq_true, Bool.or_eq_true] at h
 obtain ⟨h1, h2⟩ := h
 cases hc : p.dst with
 | none =>
   cases hd : q.dst with
   | none => simp [hc, hd] at h2
   | some d =>
     simp only [hc, hd, Bool.and_eq_true, Bool.not_eq_true', List.contains_eq_mem, decide_eq_false_iff_not] at h2
     exact ⟨h1, fun c d h => (by rw [hc] at h; cases h), fun x hx => (by rw [hd] at hx; cases hx; exact h2.2), fun c h => (by rw [hc] at h; cases h)⟩
 | some c =>
   cases hd : q.dst with
   | none =>
     simp only [hc, hd, Bool.and_eq_true, Bool.not_eq_true', List.contains_eq_mem, decide_eq_false_iff_not] at h2
     exact ⟨h1, fun c d _ h => (by rw [hd] at h; cases h), fun d h => (by rw [hd] at h; cases h), fun x hx => (by rw [hc] at hx; cases hx; exact h2.2)⟩
   | some d =>
     simp only [hc, hd, Bool.and_eq_true, Bool.not_eq_true', beq_eq_false_iff_ne, List.contains_eq_mem, decide_eq_false_iff_not] at h2
     exact ⟨h1, fun x y hx hy => (by rw [hc] at hx; rw [hd] at hy; cases hx; cases hy; exact h2.1.1), fun x hx => (by rw [hd] at hx; cases hx; exact h2.1.2), fun x hx => (by rw [hc] at hx; cases hx; exact h2.2)⟩
theorem D7a {e : Env} {o : Oper} {u : Value} {s : Nat} {X : List Nat} (hc : ∀ c, o.dst = some c → c ∉ X) (hs : s ∈ X) : i2b e o.dst u s = e s := by
 cases hd : o.dst with
 | none => rfl
 | some c => exact D1a (hc c hd) hs
theorem F3b (e : Env) {p q : Oper} (u v : Value) (h : ∀ c d, p.dst = some c → q.dst = some d → c ≠ d) : i2b (i2b e p.dst u) q.dst v = i2b (i2b e q.dst v) p.dst u := by
 cases hc : p.dst with
 | none => rfl
 | some c =>
   cases hd : q.dst with
   | none => rfl
   | some d => exact v2a e u v (h c d hc hd)
theorem WN.first (hpl : X4a l = true) {i : Nat} {post : List Nat} : ∀ (pre : List Nat) (e : Env) (w : World), (∀ j ∈ pre, J0b l pur j i = true) → (∀ i, N ≤ i → e i = undef) → WN P r N l C pur K D (pre ++ i :: post) e w →
 ∃ o, l[i]? = some o ∧ r4b N o ∧
  ((pur i = true ∧ ∃ d v, o.dst = some d ∧ PV P l C o e v ∧ WN P r N l C pur K D (pre ++ post) (upd e d v) w) ∨
   (pur i = false ∧ WL P r N l.toArray [o] (fun D' e' w' => D' = D ∧ ∃ v, e' = i2b e o.dst v ∧ WN P r N l C pur K D (pre ++ post) e' w') D e w)) := by
 intro pre
 induction pre with
 | nil =>
   intro e w _ hz h
   obtain ⟨hC, o, ho, hN, h⟩ := h
   refine ⟨o, ho, hN, ?_⟩
   rcases h with h | ⟨hp, h⟩
   ·exact .inl h
   ·refine .inr ⟨hp, ?_⟩
    have h2 := t4a (e := e) (e1 := e) hN (E0a hpl ho).1 (E0a hpl ho).2 hz (fun _ _ => rfl) h
    unfold WL at *
    exact fun a Q hs hD he hK => h2 a Q hs hD he (fun a' w' hs' ⟨v, h1, h3, h4⟩ => hK a' w' hs' ⟨h3, v, h1, by rw [h1]; exact h4⟩)
 | cons q pre ih =>
   intro e w hind hz h
   obtain ⟨hC, p, hp, hcN, h⟩ := h
   have hq := hind q (by simp)
   have hind' : ∀ j ∈ pre, J0b l pur j i = true := fun j hj => hind j (by simp [hj])
   rcases h with ⟨hpq, c, u, hc, hu, h⟩ | ⟨hpq, h⟩
   ·obtain ⟨o, ho, hN, h2⟩ := ih (upd e c u) w hind' (W1a (hcN c hc) hz) h
    have hI := m9a hq hp ho
    refine ⟨o, ho, hN, ?_⟩
    rcases h2 with ⟨hpi, d, v, hd, hv, h2⟩ | ⟨hpi, h2⟩
    ·refine .inl ⟨hpi, d, v, hd, hv.congr (E0a hpl ho).1 (fun s hs => D1a (hI.q c hc) hs), hC, p, hp, hcN, .inl ⟨hpq, c, u, hc, hu.congr (E0a hpl hp).1 (fun s hs => (D1a (hI.p d hd) hs).symm), ?_⟩⟩
     rw [← v2a _ _ _ (hI.dst c d hc hd)]; exact h2
    ·refine .inr ⟨hpi, ?_⟩
     have h3 := t4a (e := e) (e1 := upd e c u) hN (E0a hpl ho).1 (E0a hpl ho).2 (W1a (hcN c hc) hz) (fun s hs => (D1a (hI.q c hc) hs).symm) h2
     unfold WL at *
     refine fun a Q hs hD he hK => h3 a Q hs hD he (fun a' w' hs' hh => hK a' w' hs' ?_)
     obtain ⟨v, h1, h4, _, h5, h6⟩ := hh
     refine ⟨h4, v, h1, ?_⟩
     rw [h1]
     refine ⟨h6.inC, p, hp, hcN, .inl ⟨hpq, c, u, hc, hu.congr (E0a hpl hp).1 (fun s hs => (D7a hI.p hs).symm), ?_⟩⟩
     have e1 : i2b (upd e c u) o.dst v = upd (i2b e o.dst v) c u := by
      have := F3b e (p := p) (q := o) u v hI.dst
      rw [hc] at this; exact this
     rw [← e1]; exact h6
   ·have h0 := t4a (e := e) (e1 := e) hcN (E0a hpl hp).1 (E0a hpl hp).2 hz (fun _ _ => rfl) h
    obtain ⟨_, u1, w1, _, hu2, _, h1⟩ := N0c hcN hz h0
    rw [← hu2] at h1
    obtain ⟨o, ho, hN, h2⟩ := ih (i2b e p.dst u1) w1 hind' (M7a hcN hz) h1
    have hI := m9a hq hp ho
    have hpi : pur i = true := by
     rcases hI.pur with h | h
     ·exact h
     ·rw [hpq] at h; cases h
    rcases h2 with ⟨_, d, v0, hd, hv0, _⟩ | ⟨hpi', _⟩
    ·have hv0' : PV P l C o e v0 := hv0.congr (E0a hpl ho).1 (fun s hs => D7a hI.q hs)
     refine ⟨o, ho, hN, .inl ⟨hpi, d, v0, hd, hv0', hC, p, hp, hcN, .inr ⟨hpq, ?_⟩⟩⟩
     have h3 := t4a (e := upd e d v0) (e1 := e) hcN (E0a hpl hp).1 (E0a hpl hp).2 hz (fun s hs => D1a (hI.p d hd) hs) h
     unfold WL at *
     refine fun a Q hs hD he hK => h3 a Q hs hD he (fun a' w' hs' hh => hK a' w' hs' ?_)
     obtain ⟨u, hu, hDD, h4⟩ := hh
     refine ⟨hDD, ?_⟩
     obtain ⟨o', ho', _, h5⟩ := ih (i2b e p.dst u) w' hind' (M7a hcN hz) h4
     obtain rfl : o' = o := Option.some.inj (ho'.symm.trans ho)
     rcases h5 with ⟨_, d', v, hd', hv, h5⟩ | ⟨hpi', _⟩
     ·obtain rfl : d' = d := Option.some.inj (hd'.symm.trans hd)
      have hv' : PV P l C o' e v := hv.congr (E0a hpl ho).1 (fun s hs => D7a hI.q hs)
      obtain rfl : v = v0 := PV.uniq hC hv' hv0'
      have e1 : upd (i2b e p.dst u) d' v = i2b (upd e d' v) p.dst u := by
       have := F3b e (p := p) (q := o') u v hI.dst
       rw [hd] at this; exact this
      rw [hu, ← e1]; exact h5
     ·rw [hpi] at hpi'; cases hpi'
    ·rw [hpi] at hpi'; cases hpi'
def I4b (l : List Oper) (pur : Nat → Bool) (x y : Nat) : List Nat → List Nat → Bool
 | _, [] => true
 | acc, i :: rest => (acc.all fun j => (o4a l i).contains j || J0b l pur j i || (j == x && i == y)) && I4b l pur x y (acc ++ [i]) rest
theorem I0b {x y : Nat} : ∀ (ix acc : List Nat), I4b l pur x y acc ix = true → ∀ (pre : List Nat) (i : Nat) (post : List Nat), ix = pre ++ i :: post → ∀ j ∈ acc ++ pre, j ∈ o4a l i ∨ J0b l pur j i = true ∨ (j = x ∧ i = y)
 | [], _, _, pre, i, post, h => by simp at h
 | k :: ix, acc, h, pre, i, post, he => by
   simp only [I4b, Bool.and_eq_true] at h
   cases pre with
   | nil =>
     simp at he
     obtain ⟨rfl, -⟩ := he
     intro j hj
     rw [List.append_nil] at hj
     have := List.all_eq_true.1 h.1 j hj
     simp only [Bool.or_eq_true, List.contains_eq_mem, decide_eq_true_eq, Bool.and_eq_true, beq_iff_eq] at this
     rcases this with (h | h) | h
     ·exact .inl h
     ·exact .inr (.inl h)
     ·exact .inr (.inr h)
   | cons q pre =>
     simp at he
     obtain ⟨rfl, he⟩ := he
     intro j hj
     exact I0b ix (acc ++ [k]) h.2 pre i post he j (by simpa using hj)
def w5a (ix : List Nat) (f : Nat → Bool) : List Nat := ix.filter fun i => !f i
theorem v6b {ix : List Nat} (hnd : ix.Nodup) (f : Nat → Bool) {i : Nat} (hi : i ∈ ix) (hf : f i = false) : ∃ pre post P Q, ix = P ++ i :: Q ∧ w5a ix f = pre ++ i :: post ∧ w5a ix (fun j => f j || j == i) = pre ++ post ∧ ∀ j ∈ pre, j ∈ P ∧ f j = false := by
 obtain ⟨P, Q, rfl⟩ := List.append_of_mem hi
 rw [List.nodup_append] at hnd
 obtain ⟨_, h2, h3⟩ := hnd
 rw [List.nodup_cons] at h2
 refine ⟨P.filter fun j => !f j, Q.filter fun j => !f j, P, Q, rfl, ?_, ?_, ?_⟩
 ·unfold w5a; rw [List.filter_append, List.filter_cons]; simp [hf]
 ·unfold w5a; rw [List.filter_append, List.filter_cons]
  simp only [beq_self_eq_true, Bool.or_true, Bool.not_true, Bool.false_eq_true, if_false]
  congr 1
  ·apply List.filter_congr; intro j hj
   have : (j == i) = false := by simp; exact fun e => h3 j hj i (by simp) e
   simp [this]
  ·apply List.filter_congr; intro j hj
   have : (j == i) = false := by simp; exact fun e => h2.1 (e ▸ hj)
   simp [this]
 ·intro j hj; rw [List.mem_filter] at hj; exact ⟨hj.1, by simpa using hj.2⟩
def o5b : List Nat → Bool
 | [] => true
 | x :: l => !l.contains x && o5b l
theorem I8a : ∀ {l : List Nat}, o5b l = true → l.Nodup
 | [], _ => List.nodup_nil
 | x :: l, h => by
   simp only [o5b, Bool.and_eq_true, Bool.not_eq_true', List.contains_eq_mem, decide_eq_false_iff_not] at h
   exact List.nodup_cons.2 ⟨h.1, I8a h.2⟩
def B3c (n : Nat) (ix : List Nat) : Bool := o5b ix && (List.range n).all (fun i => ix.contains i) && ix.all (fun i => decide (i < n))
def W2c (l : List Oper) (pur : Nat → Bool) (a c : Nat) (ixA ixB : List Nat) : Bool :=
 X4a l && ((List.range l.length).all fun i => (n1a l i).all fun j => decide (j < i)) && B3c l.length ixA && B3c l.length ixB && I4b l pur a c [] ixA && I4b l pur c a [] ixB &&
 ((List.range l.length).all fun i => pur i || i == a || i == c || ((o4a l i).contains a && (o4a l i).contains c)) && !(a == c) && !pur a && !pur c
theorem WN.step {ix : List Nat} {x y : Nat} (hpl : X4a l = true) (hnd : ix.Nodup) (hor : I4b l pur x y [] ix = true) {f : Nat → Bool} (hcl : ∀ i, f i = true → ∀ j ∈ n1a l i, f j = true) {i : Nat} {o : Oper} (hi : i ∈ ix) (ho : l[i]? = some o) (hfi : f i = false)
 (hpr : ∀ j ∈ n1a l i, f j = true) (hxy : i = y → f x = true) {e : Env} {w : World} (hz : ∀ i, N ≤ i → e i = undef) (h : WN P r N l C pur K D (w5a ix f) e w) :
 r4b N o ∧ ((pur i = true ∧ ∃ d v, o.dst = some d ∧ PV P l C o e v ∧ WN P r N l C pur K D (w5a ix (fun j => f j || j == i)) (upd e d v) w) ∨
  (pur i = false ∧ WL P r N l.toArray [o] (fun D' e' w' => D' = D ∧ ∃ v, e' = i2b e o.dst v ∧ WN P r N l C pur K D (w5a ix (fun j => f j || j == i)) e' w') D e w)) := by
 obtain ⟨pre, _, A, B, h1, h2, h3, h4⟩ := v6b hnd f hi hfi
 rw [h2] at h
 have hwt : ∀ j ∈ o4a l i, f j = true := B3a hcl _ _ hpr
 obtain ⟨o', ho', hN, h5⟩ := WN.first hpl pre e w (fun j hj => by
  obtain ⟨h6, h7⟩ := h4 j hj
  rcases I0b ix [] hor A i B h1 j (by simpa using h6) with h | h | ⟨h, h'⟩
  ·have := hwt j h; rw [h7] at this; cases this
  ·exact h
  ·subst h; have := hxy h'; rw [h7] at this; cases this) hz h
 obtain rfl : o' = o := Option.some.inj (ho'.symm.trans ho)
 rw [h3]
 exact ⟨hN, h5⟩
theorem Q7c {id : Nat} {n t : List Deferred → Env → World → Prop} {b : Nat → List Deferred → Env → World → Prop} {e : Env} {w : World} (hm : P.follows .mixedOrders = true) (pur : Nat → Bool) (a c : Nat) (ixA ixB : List Nat)
 (hok : W2c l pur a c ixA ixB = true) (C : World → Prop) (hA : WN P r N l C pur n D ixA e w.drew) (hB : WN P r N l C pur n D ixB e w.drew) : W P r N (.region id l.toArray true) ⟨n, b, t⟩ D e w := by
 unfold W2c B3c at hok
 simp only [Bool.and_eq_true, Bool.not_eq_true', beq_eq_false_iff_ne] at hok
 obtain ⟨⟨⟨⟨⟨⟨⟨⟨⟨hpl, hac⟩, ⟨hndA, hfA⟩, hbA⟩, ⟨hndB, hfB⟩, hbB⟩, hoA⟩, hoB⟩, hlo⟩, hne⟩, _⟩, _⟩ := hok
 have hndA := I8a hndA
 have hndB := I8a hndB
 have inA : ∀ i, i < l.length → i ∈ ixA := fun i hi => by simpa using List.all_eq_true.1 hfA i (List.mem_range.2 hi)
 have inB : ∀ i, i < l.length → i ∈ ixB := fun i hi => by simpa using List.all_eq_true.1 hfB i (List.mem_range.2 hi)
 have hz : (∀ i, N ≤ i → e i = undef) → W P r N (.region id l.toArray true) ⟨n, b, t⟩ D e w := by
  intro hz
  refine Q4b hm hac (fun f e w => (∀ i, N ≤ i → e i = undef) ∧ (∀ i, f i = true → ∀ j ∈ n1a l i, f j = true) ∧
   ((f a = false ∧ f c = false ∧ WN P r N l C pur n D (w5a ixA f) e w ∧ WN P r N l C pur n D (w5a ixB f) e w) ∨ (f a = true ∧ WN P r N l C pur n D (w5a ixA f) e w) ∨ (f c = true ∧ WN P r N l C pur n D (w5a ixB f) e w))) ⟨hz, by simp, .inl ⟨rfl, rfl, ?_, ?_⟩⟩ ?_ ?_
  ·have : w5a ixA (fun _ => false) = ixA := by unfold w5a; simp
   rw [this]; exact hA
  ·have : w5a ixB (fun _ => false) = ixB := by unfold w5a; simp
   rw [this]; exact hB
  ·rintro f e w i o ⟨hz, hcl, hM⟩ ho hfi hpr
   have hil : i < l.length := (List.getElem?_eq_some_iff.1 ho).1
   have hcl' : ∀ k, (f k || k == i) = true → ∀ j ∈ n1a l k, (f j || j == i) = true := by
    intro k hk j hj
    simp only [Bool.or_eq_true, beq_iff_eq] at hk ⊢
    rcases hk with hk | rfl
    ·exact .inl (hcl k hk j hj)
    ·exact .inl (hpr j hj)
   have hwt : ∀ j ∈ o4a l i, f j = true := B3a hcl _ _ hpr
   have one : ∀ (ix : List Nat) (x y : Nat) (J : (Nat → Bool) → Env → World → Prop), ix.Nodup → i ∈ ix → I4b l pur x y [] ix = true → (i = y → f x = true) → WN P r N l C pur n D (w5a ix f) e w →
    (∀ e' w', WN P r N l C pur n D (w5a ix (fun j => f j || j == i)) e' w' → J (fun j => f j || j == i) e' w') →
    WL P r N l.toArray [o] (fun D' e' w' => D' = D ∧ (∀ i, N ≤ i → e' i = undef) ∧ (∀ k, (f k || k == i) = true → ∀ j ∈ n1a l k, (f j || j == i) = true) ∧ J (fun j => f j || j == i) e' w') D e w := by
    intro ix x y J hnd hi hor hxy hw hJ
    obtain ⟨hN, h5⟩ := WN.step hpl hnd hor hcl hi ho hfi hpr hxy hz hw
    have hCw := hw.inC
    rcases h5 with ⟨hpi, d, v, hd, hv, h5⟩ | ⟨hpi, h5⟩
    ·rcases hv with ⟨hww, hv⟩ | ⟨hww, rfl⟩
     ·unfold WL; intro a Q hs hD he hK
      simp only [wpListIn]
      have hw' : Region.wanted o (yielded l.toArray a.tmps) = true := by rw [s1a, he]; exact hww
      simp only [hw', if_true]
      refine ⟨z0a _ _ _, ?_⟩
      rw [Oper.semAt_eq _ _ _ (E0a hpl ho).2, k2a, he, hv w hCw, Oper.uponIn_value]
      refine hK _ _ (by rw [I4a, hs]) ⟨by rw [B2a, hD], ?_⟩
      rw [hd, h1a v (by rw [hs]; exact hN d hd), he]
      exact ⟨W1a (hN d hd) hz, hcl', hJ _ _ h5⟩
     ·unfold WL; intro a Q hs hD he hK
      simp only [wpListIn]
      have hw' : Region.wanted o (yielded l.toArray a.tmps) = false := by rw [s1a, he]; exact hww
      simp only [hw']
      refine ⟨z0a _ _ _, ?_⟩
      refine hK _ _ (by rw [I4a, hs]) ⟨by rw [B2a, hD], ?_⟩
      rw [hd, h1a undef (by rw [hs]; exact hN d hd), he]
      exact ⟨W1a (hN d hd) hz, hcl', hJ _ _ h5⟩
    ·unfold WL at *
     refine fun a Q hs hD he hK => h5 a Q hs hD he (fun a' w' hs' hh => hK a' w' hs' ?_)
     obtain ⟨hDD, v, hv, h6⟩ := hh
     exact ⟨hDD, by rw [hv]; exact M7a hN hz, hcl', hJ _ _ h6⟩
   rcases hM with ⟨hfa, hfc, hMA, hMB⟩ | ⟨hfa, hMA⟩ | ⟨hfc, hMB⟩
   ·by_cases hia : i = a
    ·exact one ixA a c (fun f e w => (f a = false ∧ f c = false ∧ WN P r N l C pur n D (w5a ixA f) e w ∧ WN P r N l C pur n D (w5a ixB f) e w) ∨ (f a = true ∧ WN P r N l C pur n D (w5a ixA f) e w) ∨ (f c = true ∧ WN P r N l C pur n D (w5a ixB f) e w)) hndA (inA i hil) hoA (fun h => absurd (hia.symm.trans h) hne) hMA (fun e' w' h => .inr (.inl ⟨by simp [hia], h⟩))
    by_cases hic : i = c
    ·exact one ixB c a (fun f e w => (f a = false ∧ f c = false ∧ WN P r N l C pur n D (w5a ixA f) e w ∧ WN P r N l C pur n D (w5a ixB f) e w) ∨ (f a = true ∧ WN P r N l C pur n D (w5a ixA f) e w) ∨ (f c = true ∧ WN P r N l C pur n D (w5a ixB f) e w)) hndB (inB i hil) hoB (fun h => absurd h hia) hMB (fun e' w' h => .inr (.inr ⟨by simp [hic], h⟩))
    have hpi : pur i = true := by
     have := List.all_eq_true.1 hlo i (List.mem_range.2 hil)
     simp only [Bool.or_eq_true, beq_iff_eq, hia, hic, or_false, Bool.and_eq_true, List.contains_eq_mem, decide_eq_true_eq] at this
     rcases this with h | h
     ·exact h
     ·have := hwt a h.1; rw [hfa] at this; cases this
    obtain ⟨hN, h5⟩ := WN.step hpl hndA hoA hcl (inA i hil) ho hfi hpr (fun h => absurd h hic) hz hMA
    obtain ⟨-, h6⟩ := WN.step hpl hndB hoB hcl (inB i hil) ho hfi hpr (fun h => absurd h hia) hz hMB
    have hCw := hMA.inC
    rcases h5 with ⟨_, d, v, hd, hv, h5⟩ | ⟨hp', _⟩
    rotate_left
    ·rw [hpi] at hp'; cases hp'
    rcases h6 with ⟨_, d', v', hd', hv', h6⟩ | ⟨hp', _⟩
    rotate_left
    ·rw [hpi] at hp'; cases hp'
    obtain rfl : d' = d := Option.some.inj (hd'.symm.trans hd)
    obtain rfl : v' = v := PV.uniq hCw hv' hv
    have hfa' : (f a || a == i) = false := by simp [hfa]; exact fun e => hia e.symm
    have hfc' : (f c || c == i) = false := by simp [hfc]; exact fun e => hic e.symm
    rcases hv with ⟨hww, hv⟩ | ⟨hww, rfl⟩
    ·unfold WL; intro a Q hs hD he hK
     simp only [wpListIn]
     have hw' : Region.wanted o (yielded l.toArray a.tmps) = true := by rw [s1a, he]; exact hww
     simp only [hw', if_true]
     refine ⟨z0a _ _ _, ?_⟩
     rw [Oper.semAt_eq _ _ _ (E0a hpl ho).2, k2a, he, hv w hCw, Oper.uponIn_value]
     refine hK _ _ (by rw [I4a, hs]) ⟨by rw [B2a, hD], ?_⟩
     rw [hd, h1a v' (by rw [hs]; exact hN d' hd), he]
     exact ⟨W1a (hN d' hd) hz, hcl', .inl ⟨hfa', hfc', h5, h6⟩⟩
    ·unfold WL; intro a Q hs hD he hK
     simp only [wpListIn]
     have hw' : Region.wanted o (yielded l.toArray a.tmps) = false := by rw [s1a, he]; exact hww
     simp only [hw']
     refine ⟨z0a _ _ _, ?_⟩
     refine hK _ _ (by rw [I4a, hs]) ⟨by rw [B2a, hD], ?_⟩
     rw [hd, h1a undef (by rw [hs]; exact hN d' hd), he]
     exact ⟨W1a (hN d' hd) hz, hcl', .inl ⟨hfa', hfc', h5, h6⟩⟩
   ·exact one ixA a c (fun f e w => (f a = false ∧ f c = false ∧ WN P r N l C pur n D (w5a ixA f) e w ∧ WN P r N l C pur n D (w5a ixB f) e w) ∨ (f a = true ∧ WN P r N l C pur n D (w5a ixA f) e w) ∨ (f c = true ∧ WN P r N l C pur n D (w5a ixB f) e w)) hndA (inA i hil) hoA (fun _ => hfa) hMA (fun e' w' h => .inr (.inl ⟨by simp [hfa], h⟩))
   ·exact one ixB c a (fun f e w => (f a = false ∧ f c = false ∧ WN P r N l C pur n D (w5a ixA f) e w ∧ WN P r N l C pur n D (w5a ixB f) e w) ∨ (f a = true ∧ WN P r N l C pur n D (w5a ixA f) e w) ∨ (f c = true ∧ WN P r N l C pur n D (w5a ixB f) e w)) hndB (inB i hil) hoB (fun _ => hfc) hMB (fun e' w' h => .inr (.inr ⟨by simp [hfc], h⟩))
  ·rintro f e w ⟨hz, hcl, hM⟩ hall
   have rA : w5a ixA f = [] := by
    unfold w5a; rw [List.filter_eq_nil_iff]; intro j hj; simp [hall j (by simpa using List.all_eq_true.1 hbA j hj)]
   have rB : w5a ixB f = [] := by
    unfold w5a; rw [List.filter_eq_nil_iff]; intro j hj; simp [hall j (by simpa using List.all_eq_true.1 hbB j hj)]
   rw [rA, rB] at hM
   rcases hM with ⟨_, _, h, _⟩ | ⟨_, h⟩ | ⟨_, h⟩
   ·exact h.2
   ·exact h.2
   ·exact h.2
 unfold W at *
 intro a hs hd he
 refine hz (fun i hi => ?_) a hs hd he
 rw [← he]; simp only [W0a, Array.getD_eq_getD_getElem?]; rw [Array.getElem?_eq_none (by omega)]; rfl
theorem o8c {id : Nat} {n t : List Deferred → Env → World → Prop} {b : Nat → List Deferred → Env → World → Prop} {e : Env} {w : World} (hm : P.follows .mixedOrders = true) (pur : Nat → Bool) (a c : Nat) (ix : List Nat)
 (hok : W2c l pur a c ix ix = true) (C : World → Prop) (h : WN P r N l C pur n D ix e w.drew) : W P r N (.region id l.toArray true) ⟨n, b, t⟩ D e w := Q7c hm pur a c ix ix hok C h h
variable {e : Env} {w : World}
theorem k6c (hC : C w) (h : K D e w) : WN P r N l C pur K D [] e w := ⟨hC, h⟩
theorem B5b {i : Nat} {rest : List Nat} {o : Oper} (hC : C w) (ho : l[i]? = some o) (hp : pur i = true) (hv : P9b o.op = true) (h : QL P N l.toArray C [o] (fun e' => WN P r N l C pur K D rest e' w) e) : WN P r N l C pur K D (i :: rest) e w := by
 unfold QL at h
 obtain ⟨pa, hl, hq, hk⟩ := h
 obtain ⟨d, v, h1, h2, h3, h4⟩ := hq 0 o rfl
 obtain rfl : pa = [(d, v)] := by
  match pa, hl, h1 with
  | [x], _, h1 => simpa using h1
 refine ⟨hC, o, ho, fun d' hd' => by rw [h2] at hd'; cases hd'; exact h3, .inl ⟨hp, d, v, h2, ?_, hk⟩⟩
 rcases h4 with ⟨h5, h6⟩ | h5
 ·refine .inl ⟨h5, fun w hw => ?_⟩
  rcases h6 w hw with h7 | ⟨f, args, h7, _⟩
  ·exact h7
  ·obtain ⟨_, hv'⟩ := z6a hv h7; cases hv'
 ·exact .inr h5
theorem y7c {i : Nat} {rest : List Nat} {o : Oper} (hC : C w) (ho : l[i]? = some o) (hp : pur i = false) (hN : (o.dst.all fun d => Nat.ble (d + 1) N) = true)
 (h : WL P r N l.toArray [o] (fun D' e' w' => D' = D ∧ WN P r N l C pur K D rest e' w') D e w) : WN P r N l C pur K D (i :: rest) e w :=
 ⟨hC, o, ho, fun d hd => by rw [hd] at hN; exact Nat.le_of_ble_eq_true (by simpa using hN), .inr ⟨hp, h⟩⟩
end
end Go.Fw
namespace Go.Proofs.YtjjmdcnmeommbaaGreatDoor
open Go.Fw Go.RowKit
theorem i4b {M : List Nat} {w : World} : J0a M w noC [.slice none 0 0, .slice none 0 0, .slice none 0 0] := ⟨_, _, _, rfl, j2a, j2a, j2a⟩
theorem E7b {run : List o0a} {l : List F0a} {d : F0a} (h : l[0]? = some d) : i7a run l 0 = ⟨-1, T2c, noC, d⟩ := by unfold i7a; rw [if_pos rfl, getD_some h]
theorem x0c {run : List o0a} {l : List F0a} {k : Nat} {x : o0a} {c d : F0a} (h0 : 0 < k) (hx : run[((k : Int) - 1).toNat]? = some x) (hc : l[((k : Int) - 1).toNat]? = some c) (hd : l[k]? = some d) : i7a run l k = ⟨(k : Int) - 1, x, c, d⟩ := by
 have e : ((k : Int) - 1).toNat = k - 1 := by omega
 rw [e] at hx hc
 unfold i7a; rw [if_neg (by omega), getD_some hx, getD_some hc, getD_some hd]
def evL (cs : List Value) (e : EvD) (xs ys : List Value) : List Value := cs ++ (.int .i64 e.at_ :: .int .i64 e.x.thread :: .int .i64 e.x.step :: .int .i64 e.x.cell :: (xs ++ ys))
theorem U0b (p : e0a) (run : List o0a) (l : List F0a) (hok : ∀ i, i < l.length → D1b p (i7a run l i)) (hlr : l.length ≤ run.length + 1) (hl : l.length ≤ 1000) (M : List Nat) (w0 : World) (cs : List Value) (vr vl : Value) (hI : InP p M w0 cs) (hRun : C2b M w0 vr run) (hL : U5c M w0 vl l) :
 R0a Tryz.prog 41 #[.agg cs.toArray, vr, vl] w0 fun v w' => V6b M w' v (L3a p run l l.length) ∧ Below w0.heap.size w0 w' := by
 obtain ⟨Ac, nc, cc, Am, nm, cm, Al, nl, cl, At, nt, ct, rfl, _, _, _, _, _, _, _, _, _, _, _, _⟩ := hI.rd.open_
 obtain ⟨Ar, nr, cr, rfl⟩ := hRun.form
 obtain ⟨_, -, _⟩ := hRun.len
 obtain ⟨Ax, nx, cx, rfl⟩ := hL.form
 obtain ⟨_, -, _⟩ := hL.len
 have hp := hI.ok
 have S := (St.refl w0).nilEnt 36
 refine a0a Tryz.func41 rfl Tryz.ntmps41 rfl ?_
 refine wO0 rfl ⟨⟩ (m0a S (by conv => lhs; whnf) rfl ?_)
 intro g3 w3 S3 X3 G3
 refine lO0 rfl ⟨⟩ (f0a S3 x6c rfl rfl (R8b _) ?_)
 intro w15 S15 X15
 refine h0a S15 P1c rfl rfl ?_
 intro g8 w8 S8 X8 G8
 first | refine c0a (kk := 0) (vs := [_, _, _, _, _]) S8 S1c rfl rfl rfl rfl rfl rfl rfl ?_
 intro w2_2 S2_2 X2_2
 dsimp only [k0a, List.set] at S2_2
 refine lC0 rfl ⟨⟩ (wL (fun μk D ε w => D = [] ∧ ∃ k : Nat, ∃ G : Option Nat, ∃ cs' : List Value, ∃ v : Value, (k + μk = (l.length)) ∧ (J2a (fun _ _ => m8a) 5 [] w0 G cs' v (L3a p run l k)) ∧ St [] w0 w [(some g8, 130, B5c), (some g3, 27, [.slice Ac nc cc, .slice Am nm cm, .slice Al nl cl, .slice At nt ct]), (G, 36, cs')] ∧ Sl ε [(1, .slice Ar nr cr), (2, .slice Ax nx cx), (3, .pointer (some ⟨g3, 0, none⟩)), (7, v), (8, .pointer (some ⟨g8, 0, none⟩)), (16, .slice Ax nx cx), (17, .int .i64 nx), (18, .int .i64 k)]) (μ := (l.length)) ⟨rfl, 0, none, [], .slice none 0 0, by omega, J2a.nil, S2_2, rfl⟩ ?_)
 rintro μk D ε w ⟨rfl, k, G, cs', v, _, hrow, S, eZ⟩
 refine wK eZ (wB0 rfl ⟨⟩ (fun h19 => ?_) fun h19 => ?_)
 ·obtain ⟨d, b21, p21, _, hxd, hA21, _, hl21, hc21, hr21⟩ := RdS.get (hL) (k) (by omega)
  obtain ⟨Am21, nm21, cm21, Aa21, na21, ca21, Ab21, nb21, cb21, rfl, _, _, _, _, _, _, _, _, _⟩ := J0a.open_ hr21
  refine lO (S.k.a hc21) [.x b21 p21,.v 0] rfl ⟨⟨rfl,hl21⟩,⟨hA21,by omega⟩,⟨⟩⟩ (h0a S J4a rfl rfl ?_)
  intro g10 w10 S10 X10 G10
  refine lO0 rfl ⟨⟩ ?_
  first | refine c0a (kk := 0) (vs := [_, _, _]) S10 x2a rfl rfl rfl rfl rfl rfl rfl ?_
  intro w5_5 S5_5 X5_5
  dsimp only [k0a, List.set] at S5_5
  refine lO S5_5.k [.w 2,.w 0] rfl ⟨⟨rfl,rfl⟩,by omega,⟨rfl,rfl⟩,⟨⟩⟩ (i1a P2c (vs := [(0, .agg _), (1, .int .i64 _), (4, .agg _)]) (cs := [_, _, _, _, _, _, _, _, _, _, _, _, _, _]) rfl rfl rfl rfl ?_)
  refine m0a S5_5 (by conv => lhs; whnf) rfl ?_
  intro g28 w28 S28 X28 G28
  refine lCn 8 S28.k [] rfl ⟨⟩ (wX (fun D ε w => D = [] ∧ ∃ b : Nat, ∃ g28 : Nat, ∃ g10 : Nat, ∃ d1 : List Value, ∃ xs : List Value, ∃ ys : List Value, ∃ e : EvD, (i7a run l k = e) ∧ ((b = 3 ∧ ¬ 0 ≤ e.at_) ∨ (b = 0 ∧ 0 ≤ e.at_)) ∧ (J0a M w0 e.c xs) ∧ (J0a M w0 e.d ys) ∧ St [] w0 w [(some g28, 134, evL [.slice Ac nc cc, .slice Am nm cm, .slice Al nl cl, .slice At nt ct] e xs ys), (some g10, 52, d1), (some g8, 130, B5c), (some g3, 27, [.slice Ac nc cc, .slice Am nm cm, .slice Al nl cl, .slice At nt ct]), (G, 36, cs')] ∧ Sl ε [(1, .slice Ar nr cr), (2, .slice Ax nx cx), (3, .pointer (some ⟨g3, 0, none⟩)), (7, v), (8, .pointer (some ⟨g8, 0, none⟩)), (11, .pointer (some ⟨g28, 0, none⟩)), (12, .int .i64 b), (16, .slice Ax nx cx), (17, .int .i64 nx), (18, .int .i64 k)]) ?_ ?_)
  ·refine wB0 rfl ⟨⟩ (fun h30 => ?_) fun h30 => ?_
   ·refine lC0 rfl ⟨⟩ (o8c b0a (fun i => [0, 1, 2, 3, 4, 5, 6, 7, 8, 9, 10, 11, 13, 16].contains i) 12 14 [0, 1, 2, 3, 4, 5, 6, 7, 8, 9, 10, 11, 12, 13, 14, 15, 16, 17] (by kernel_rfl) (fun w1 => St [] w0 w1 [] ∧ G0a [g28] w28 w1) ?_)
    have SR9 := S28.drew
    have YR9 : G0a [] w28 w28.drew := o2a _ _
    generalize w28.drew = wR9 at SR9 YR9 ⊢
    have XR9 : G0a ([g28]) _ _ := YR9.of_nil
    refine B5b ⟨SR9.nil, XR9⟩ rfl rfl rfl ?_
    refine K1a (by conv => lhs; whnf) rfl ?_
    refine t0a ?_
    refine B5b ⟨SR9.nil, XR9⟩ rfl rfl rfl ?_
    refine K1a (by conv => lhs; whnf) rfl ?_
    refine t0a ?_
    refine B5b ⟨SR9.nil, XR9⟩ rfl rfl rfl ?_
    refine K1a (by conv => lhs; whnf) rfl ?_
    refine t0a ?_
    refine B5b ⟨SR9.nil, XR9⟩ rfl rfl rfl ?_
    refine K1a (v := .int .i64 _) rfl rfl ?_
    refine t0a ?_
    refine B5b ⟨SR9.nil, XR9⟩ rfl rfl rfl ?_
    refine U6c rfl rfl (by unfold i64; omega) rfl ?_
    refine t0a ?_
    refine B5b ⟨SR9.nil, XR9⟩ rfl rfl rfl ?_
    obtain ⟨xx, _, _, _, hxxx, _, hM36, _, hc36, hr36⟩ := RdS.get (hRun) (((k : Int) - 1).toNat) (by omega)
    obtain ⟨rfl, _, _, _⟩ := id hr36
    refine p0a v5a.slT rfl (by assumption) rfl (by omega) (by omega) rfl ?_
    refine t0a ?_
    refine B5b ⟨SR9.nil, XR9⟩ rfl rfl rfl ?_
    refine t3a M1b rfl (fun w1 hw => hc36.keep (hw.1.keep0 _) hM36) (by rfl) rfl ?_
    refine t0a ?_
    refine B5b ⟨SR9.nil, XR9⟩ rfl rfl rfl ?_
    refine K1a (by conv => lhs; whnf) rfl ?_
    refine t0a ?_
    refine B5b ⟨SR9.nil, XR9⟩ rfl rfl rfl ?_
    refine K1a (v := .int .i64 _) rfl rfl ?_
    refine t0a ?_
    refine B5b ⟨SR9.nil, XR9⟩ rfl rfl rfl ?_
    refine U6c rfl rfl (by unfold i64; omega) rfl ?_
    refine t0a ?_
    refine B5b ⟨SR9.nil, XR9⟩ rfl rfl rfl ?_
    obtain ⟨c, _, _, _, hxc, _, hM41, _, hc41, hr41⟩ := RdS.get (hL) (((k : Int) - 1).toNat) (by omega)
    obtain ⟨Am41, nm41, cm41, Aa41, na41, ca41, Ab41, nb41, cb41, rfl, _, _, _, _, _, _, _, _, _⟩ := J0a.open_ hr41
    refine p0a P5a.slT rfl (by assumption) rfl (by omega) (by omega) rfl ?_
    refine t0a ?_
    refine B5b ⟨SR9.nil, XR9⟩ rfl rfl rfl ?_
    refine t3a j1a rfl (fun w1 hw => hc41.keep (hw.1.keep0 _) hM41) (by rfl) rfl ?_
    refine t0a ?_
    refine y7c ⟨SR9.nil, XR9⟩ rfl rfl rfl ?_
    refine F0b rfl rfl ?_
    refine n0a ⟨rfl, ?_⟩
    refine B5b ⟨SR9.nil, XR9⟩ rfl rfl rfl ?_
    refine C0a D5b rfl rfl ?_
    refine t0a ?_
    refine y7c ⟨SR9.nil, XR9⟩ rfl rfl rfl ?_
    first | refine c0a (kk := 0) (vs := [_, _, _]) SR9 Q8b rfl rfl rfl rfl rfl rfl rfl ?_
    intro w9_14 S9_14 X9_14
    dsimp only [k0a, List.set] at S9_14
    have XCw9_14 := XR9.trans (X9_14.mono (by simp))
    refine n0a ⟨rfl, ?_⟩
    refine y7c ⟨S9_14.nil, XCw9_14⟩ rfl rfl rfl ?_
    refine F0b rfl rfl ?_
    refine n0a ⟨rfl, ?_⟩
    refine B5b ⟨S9_14.nil, XCw9_14⟩ rfl rfl rfl ?_
    refine C0a w5b rfl rfl ?_
    refine t0a ?_
    refine y7c ⟨S9_14.nil, XCw9_14⟩ rfl rfl rfl ?_
    first | refine c0a (kk := 0) (vs := [_, _, _]) S9_14 x2a rfl rfl rfl rfl rfl rfl rfl ?_
    intro w9_17 S9_17 X9_17
    dsimp only [k0a, List.set] at S9_17
    have XCw9_17 := XCw9_14.trans (X9_17.mono (by simp))
    refine n0a ⟨rfl, ?_⟩
    refine k6c ⟨S9_17.nil, XCw9_17⟩ ?_
    refine fP0 rfl ⟨⟩ ?_
    exact ⟨rfl, 0, g28, g10, _, [.slice Am41 nm41 cm41, .slice Aa41 na41 ca41, .slice Ab41 nb41 cb41], [.slice Am21 nm21 cm21, .slice Aa21 na21 ca21, .slice Ab21 nb21 cb21], ⟨(k : Int) - 1, xx, c, d⟩, x0c (by omega) hxxx hxc hxd, .inr ⟨rfl, by show (0 : Int) ≤ (k : Int) - 1; omega⟩, hr41, hr21, S9_17, rfl⟩
   refine lP0 rfl ⟨⟩ ?_
   exact ⟨rfl, 3, g28, g10, _, [.slice none 0 0, .slice none 0 0, .slice none 0 0], [.slice Am21 nm21 cm21, .slice Aa21 na21 ca21, .slice Ab21 nb21 cb21], ⟨(k : Int) - 1, T2c, noC, d⟩, (by (obtain rfl : k = 0 := by omega); exact E7b hxd), .inl ⟨rfl, by show ¬ (0 : Int) ≤ (k : Int) - 1; omega⟩, i4b, hr21, S28, rfl⟩
  rintro D ε w ⟨rfl, b, g28, g10, d1, xs, ys, e, he, hb, hxs, hys, S, eZ⟩
  refine wK eZ ?_
  have hek : D1b p e := he ▸ hok k (by omega)
  have hb5 : b < 5 := by omega
  refine wO0 rfl ⟨⟩ (Z9b (lo := b) Tryz.underlying130 (size := 1) (fun _ => by kernel_rfl) rfl rfl (by omega) rfl ?_)
  refine lC0 rfl ⟨⟩ (wL (fun μj D ε w => D = [] ∧ ∃ j : Nat, ∃ G2 : Option Nat, ∃ cs2 : List Value, ∃ v2 : Value, (j + μj = (5 - b)) ∧ (J2a (fun _ _ => m8a) 5 [] w0 G2 cs2 v2 (L3a p run l k ++ R0c p e b j)) ∧ St [] w0 w [(some g28, 134, evL [.slice Ac nc cc, .slice Am nm cm, .slice Al nl cl, .slice At nt ct] e xs ys), (some g10, 52, d1), (some g8, 130, B5c), (some g3, 27, [.slice Ac nc cc, .slice Am nm cm, .slice Al nl cl, .slice At nt ct]), (G2, 36, cs2)] ∧ Sl ε [(1, .slice Ar nr cr), (2, .slice Ax nx cx), (3, .pointer (some ⟨g3, 0, none⟩)), (7, v2), (8, .pointer (some ⟨g8, 0, none⟩)), (11, .pointer (some ⟨g28, 0, none⟩)), (16, .slice Ax nx cx), (17, .int .i64 nx), (18, .int .i64 k), (48, .slice (some ⟨g8, 0 + b * 1, none⟩) (5 - b) (5 - b)), (49, .int .i64 (5 - b : Nat)), (50, .int .i64 j)]) (μ := (5 - b)) ⟨rfl, 0, G, cs', v, by omega, (by simpa [R0c] using hrow), S, rfl⟩ ?_)
  rintro μj D ε w ⟨rfl, j, G2, cs2, v2, _, hrow2, S, eZ⟩
  refine wK eZ (wB0 rfl ⟨⟩ (fun h51 => ?_) fun h51 => ?_)
  ·refine lO S.k [.i] rfl ⟨by omega,⟨⟩⟩ (s0a N7b rfl (S.cell 2 rfl (M6c (by omega))) rfl ?_)
   refine lOn 4 S.k [] rfl ⟨⟩ (B0a (by conv => lhs; whnf) rfl ?_)
   refine lO0 rfl ⟨⟩ ?_
   have hEv : r2b p e M w g28 [.slice Ac nc cc, .slice Am nm cm, .slice Al nl cl, .slice At nt ct] xs ys := ⟨S.cells 0 rfl, hI.keep (S.keep0 M), hxs.keep (S.keep0 M), hys.keep (S.keep0 M), Z0a hI.lt (S.new 0 rfl), hek⟩
   refine t0c (f := 231) (vs := [.pointer (some ⟨g28, 0, none⟩)]) S rfl (fun _ _ => by kernel_rfl) rfl rfl (m8b p e (b + j) (by omega) (fun h => by omega) M _ g28 _ xs ys hEv) ?_
   rintro v57 w57 hr57 S57 X57
   obtain ⟨_, _, _, rfl⟩ := hr57.form
   have l1 := H9a hp (run := run) (l := l) k
   have l2 := O9b (e := e) hp b j
   have l3 := r0b (e := e) hp (b + j)
   refine k7b U2a (M2 := []) (k := 4) S57 q2a (by decide) rfl hrow2 rfl rfl hr57 (by rw [List.length_append]; omega) rfl ?_
   intro v58 G58 cs58 w58 S58 hrow58 X58 F58
   refine O0a (by conv => lhs; whnf) rfl ?_
   refine lP0 rfl ⟨by omega,⟨⟩⟩ ⟨μj - 1, by omega, rfl, (j + 1), (_), (_), (_), (by omega), ?_, S58, rfl⟩
   rw [f8b, ← List.append_assoc]; exact hrow58
  refine lP0 rfl ⟨by omega,⟨⟩⟩ ⟨μk - 1, by omega, rfl, (k + 1), (_), (_), (_), (by omega), ?_, S.tail.tail, rfl⟩
  rw [c3b, he, ← n1c hb, show 5 - b = j by omega]
  exact hrow2
 refine lOn 8 S.k [] rfl ⟨⟩ (B0a (by conv => lhs; whnf) rfl ?_)
 refine O0a (by conv => lhs; whnf) rfl ?_
 refine lR0 rfl ⟨⟩ (q0a rfl (by conv => lhs; whnf) ?_)
 obtain rfl : k = l.length := by omega
 have l1 := H9a hp (run := run) (l := l) l.length
 exact ⟨J2a.rd (M := M) U2a hrow S (k := 2) rfl (fun g hg => by subst hg; exact Z0a hI.lt (S.new 2 rfl)) (by omega), S.fin⟩
end Go.Proofs.YtjjmdcnmeommbaaGreatDoor
namespace Go.Fw
open Go.RowKit
section
variable {p : e0a} {m : Int}
theorem p6c {run : List o0a} {i : Nat} (hi : i + 1 < (O1a p m run).length) {c : F0a} (hc : (O1a p m run)[i]? = some c) {x : o0a} (hx : run[i]? = some x) : x ∈ T0a p m c ∧ (O1a p m run)[i + 1]? = some (doC p m c x) := by
 by_cases h : x ∈ T0a p m c
 ·exact ⟨h, V1b hc hx h⟩
 ·have := o7b hc hx h; omega
theorem B6b (hp : e1a p) : D1b p ⟨-1, T2c, noC, E1a p⟩ where
 lo := by show (-1 : Int) ≤ -1; omega
 hi := by show (-1 : Int) ≤ 1000; omega
 d := E9a hp
 c h := by have : (0 : Int) ≤ -1 := h; omega
 t h := by have : (0 : Int) ≤ -1 := h; omega
 s h := by have : (0 : Int) ≤ -1 := h; omega
 aw h := by have : (0 : Int) ≤ -1 := h; omega
 ci _ := ⟨rfl, rfl⟩
theorem T3c (hp : e1a p) {c : F0a} (hf : D5a p c) {x : o0a} (hx : x ∈ T0a p m c) {a : Int} (h0 : 0 ≤ a) (h1 : a ≤ 1000) : D1b p ⟨a, x, c, doC p m c x⟩ := by
 have hfd := A5b hp hf hx
 obtain ⟨t, ht, h⟩ := L1a.1 hx
 have hxt : x.thread = t := by
  rcases h with ⟨i, s, _, _, rfl⟩ | ⟨i, _, _, rfl⟩ <;> rfl
 refine ⟨by show -1 ≤ a; omega, h1, hfd, fun _ => hf, fun _ => ?_, fun _ => ?_, fun _ => ?_, fun h => ?_⟩
 ·show 0 ≤ x.thread ∧ x.thread < p.threads.length
  omega
 ·show x.step = -1 ∨ (0 ≤ x.step ∧ x.step < (i2a p x.thread.toNat).length)
  rcases h with ⟨i, s, hs, _, rfl⟩ | ⟨i, _, _, rfl⟩
  ·right
   have := q1a hs
   show 0 ≤ (i : Int) ∧ (i : Int) < (i2a p ((t : Nat) : Int).toNat).length
   simp only [Int.toNat_natCast]
   omega
  ·left; rfl
 ·show (doC p m c x).at_.getD x.thread.toNat 0 ≠ -1
  have hth : p.threads[t]? = some p.threads[t] := List.getElem?_eq_getElem ht
  have hlt : t < c.at_.length := by rw [hf.nat]; exact ht
  rw [hxt, Int.toNat_natCast]
  rcases h with ⟨i, s, hs, he, rfl⟩ | ⟨i, hi, _, rfl⟩
  ·have hs' := hs
   rw [C1a hth] at hs'
   have hso := (hp.thread hth).steps s (d0a hs')
   rw [a4b hs]
   have e1 : (D6a p m c t s).at_ = atC c t s := by unfold D6a; split <;> rfl
   rw [e1]
   unfold atC
   split
   ·rename_i hk
    have hne := (hso.row.k6 (by omega)).2
    have h2 := (hso.row.k6 (by omega)).1
    unfold L2a at h2
    rw [List.getD_eq_getElem?_getD, List.getElem?_set_ne (by omega), List.getElem?_set_self hlt]
    have := hso.to
    simp; omega
   ·rw [List.getD_eq_getElem?_getD, List.getElem?_set_self hlt]
    have := hso.to
    simp; omega
  ·intro hat
   have hbl : t < c.buf.length := by rw [hf.nbuf]; exact ht
   have hb : c.buf[t]? = some c.buf[t] := List.getElem?_eq_getElem hbl
   have e1 : (doC p m c ⟨t, -1, ((c.buf.getD t []).getD i ⟨[], []⟩).cells.getD 0 0⟩).at_ = c.at_ := by unfold doC; rw [if_pos rfl]; rfl
   rw [e1] at hat
   have h1 : c.at_[t]? = some (-1) := by
    rw [List.getElem?_eq_getElem hlt]
    rw [List.getD_eq_getElem?_getD, List.getElem?_eq_getElem hlt] at hat
    simpa using hat
   have h2 := (hf.bufs t _ hb).2.2 h1
   rw [List.getD_eq_getElem?_getD, hb] at hi
   simp [h2] at hi
 ·have : a = -1 := h; omega
theorem d6a (hp : e1a p) {run : List o0a} (hlen : run.length ≤ 500) (i : Nat) (hi : i < (O1a p m run).length) : D1b p (i7a run (O1a p m run) i) := by
 have hle := g4a p m run
 cases i with
 | zero =>
   have h0 : (O1a p m run)[0]? = some (E1a p) := rfl
   have : i7a run (O1a p m run) 0 = ⟨-1, T2c, noC, E1a p⟩ := by unfold i7a; rw [if_pos rfl, getD_some h0]
   rw [this]; exact B6b hp
 | succ i =>
   have hc : (O1a p m run)[i]? = some (O1a p m run)[i] := List.getElem?_eq_getElem (by omega)
   have hx : run[i]? = some run[i] := List.getElem?_eq_getElem (by omega)
   obtain ⟨h1, h2⟩ := p6c hi hc hx
   have hg := (I1b (m := m) hp (List.mem_of_getElem? hc)).1
   have : i7a run (O1a p m run) (i + 1) = ⟨(i : Int), run[i], (O1a p m run)[i], doC p m (O1a p m run)[i] run[i]⟩ := by
    unfold i7a
    rw [if_neg (by omega), Nat.add_sub_cancel, getD_some hx, getD_some hc, getD_some h2]
    congr 1
    omega
   rw [this]
   exact T3c hp hg h1 (by omega) (by omega)
theorem R3c (run : List o0a) : T5b p m run = 0 ∨ T5b p m run = 110 := by unfold T5b; split <;> simp
end
end Go.Fw
namespace Go.Proofs.YtjjmdcnmeommbaaGreatDoor
open Go.Fw Go.RowKit
theorem Q8a (p : e0a) (m : Int) (hm : m = 0 ∨ m = 1 ∨ m = 2) (run : List o0a) (M : List Nat) (w0 : World) (cs : List Value) (vr : Value) (hI : InP p M w0 cs) (hRun : C2b M w0 vr run) (hlen : run.length ≤ 120) :
 R0a Tryz.prog 15 #[.agg cs.toArray, .int .i64 m, vr] w0 fun v w' => (∃ vl, v = .tuple #[vl, .int .i64 (T5b p m run)] ∧ V6b M w' vl (s4a p m run)) ∧ Below w0.heap.size w0 w' := by
 obtain ⟨_, _, _, _, _, _, _, _, _, _, _, _, rfl, _, _, _, _, _, _, _, _, _, _, _, _⟩ := hI.rd.open_
 obtain ⟨_, _, _, rfl⟩ := hRun.form
 have hp := hI.ok
 have S := St.refl w0
 have hle := g4a p m run
 have heo := R3c (p := p) (m := m) run
 refine a0a Tryz.func15 rfl Tryz.ntmps15 rfl ?_
 refine wO0 rfl ⟨⟩ (m0a S (by conv => lhs; whnf) rfl ?_)
 intro g3 w3 S3 X3 G3
 refine lO S3.k [.w 0] rfl ⟨⟨rfl,rfl⟩,⟨⟩⟩ (M0a S3 H5b rfl rfl (p8b p m hm run M _ _ _ (hI.keep (S3.keep0 M)) (hRun.keep (S3.keep0 M)) hlen) ?_)
 rintro v15 w15 ⟨vl, rfl, hL⟩ S15 X15
 have KL := G0a.refl [] w15
 obtain ⟨_, _, _, rfl⟩ := hL.form
 refine lB0 rfl ⟨⟩ (fun h20 => ?_) fun h20 => ?_
 ·refine lB0 rfl ⟨⟩ (fun h23 => by exfalso; omega) fun h23 => ?_
  refine lO S15.k [.w 0] rfl ⟨⟨rfl,rfl⟩,⟨⟩⟩ (M0a S15 r7b rfl rfl (U0b p run (O1a p m run) (d6a hp (by omega)) hle (by omega) M _ _ _ _ (hI.keep (S15.keep0 M)) (hRun.keep (S15.keep0 M)) (RdS.keepW hL KL.of_nil (F3a.keep KL.of_nil))) ?_)
  rintro v29 w29 hV S29 X29
  replace KL := KL.trans X29
  refine lOn 1 S29.k [] rfl ⟨⟩ (O0a (by conv => lhs; whnf) rfl ?_)
  refine lR0 rfl ⟨⟩ (M2a rfl (by conv => lhs; whnf) (by conv => lhs; whnf) ?_)
  exact ⟨⟨_, rfl, hV⟩, S29.fin⟩
 refine lO S15.k [.w 0] rfl ⟨⟨rfl,rfl⟩,⟨⟩⟩ (M0a S15 r7b rfl rfl (U0b p run (O1a p m run) (d6a hp (by omega)) hle (by omega) M _ _ _ _ (hI.keep (S15.keep0 M)) (hRun.keep (S15.keep0 M)) (RdS.keepW hL KL.of_nil (F3a.keep KL.of_nil))) ?_)
 rintro v29 w29 hV S29 X29
 refine lOn 1 S29.k [] rfl ⟨⟩ (O0a (by conv => lhs; whnf) rfl ?_)
 refine lR0 rfl ⟨⟩ (M2a rfl (by conv => lhs; whnf) (by conv => lhs; whnf) ?_)
 exact ⟨⟨_, rfl, hV⟩, S29.fin⟩
def u0c : p4a := ⟨0, 0, 0, 0, 0⟩
def Y6a (p : e0a) (m : Int) (run : List o0a) : p4a × Bool := if T5b p m run = 0 ∧ s4a p m run ≠ [] then ((s4a p m run).headD u0c, true) else (u0c, false)
theorem h7b (p : e0a) (m : Int) (hm : m = 0 ∨ m = 1 ∨ m = 2) (run : List o0a) (M : List Nat) (w0 : World) (cs : List Value) (vr : Value) (hI : InP p M w0 cs) (hRun : C2b M w0 vr run) (hlen : run.length ≤ 120) :
 R0a Tryz.prog 22 #[.agg cs.toArray, .int .i64 m, vr] w0 fun v w' => (∃ vs, v = .tuple #[.agg vs.toArray, .bool (Y6a p m run).2] ∧ m8a vs (Y6a p m run).1) ∧ Below w0.heap.size w0 w' := by
 obtain ⟨_, _, _, _, _, _, _, _, _, _, _, _, rfl, _, _, _, _, _, _, _, _, _, _, _, _⟩ := hI.rd.open_
 obtain ⟨_, _, _, rfl⟩ := hRun.form
 have hp := hI.ok
 have S := St.refl w0
 have hle := g4a p m run
 have iz : i64 0 := by unfold i64; omega
 refine a0a Tryz.func22 rfl Tryz.ntmps22 rfl ?_
 refine wO0 rfl ⟨⟩ (m0a S (by conv => lhs; whnf) rfl ?_)
 intro g3 w3 S3 X3 G3
 refine h0a S3 x6b rfl rfl ?_
 intro g6 w6 S6 X6 G6
 refine lO S6.k [.w 1] rfl ⟨⟨rfl,rfl⟩,⟨⟩⟩ (M0a S6 H5b rfl rfl (p8b p m hm run M _ _ _ (hI.keep (S6.keep0 M)) (hRun.keep (S6.keep0 M)) hlen) ?_)
 rintro v16 w16 ⟨_, rfl, hL⟩ S16 X16
 have KL := G0a.refl [] w16
 obtain ⟨_, _, _, rfl⟩ := hL.form
 refine lB0 rfl ⟨⟩ (fun h21 => ?_) fun h21 => ?_
 ·refine lO0 rfl ⟨⟩ (i1a a8a (vs := []) (cs := [_, _, _, _, _]) rfl rfl rfl rfl ?_)
  first | refine c0a (kk := 0) (vs := [_, _, _, _, _]) S16 q3b rfl rfl rfl rfl rfl rfl rfl ?_
  intro w3_1 S3_1 X3_1
  dsimp only [k0a, List.set] at S3_1
  refine lR0 rfl ⟨⟩ ?_
  have hw : s4a p m run = L3a p run (O1a p m run) (O1a p m run).length := rfl
  have e1 : Y6a p m run = (u0c, false) := by unfold Y6a; rw [if_neg (fun h => h21 h.1)]
  rw [e1]; exact D2a (n := 5) rfl t7a rfl (S3_1.cells 0 rfl) rfl rfl ⟨⟨_, rfl, m8a.of iz iz iz iz iz⟩, S3_1.fin⟩
 refine lO S16.k [.w 1] rfl ⟨⟨rfl,rfl⟩,⟨⟩⟩ (M0a S16 r7b rfl rfl (U0b p run (O1a p m run) (d6a hp (by omega)) hle (by omega) M _ _ _ _ (hI.keep (S16.keep0 M)) (hRun.keep (S16.keep0 M)) (RdS.keepW hL KL.of_nil (F3a.keep KL.of_nil))) ?_)
 rintro v26 w26 hV S26 X26
 obtain ⟨_, _, _, rfl⟩ := hV.form
 have hnv := hV.len.1
 refine lB0 rfl ⟨⟩ (fun h29 => ?_) fun h29 => ?_
 ·refine lO0 rfl ⟨⟩ (i1a a8a (vs := []) (cs := [_, _, _, _, _]) rfl rfl rfl rfl ?_)
  first | refine c0a (kk := 0) (vs := [_, _, _, _, _]) S26 q3b rfl rfl rfl rfl rfl rfl rfl ?_
  intro w6_1 S6_1 X6_1
  dsimp only [k0a, List.set] at S6_1
  refine lR0 rfl ⟨⟩ ?_
  have hw : s4a p m run = L3a p run (O1a p m run) (O1a p m run).length := rfl
  have e1 : Y6a p m run = (u0c, false) := by unfold Y6a; rw [if_neg (fun h => h.2 (List.length_eq_zero_iff.1 (by rw [hw]; omega)))]
  rw [e1]; exact D2a (n := 5) rfl t7a rfl (S6_1.cells 0 rfl) rfl rfl ⟨⟨_, rfl, m8a.of iz iz iz iz iz⟩, S6_1.fin⟩
 obtain ⟨v0, b32, p32, _, hxv0, hA32, _, hl32, hc32, hr32⟩ := RdS.get (hV) (0) (by omega)
 obtain ⟨rfl, j1, j2, j3, j4, j5⟩ := hr32
 refine lO (S26.k.b hc32) [.x b32 p32,.v 0] rfl ⟨⟨rfl,hl32⟩,⟨hA32,by omega⟩,⟨⟩⟩ ?_
 first | refine c0a (kk := 0) (vs := [_, _, _, _, _]) S26 q3b rfl rfl rfl rfl rfl rfl rfl ?_
 intro w7_3 S7_3 X7_3
 dsimp only [k0a, List.set] at S7_3
 refine lR0 rfl ⟨⟩ ?_
 have hw : s4a p m run = L3a p run (O1a p m run) (O1a p m run).length := rfl
 have e1 : Y6a p m run = (v0, true) := by
  unfold Y6a; rw [if_pos ⟨h21, fun hh => by rw [← hw, hh] at hnv; simp at hnv; omega⟩, hw, List.headD_eq_head?_getD, List.head?_eq_getElem?, hxv0]; rfl
 rw [e1]; exact D2a (n := 5) rfl t7a rfl (S7_3.cells 0 rfl) rfl rfl ⟨⟨_, rfl, m8a.of j1 j2 j3 j4 j5⟩, S7_3.fin⟩
end Go.Proofs.YtjjmdcnmeommbaaGreatDoor
namespace Go.Fw
open Go.RowKit
def M0b : E := ⟨1, 1, 1, []⟩
def D7c : E := ⟨2, 2, 0, []⟩
def M7c : E := ⟨1, 2, 1, []⟩
def n8b : E := ⟨13, 1, 0, [⟨3, 2, 0, []⟩, D7c]⟩
def n2b : E := ⟨9, 2, 0, [D7c, M7c]⟩
def F3c : E := ⟨11, 1, 0, [D7c, M7c]⟩
def Z6a : e0a :=
 ⟨[⟨⟨#[77, 46, 120]⟩, 2, 1, -1, false, 0⟩], [⟨⟨#[77]⟩, ⟨#[65]⟩, M0b, n8b, [0]⟩], [],
  [⟨⟨#[116]⟩, 2, [M0b, F3c], [0, 0], [⟨4, 0, 1, M0b, [⟨0, n2b⟩], false, 0, 0⟩], [], false⟩]⟩
theorem T0b : e1a Z6a := B0c (by kernel_rfl)
def b6c : Value := .agg #[.int .i64 1, .int .i64 1, .int .i64 1, .slice none 0 0]
def L6c : Value := .agg #[.int .i64 1, .int .i64 2, .int .i64 1, .slice none 0 0]
end Go.Fw
namespace Go.Proofs.YtjjmdcnmeommbaaGreatDoor
open Go.Fw Go.RowKit
theorem d2b (w0 : World) : R0a Tryz.prog 48 #[] w0 fun v w' => v = b6c ∧ Below w0.heap.size w0 w' := by
 have S := St.refl w0
 refine a0a Tryz.func48 rfl Tryz.ntmps48 rfl ?_
 refine wO0 rfl ⟨⟩ (h0a S o8a rfl rfl ?_)
 intro g0 w0 S0 X0 G0
 refine lO0 rfl ⟨⟩ (i1a b8a (vs := [(0, .int .i64 _), (1, .int .i64 _), (2, .int .i64 _)]) (cs := [_, _, _, _]) rfl rfl rfl rfl ?_)
 first | refine c0a (kk := 0) (vs := [_, _, _, _]) S0 r8a rfl rfl rfl rfl rfl rfl rfl ?_
 intro w1_1 S1_1 X1_1
 dsimp only [k0a, List.set] at S1_1
 refine lR0 rfl ⟨⟩ (F1a rfl P1a rfl (S1_1.cells 0 rfl) rfl ⟨rfl, S1_1.fin⟩)
theorem Z5b (w0 : World) : R0a Tryz.prog 62 #[.int .i64 1] w0 fun v w' => v = L6c ∧ Below w0.heap.size w0 w' := by
 have S := St.refl w0
 refine a0a Tryz.func62 rfl Tryz.ntmps62 rfl ?_
 refine wO0 rfl ⟨⟩ (h0a S o8a rfl rfl ?_)
 intro g2 w2 S2 X2 G2
 refine lO0 rfl ⟨⟩ (i1a b8a (vs := [(0, .int .i64 _), (1, .int .i64 _), (2, .int .i64 _)]) (cs := [_, _, _, _]) rfl rfl rfl rfl ?_)
 first | refine c0a (kk := 0) (vs := [_, _, _, _]) S2 r8a rfl rfl rfl rfl rfl rfl rfl ?_
 intro w1_2 S1_2 X1_2
 dsimp only [k0a, List.set] at S1_2
 refine lR0 rfl ⟨⟩ (F1a rfl P1a rfl (S1_2.cells 0 rfl) rfl ⟨rfl, S1_2.fin⟩)
theorem p2b (w0 : World) :
 R0a Tryz.prog 37 #[] w0 fun v w' => (∃ cs : List Value, v = .agg cs.toArray ∧ o1a [] w' Z6a cs) ∧ Below w0.heap.size w0 w' := by
 have S := St.refl w0
 refine a0a Tryz.func37 rfl Tryz.ntmps37 rfl ?_
 refine wO0 rfl ⟨⟩ (h0a S H5c rfl rfl ?_)
 intro g0 w0 S0 X0 G0
 refine lO0 rfl ⟨⟩ (i1a b8a (vs := [(0, .int .i64 _), (1, .int .i64 _)]) (cs := [_, _, _, _]) rfl rfl rfl rfl ?_)
 refine h0a S0 o8a rfl rfl ?_
 intro g1 w1 S1 X1 G1
 first | refine c0a (kk := 0) (vs := [_, _, _, _]) S1 r8a rfl rfl rfl rfl rfl rfl rfl ?_
 intro w1_2 S1_2 X1_2
 dsimp only [k0a, List.set] at S1_2
 refine lO0 rfl ⟨⟩ (i1a b8a (vs := [(0, .int .i64 _), (1, .int .i64 _)]) (cs := [_, _, _, _]) rfl rfl rfl rfl ?_)
 refine lO S1_2.k [.w 0] rfl ⟨⟨rfl,by rfl⟩,⟨⟩⟩ (H0a S1_2 z1a (vs := [.agg _, .agg _]) (cs := [_, _, _, _, _, _, _, _]) (by rfl) rfl rfl rfl rfl rfl rfl ?_)
 intro g9 w9 S9 X9 G9
 refine i1a b8a (vs := [(0, .int .i64 _), (1, .int .i64 _), (3, .slice _ _ _)]) (cs := [_, _, _, _]) rfl rfl rfl rfl ?_
 refine h0a S9 o8a rfl rfl ?_
 intro g2 w2 S2 X2 G2
 first | refine c0a (kk := 0) (vs := [_, _, _, _]) S2 r8a rfl rfl rfl rfl rfl rfl rfl ?_
 intro w2_5 S2_5 X2_5
 dsimp only [k0a, List.set] at S2_5
 refine lC0 rfl ⟨⟩ (f9a b0a [0, 1, 2, 3, 4] 5 (by kernel_rfl) (by kernel_rfl) (Cl _ _ _ _) (Cl.start S2_5) (fun i => if i = 1 then some (62, #[.int .i64 1], .agg #[.int .i64 1, .int .i64 2, .int .i64 1, .slice none 0 0]) else none) ?_ _ rfl ?_)
 ·intro i f a v hi
  by_cases hi1 : i = 1
  ·subst hi1; cases hi; exact fun w hC => (Z5b _).mono fun u w' hr => ⟨hr.1, hC.later hr.2⟩
  ·simp only [hi1, if_false] at hi; cases hi
 refine o7a rfl rfl ?_
 refine t3a P1a rfl (fun w1 hw => hw.1.cells 2 rfl) rfl rfl ?_
 refine t0a ?_
 refine K9a X1c rfl rfl rfl rfl rfl ?_
 refine y3a rfl rfl rfl z1a (vs := [.agg _, .agg _]) (cs := [_, _, _, _, _, _, _, _]) (by rfl) rfl rfl rfl rfl rfl ?_
 intro g13 G13 ng13
 refine o7a rfl rfl ?_
 refine j3a b8a (vs := [(0, .int .i64 _), (1, .int .i64 _), (3, .slice _ _ _)]) (cs := [_, _, _, _]) rfl rfl rfl rfl ?_
 refine t0a ?_
 refine g7a rfl rfl rfl o8a rfl ?_
 intro g3 G3 ng3
 refine w0b ?_
 rintro wR3 ⟨SR3, _⟩ ⟨⟨-, hg13⟩, hg3⟩
 clear ng13
 replace SR3 := SR3.push_new S2_5 hg13 G13
 replace SR3 := SR3.push_more (L1 := [_]) S2_5 hg3 G3 (by simpa [eq_comm] using ng3)
 first | refine c0a (kk := 0) (vs := [_, _, _, _]) SR3 r8a rfl rfl rfl rfl rfl rfl rfl ?_
 intro w3_5 S3_5 X3_5
 dsimp only [k0a, List.set] at S3_5
 refine n0a ⟨rfl, ?_⟩
 refine fC0 rfl ⟨⟩ (f9a b0a [0, 1, 2, 3, 4] 5 (by kernel_rfl) (by kernel_rfl) (Cl _ _ _ _) (Cl.start S3_5) (fun i => if i = 1 then some (62, #[.int .i64 1], .agg #[.int .i64 1, .int .i64 2, .int .i64 1, .slice none 0 0]) else none) ?_ _ rfl ?_)
 ·intro i f a v hi
  by_cases hi1 : i = 1
  ·subst hi1; cases hi; exact fun w hC => (Z5b _).mono fun u w' hr => ⟨hr.1, hC.later hr.2⟩
  ·simp only [hi1, if_false] at hi; cases hi
 refine o7a rfl rfl ?_
 refine t3a P1a rfl (fun w1 hw => hw.1.cells 4 rfl) rfl rfl ?_
 refine t0a ?_
 refine K9a X1c rfl rfl rfl rfl rfl ?_
 refine y3a rfl rfl rfl z1a (vs := [.agg _, .agg _]) (cs := [_, _, _, _, _, _, _, _]) (by rfl) rfl rfl rfl rfl rfl ?_
 intro g17 G17 ng17
 refine o7a rfl rfl ?_
 refine j3a b8a (vs := [(0, .int .i64 _), (1, .int .i64 _), (3, .slice _ _ _)]) (cs := [_, _, _, _]) rfl rfl rfl rfl ?_
 refine t0a ?_
 refine g7a rfl rfl rfl o8a rfl ?_
 intro g4 G4 ng4
 refine w0b ?_
 rintro wR4 ⟨SR4, _⟩ ⟨⟨-, hg17⟩, hg4⟩
 clear ng17
 replace SR4 := SR4.push_new S3_5 hg17 G17
 replace SR4 := SR4.push_more (L1 := [_]) S3_5 hg4 G4 (by simpa [eq_comm] using ng4)
 first | refine c0a (kk := 0) (vs := [_, _, _, _]) SR4 r8a rfl rfl rfl rfl rfl rfl rfl ?_
 intro w4_5 S4_5 X4_5
 dsimp only [k0a, List.set] at S4_5
 refine n0a ⟨rfl, ?_⟩
 refine fC0 rfl ⟨⟩ (f9a b0a [0, 1, 2, 3, 4, 5, 6, 7, 8, 9, 10, 11] 12 (by kernel_rfl) (by kernel_rfl) (Cl _ _ _ _) (Cl.start S4_5) (fun i => if i = 0 then some (48, #[], .agg #[.int .i64 1, .int .i64 1, .int .i64 1, .slice none 0 0]) else if i = 4 then some (48, #[], .agg #[.int .i64 1, .int .i64 1, .int .i64 1, .slice none 0 0]) else none) ?_ _ rfl ?_)
 ·intro i f a v hi
  by_cases hi0 : i = 0
  ·subst hi0; cases hi; exact fun w hC => (d2b _).mono fun u w' hr => ⟨hr.1, hC.later hr.2⟩
  by_cases hi4 : i = 4
  ·subst hi4; cases hi; exact fun w hC => (d2b _).mono fun u w' hr => ⟨hr.1, hC.later hr.2⟩
  ·simp only [hi0, hi4, if_false] at hi; cases hi
 refine K9a a9b rfl rfl rfl rfl rfl ?_
 refine o7a rfl rfl ?_
 refine t3a P1a rfl (fun w1 hw => hw.1.cells 0 rfl) rfl rfl ?_
 refine t0a ?_
 refine y3a rfl rfl rfl z1a (vs := [.agg _, .agg _]) (cs := [_, _, _, _, _, _, _, _]) (by rfl) rfl rfl rfl rfl rfl ?_
 intro g21 G21 ng21
 refine y3a rfl rfl rfl d1a (vs := [.int .i64 _, .int .i64 _]) (cs := [_, _]) (by rfl) rfl rfl rfl rfl rfl ?_
 intro g22 G22 ng22
 refine K9a a9b rfl rfl rfl rfl rfl ?_
 refine o7a rfl rfl ?_
 refine t3a P1a rfl (fun w1 hw => hw.1.cells 2 rfl) rfl rfl ?_
 refine t0a ?_
 refine o7a rfl rfl ?_
 refine j3a V5c (vs := [(1, .agg _)]) (cs := [_, _, _, _, _]) rfl rfl rfl rfl ?_
 refine t0a ?_
 refine y3a rfl rfl rfl o9a (vs := [.agg _]) (cs := [_, _, _, _, _]) (by rfl) rfl rfl rfl rfl rfl ?_
 intro g26 G26 ng26
 refine o7a rfl rfl ?_
 refine j3a F5c (vs := [(0, .int .i64 _), (2, .int .i64 _), (3, .agg _), (4, .slice _ _ _)]) (cs := [_, _, _, _, _, _, _, _, _, _, _]) rfl rfl rfl rfl ?_
 refine t0a ?_
 refine y3a rfl rfl rfl C8b (vs := [.agg _]) (cs := [_, _, _, _, _, _, _, _, _, _, _]) (by rfl) rfl rfl rfl rfl rfl ?_
 intro g28 G28 ng28
 refine o7a rfl rfl ?_
 refine j3a k7c (vs := [(0, .string _), (1, .int .i64 _), (2, .slice _ _ _), (3, .slice _ _ _), (4, .slice _ _ _)]) (cs := [_, _, _, _, _, _, _]) rfl rfl rfl rfl ?_
 refine t0a ?_
 refine g7a rfl rfl rfl k2b rfl ?_
 intro g5 G5 ng5
 refine w0b ?_
 rintro wR5 ⟨SR5, _⟩ ⟨⟨⟨⟨⟨-, hg21⟩, hg22⟩, hg26⟩, hg28⟩, hg5⟩
 clear ng21
 replace SR5 := SR5.push_new S4_5 hg21 G21
 replace SR5 := SR5.push_more (L1 := [_]) S4_5 hg22 G22 (by simpa [eq_comm] using ng22)
 replace SR5 := SR5.push_more (L1 := [_, _]) S4_5 hg26 G26 (by simpa [eq_comm] using ng26)
 replace SR5 := SR5.push_more (L1 := [_, _, _]) S4_5 hg28 G28 (by simpa [eq_comm] using ng28)
 replace SR5 := SR5.push_more (L1 := [_, _, _, _]) S4_5 hg5 G5 (by simpa [eq_comm] using ng5)
 first | refine c0a (kk := 0) (vs := [_, _, _, _, _, _, _]) SR5 R0b rfl rfl rfl rfl rfl rfl rfl ?_
 intro w5_12 S5_12 X5_12
 dsimp only [k0a, List.set] at S5_12
 refine n0a ⟨rfl, ?_⟩
 refine fC0 rfl ⟨⟩ (f9a b0a [0, 1, 2, 3, 4, 5, 6, 7, 8, 9] 10 (by kernel_rfl) (by kernel_rfl) (Cl _ _ _ _) (Cl.start S5_12) (fun i => if i = 2 then some (48, #[], .agg #[.int .i64 1, .int .i64 1, .int .i64 1, .slice none 0 0]) else none) ?_ _ rfl ?_)
 ·intro i f a v hi
  by_cases hi2 : i = 2
  ·subst hi2; cases hi; exact fun w hC => (d2b _).mono fun u w' hr => ⟨hr.1, hC.later hr.2⟩
  ·simp only [hi2, if_false] at hi; cases hi
 refine o7a rfl rfl ?_
 refine j3a E6c (vs := [(0, .string _), (1, .int .i64 _), (2, .int .i64 _), (3, .int .i64 _)]) (cs := [_, _, _, _, _, _]) rfl rfl rfl rfl ?_
 refine t0a ?_
 refine y3a rfl rfl rfl q5a (vs := [.agg _]) (cs := [_, _, _, _, _, _]) (by rfl) rfl rfl rfl rfl rfl ?_
 intro g31 G31 ng31
 refine K9a a9b rfl rfl rfl rfl rfl ?_
 refine o7a rfl rfl ?_
 refine t3a P1a rfl (fun w1 hw => hw.1.cells 9 rfl) rfl rfl ?_
 refine t0a ?_
 refine y3a rfl rfl rfl d1a (vs := [.int .i64 _]) (cs := [_]) (by rfl) rfl rfl rfl rfl rfl ?_
 intro g34 G34 ng34
 refine o7a rfl rfl ?_
 refine j3a d7c (vs := [(0, .string _), (1, .string _), (2, .agg _), (3, .agg _), (4, .slice _ _ _)]) (cs := [_, _, _, _, _, _, _, _, _, _, _]) rfl rfl rfl rfl ?_
 refine t0a ?_
 refine y3a rfl rfl rfl B1c (vs := [.agg _]) (cs := [_, _, _, _, _, _, _, _, _, _, _]) (by rfl) rfl rfl rfl rfl rfl ?_
 intro g36 G36 ng36
 refine o7a rfl rfl ?_
 refine t3a h9b rfl (fun w1 hw => hw.1.cells 0 rfl) rfl rfl ?_
 refine t0a ?_
 refine y3a rfl rfl rfl e0b (vs := [.agg _]) (cs := [_, _, _, _, _, _, _]) (by rfl) rfl rfl rfl rfl rfl ?_
 intro g38 G38 ng38
 refine o7a rfl rfl ?_
 refine j3a M5c (vs := [(0, .slice _ _ _), (1, .slice _ _ _), (3, .slice _ _ _)]) (cs := [_, _, _, _]) rfl rfl rfl rfl ?_
 refine t0a ?_
 refine w0b ?_
 rintro wR6 ⟨SR6, _⟩ ⟨⟨⟨⟨-, hg31⟩, hg34⟩, hg36⟩, hg38⟩
 clear ng31
 replace SR6 := SR6.push_new S5_12 hg31 G31
 replace SR6 := SR6.push_more (L1 := [_]) S5_12 hg34 G34 (by simpa [eq_comm] using ng34)
 replace SR6 := SR6.push_more (L1 := [_, _]) S5_12 hg36 G36 (by simpa [eq_comm] using ng36)
 replace SR6 := SR6.push_more (L1 := [_, _, _]) S5_12 hg38 G38 (by simpa [eq_comm] using ng38)
 first | refine c0a (kk := 16) (vs := [_, _, _, _]) SR6 s6c rfl rfl rfl rfl rfl rfl rfl ?_
 intro w6_10 S6_10 X6_10
 dsimp only [k0a, List.set] at S6_10
 refine n0a ⟨rfl, ?_⟩
 refine fR0 rfl ⟨⟩ ?_
 have SF := S6_10
 have i0 : i64 0 := by unfold i64; omega
 have i1 : i64 1 := by unfold i64; omega
 have i2 : i64 2 := by unfold i64; omega
 have i3 : i64 3 := by unfold i64; omega
 have i4 : i64 4 := by unfold i64; omega
 have i9 : i64 9 := by unfold i64; omega
 have i11 : i64 11 := by unfold i64; omega
 have i13 : i64 13 := by unfold i64; omega
 have im : i64 (-1) := by unfold i64; omega
 have hone : RdE [] w6_10 M0b [.int .i64 1, .int .i64 1, .int .i64 1, .slice none 0 0] := h7a i1 i1 i1
 have hnum : RdE [] w6_10 M7c [.int .i64 1, .int .i64 2, .int .i64 1, .slice none 0 0] := h7a i1 i2 i1
 have hx : RdE [] w6_10 D7c [.int .i64 2, .int .i64 2, .int .i64 0, .slice none 0 0] := h7a i2 i2 i0
 have hold : RdE [] w6_10 ⟨3, 2, 0, []⟩ [.int .i64 3, .int .i64 2, .int .i64 0, .slice none 0 0] := h7a i3 i2 i0
 have hguar : RdE [] w6_10 n8b [.int .i64 13, .int .i64 1, .int .i64 0, .slice (some ⟨g9, 0, none⟩) 2 2] := m4b i13 i1 (by simp) (SF.cells 14 rfl) hold hx
 have hless : RdE [] w6_10 n2b [.int .i64 9, .int .i64 2, .int .i64 0, .slice (some ⟨g13, 0, none⟩) 2 2] := m4b i9 i2 (by simp) (SF.cells 12 rfl) hx hnum
 have his : RdE [] w6_10 F3c [.int .i64 11, .int .i64 1, .int .i64 0, .slice (some ⟨g17, 0, none⟩) 2 2] := m4b i11 i1 (by simp) (SF.cells 10 rfl) hx hnum
 have hset : s5c [] w6_10 (.slice (some ⟨g26, 0, none⟩) 1 1) [⟨0, n2b⟩] := H1b (by simp) (SF.cells 6 rfl) rfl ⟨_, rfl, i0, hless⟩
 have hst : E7c [] w6_10 (.slice (some ⟨g28, 0, none⟩) 1 1) [⟨4, 0, 1, M0b, [⟨0, n2b⟩], false, 0, 0⟩] := H1b (by simp) (SF.cells 5 rfl) rfl ⟨_, _, _, _, _, rfl, i4, i0, i1, i0, i0, hone, hset⟩
 have has : W6c [] w6_10 (.slice (some ⟨g21, 0, none⟩) 2 2) [M0b, F3c] := t6c (c := [_, _, _, _]) (c2 := [_, _, _, _]) (by simp) (SF.cells 8 rfl) rfl rfl hone his
 have hmo : RdI [] w6_10 (.slice (some ⟨g22, 0, none⟩) 2 2) [0, 0] := x4a SF (k := 7) rfl (by simp) rfl (by omega) (by simp [i0])
 have hfr : RdI [] w6_10 (.slice (some ⟨g34, 0, none⟩) 1 1) [0] := x4a SF (k := 2) rfl (by simp) rfl (by omega) (by simp [i0])
 refine F1a rfl Z3a rfl (SF.cells 16 rfl) rfl ⟨⟨_, rfl, _, _, _, _, rfl, ?_, ?_, j2a, ?_⟩, SF.fin⟩
 ·exact H1b (by simp) (SF.cells 3 rfl) rfl ⟨rfl, i2, i1, im, i0⟩
 ·exact H1b (by simp) (SF.cells 1 rfl) rfl ⟨_, _, _, _, _, _, _, _, _, rfl, hone, hguar, hfr⟩
 ·exact H1b (by simp) (SF.cells 0 rfl) rfl ⟨_, _, _, _, rfl, i2, has, hmo, hst, j2a⟩
end Go.Proofs.YtjjmdcnmeommbaaGreatDoor
namespace Go.Fw
open Go.RowKit
section
variable {P : Program} {r : Option Nat} {N : Nat} {ops : Array Oper} {rest : List Oper} {C : World → Prop} {KQ : Env → Prop} {K : List Deferred → Env → World → Prop} {D : List Deferred} {e : Env} {w : World} {d : Nat} {t : TypeId} {p : String} {af : Array Edge} {x y : Operand} {yt : TypeId}
def a7b (v : p4a) : Value := .agg #[.int .i64 v.at_, .int .i64 v.kind, .int .i64 v.module_, .int .i64 v.thread, .int .i64 v.item]
def q4b (P : Program) (ty : TypeId) : Prop := P.eqGuardType P.depth ty = false ∧ ∀ (w : World) (a b : p4a), (binOp .eql ty (a7b a) (a7b b)).run P w = .ok (.bool (decide (a = b))) w
theorem q4b.neq {ty : TypeId} (hE : q4b P ty) (w : World) (a b : p4a) : (binOp .neq ty (a7b a) (a7b b)).run P w = .ok (.bool (!decide (a = b))) w := by
 have := hE.2 w a b
 unfold a7b at this ⊢
 rw [run_eql_struct] at this
 rw [run_neq_struct]
 revert this
 generalize (Op.equalIn 10000 ty _ _).run P w = res
 intro this
 cases res with
 | ok z w' => simp only [Result.andThen_ok] at this ⊢; cases this; rfl
 | halt z w' => simp [Result.andThen] at this
theorem q4b.guard {ty : TypeId} (hE : q4b P ty) (w : World) (op : BinOp) (x y : Operand) (a b : p4a) : (eqGuard op ty x y (a7b a) (a7b b)).run P w = .ok () w := run_eqGuard_agg w _ _ _ _ _ _ hE.1
theorem O5c {ty : TypeId} {a b : p4a} (hE : q4b P ty) (hx : ev e x = a7b a) (hy : ev e y = a7b b) (hd : Nat.ble (d + 1) N = true)
 (h1 : a = b → QL P N ops C rest KQ (upd e d (.bool true))) (h2 : a ≠ b → QL P N ops C rest KQ (upd e d (.bool false))) :
 QL P N ops C (⟨some d, .binOp .eql ty x y yt, t, p, af, none⟩ :: rest) KQ e := by
 by_cases hh : a = b
 ·exact b2a rfl rfl hd (fun w _ => by simp only [execOp, hx, hy, Sem.run_bind, hE.guard, Result.andThen_ok, hE.2, Sem.run_pure, decide_eq_true hh]) (h1 hh)
 ·exact b2a rfl rfl hd (fun w _ => by simp only [execOp, hx, hy, Sem.run_bind, hE.guard, Result.andThen_ok, hE.2, Sem.run_pure, decide_eq_false hh]) (h2 hh)
theorem T6c {ty : TypeId} {a b : p4a} (hE : q4b P ty) (hx : ev e x = a7b a) (hy : ev e y = a7b b) (hd : Nat.ble (d + 1) N = true)
 (h1 : a ≠ b → QL P N ops C rest KQ (upd e d (.bool true))) (h2 : a = b → QL P N ops C rest KQ (upd e d (.bool false))) :
 QL P N ops C (⟨some d, .binOp .neq ty x y yt, t, p, af, none⟩ :: rest) KQ e := by
 by_cases hh : a = b
 ·exact b2a rfl rfl hd (fun w _ => by simp only [execOp, hx, hy, Sem.run_bind, hE.guard, Result.andThen_ok, hE.neq, Sem.run_pure, decide_eq_true hh]; rfl) (h2 hh)
 ·exact b2a rfl rfl hd (fun w _ => by simp only [execOp, hx, hy, Sem.run_bind, hE.guard, Result.andThen_ok, hE.neq, Sem.run_pure, decide_eq_false hh]; rfl) (h1 hh)
end
end Go.Fw
namespace Go.Proofs.YtjjmdcnmeommbaaGreatDoor
open Go.Fw Go.RowKit
theorem G1c : q4b Tryz.prog 36 := by
 refine ⟨Tryz.eqGuardType36, fun w a b => ?_⟩
 have ht : Tryz.prog.underlying 36 = some (.struct (Tryz.prog.fieldsOf 36)) := by unfold Program.fieldsOf; rw [Tryz.underlying36]
 have hag : ∀ w, (isAgg 3).run Tryz.prog w = .ok false w := fun w => by simp [isAgg, run_underlying Tryz.underlying3]
 obtain ⟨a1, a2, a3, a4, a5⟩ := a
 obtain ⟨b1, b2, b3, b4, b5⟩ := b
 unfold a7b
 rw [run_eql_struct, run_equalIn_struct w 9999 _ _ _ ht Tryz.stoodInHeld36]
 unfold Program.fieldsOf
 rw [Tryz.underlying36]
 by_cases h1 : a1 = b1 <;> by_cases h2 : a2 = b2 <;> by_cases h3 : a3 = b3 <;> by_cases h4 : a4 = b4 <;> by_cases h5 : a5 = b5 <;> simp [Op.eqFields, part, hag, run_equalIn_int _ 9998 _ .i64 .i64 _ _ Tryz.underlying3, h1, h2, h3, h4, h5]
theorem K6b (a b : List p4a) (M : List Nat) (w0 : World) (va vb : Value) (hA : V6b M w0 va a) (hB : V6b M w0 vb b) :
 R0a Tryz.prog 16 #[va, vb] w0 fun v w' => v = .bool (decide (a = b)) ∧ Below w0.heap.size w0 w' := by
 obtain ⟨Aa, na, ca, rfl⟩ := hA.form
 obtain ⟨_, -, _⟩ := hA.len
 obtain ⟨Ab, nb, cb, rfl⟩ := hB.form
 obtain ⟨_, -, _⟩ := hB.len
 have S := St.refl w0
 refine a0a Tryz.func16 rfl Tryz.ntmps16 rfl ?_
 refine wB0 rfl ⟨⟩ (fun h10 => ?_) fun h10 => ?_
 ·refine lR0 rfl ⟨⟩ (q0a rfl (by conv => lhs; whnf) ?_)
  exact ⟨by rw [decide_eq_false (J6c (by omega))], S.fin⟩
 refine lC0 rfl ⟨⟩ (wL (fun μk D ε w => D = [] ∧ ∃ k : Nat, (k + μk = (a.length)) ∧ (Q9b a b k) ∧ St [] w0 w [] ∧ Sl ε [(0, .slice Aa na ca), (1, .slice Ab nb cb), (5, .int .i64 k)]) (μ := (a.length)) ⟨rfl, 0, by omega, Q9b.zero, S, rfl⟩ ?_)
 rintro μk D ε w ⟨rfl, k, _, he, S, eZ⟩
 refine wK eZ (wB0 rfl ⟨⟩ (fun h14 => ?_) fun h14 => ?_)
 ·refine lC0 rfl ⟨⟩ (u0a b0a [0, 1, 2, 3, 4, 5, 6, 7, 8] [] [] (by kernel_rfl) rfl (Cl _ _ _ _) (Cl.start S) ?_)
  obtain ⟨x, b19, p19, _, hxx, hA19, _, hl19, hc19, hr19⟩ := RdS.get (hA) (k) (by omega)
  obtain ⟨rfl, -, -, -, -, -⟩ := hr19
  obtain ⟨y, b23, p23, _, hxy, hA23, _, hl23, hc23, hr23⟩ := RdS.get (hB) (k) (by omega)
  obtain ⟨rfl, -, -, -, -, -⟩ := hr23
  refine qOn 8 ((S.q.a hc23).a hc19) [.x b19 p19,.v 0,.x b23 p23,.v 1] rfl ⟨⟨rfl,hl23⟩,⟨hA23,by omega⟩,⟨rfl,hl19⟩,⟨hA19,by omega⟩,⟨⟩⟩ (T6c G1c (a := x) (b := y) rfl rfl rfl (fun h25 => ?_) fun h25 => ?_)
  ·refine qD rfl ⟨⟩ ?_
   rintro wR6 ⟨SR6, XR6⟩
   refine lR0 rfl ⟨⟩ (q0a rfl (by conv => lhs; whnf) ?_)
   exact ⟨by rw [decide_eq_false (u8c hxx hxy (fun e => h25 e))], SR6.fin⟩
  refine qD rfl ⟨⟩ ?_
  rintro wR6 ⟨SR6, XR6⟩
  refine lP0 rfl ⟨by omega,⟨⟩⟩ ⟨μk - 1, by omega, rfl, (k + 1), (by omega), (he.succ hxx hxy h25), SR6, rfl⟩
 refine lR0 rfl ⟨⟩ (q0a rfl (by conv => lhs; whnf) ?_)
 exact ⟨by rw [decide_eq_true (he.all (by omega) (by omega))], S.fin⟩
end Go.Proofs.YtjjmdcnmeommbaaGreatDoor
namespace Go.Fw
open Go.RowKit
section
variable {p : e0a} {m : Int}
theorem k3b {c : Prop} [Decidable c] {x v : p4a} (h : v ∈ (if c then [x] else [])) : c ∧ v = x := by
 split at h
 ·rename_i hc; exact ⟨hc, by simpa using h⟩
 ·cases h
theorem n0b {e : EvD} {v : p4a} (h : v ∈ Q3a p e) : (e.still = true ∧ q4a p (sOf p e) = true) ∧ v = f3b p e 4 := k3b h
theorem Z2b {e : EvD} {v : p4a} (h : v ∈ m6a p e) : (e.still = true ∧ s8a p e = false) ∧ v = f3b p e 3 := k3b h
theorem w3b {e : EvD} {v : p4a} (h : v ∈ q8a p e) : e.still = true ∧ Q3a p e = [] ∧ m6a p e = [] ∧ ∃ t, t < p.threads.length ∧ v ∈ P9a p e t := by
 unfold q8a at h
 split at h
 ·rename_i hc
  unfold M6a at h
  obtain ⟨t, ht, h⟩ := List.mem_flatMap.1 h
  exact ⟨hc.1, hc.2.1, hc.2.2, t, List.mem_range.1 ht, h⟩
 ·cases h
theorem s2b {e : EvD} {t : Nat} {v : p4a} (h : v ∈ P9a p e t) : (t : Int) ≠ e.x.thread ∧ e.c.at_.getD t 0 ≠ -1 ∧ (h2b p ((b6a p t).modules.getD (e.c.at_.getD t 0).toNat 0)).rely.evl e.c.mem e.d.mem = 0 ∧
 v = ⟨e.at_, 5, (b6a p t).modules.getD (e.c.at_.getD t 0).toNat 0, t, e.c.at_.getD t 0⟩ := by
 unfold P9a at h
 split at h
 ·cases h
 ·rename_i h1
  split at h
  ·rename_i h2
   exact ⟨fun hh => h1 (.inl hh), fun hh => h1 (.inr hh), h2.2, by simpa using h⟩
  ·cases h
theorem h0b {e : EvD} {v : p4a} (h : v ∈ r5a p e) : W6a e.d = true ∧ ∃ (i : Nat) (l : n8a), p.locks[i]? = some l ∧ e.d.mem.getD l.cell.toNat 0 = 0 ∧ l.inv.evl e.d.mem e.d.mem = 0 ∧ v = ⟨e.at_, 2, O1b p e l, if 0 ≤ e.at_ then e.x.thread else -1, i⟩ := by
 unfold r5a at h
 split at h
 ·rename_i hc
  unfold b5a at h
  obtain ⟨i, _, h⟩ := List.mem_flatMap.1 h
  refine ⟨hc, i, ?_⟩
  unfold v7a at h
  split at h
  ·rename_i l hl
   split at h
   ·cases h
   ·rename_i h1
    simp only [not_or, Decidable.not_not] at h1
    exact ⟨l, hl, h1.1, h1.2, by simpa using h⟩
  ·cases h
 ·cases h
theorem f8a {e : EvD} {v : p4a} (h : v ∈ R2a p e) : W6a e.d = true ∧ ∃ t : Nat, t < p.threads.length ∧ e.d.at_.getD t 0 ≠ -1 ∧ ((b6a p t).asserts.getD (e.d.at_.getD t 0).toNat noE).evl e.d.mem e.d.mem = 0 ∧
 v = ⟨e.at_, 1, M3a p e t, t, e.d.at_.getD t 0⟩ := by
 unfold R2a at h
 split at h
 ·rename_i hc
  unfold g3a at h
  obtain ⟨t, ht, h⟩ := List.mem_flatMap.1 h
  refine ⟨hc, t, List.mem_range.1 ht, ?_⟩
  unfold m3a at h
  split at h
  ·cases h
  ·rename_i h1
   simp only [not_or, Decidable.not_not] at h1
   exact ⟨h1.1, h1.2, by simpa using h⟩
 ·cases h
theorem t0b {e : EvD} {v : p4a} (h : v ∈ t5a p e) : (0 ≤ e.at_ ∧ (v ∈ Q3a p e ∨ v ∈ m6a p e ∨ v ∈ q8a p e)) ∨ v ∈ r5a p e ∨ v ∈ R2a p e := by
 unfold t5a at h
 rw [List.mem_append, List.mem_append] at h
 rcases h with h | h
 ·split at h
  ·rename_i h0
   rw [List.mem_append, List.mem_append] at h
   exact .inl ⟨h0, h⟩
  ·cases h
 ·exact .inr h
theorem e3b {e : EvD} {v : p4a} (h : v ∈ t5a p e) : v.at_ = e.at_ := by
 rcases t0b h with ⟨_, h | h | h⟩ | h | h
 ·rw [(n0b h).2]; rfl
 ·rw [(Z2b h).2]; rfl
 ·obtain ⟨_, _, _, t, _, h⟩ := w3b h
  rw [(s2b h).2.2.2]
 ·obtain ⟨_, _, _, _, _, _, rfl⟩ := h0b h; rfl
 ·obtain ⟨_, t, _, _, _, rfl⟩ := f8a h; rfl
theorem d8b (run : List o0a) (l : List F0a) (i : Nat) : (i7a run l i).at_ = (i : Int) - 1 := by
 unfold i7a
 split
 ·rename_i h; subst h; rfl
 ·rfl
end
end Go.Fw
namespace Go.Fw
open Go.RowKit
section
variable {p : e0a} {m : Int}
theorem y6b {run : List o0a} {v : p4a} (h : v ∈ s4a p m run) : ∃ i, i < (O1a p m run).length ∧ v ∈ t5a p (i7a run (O1a p m run) i) := by
 unfold s4a L3a at h
 obtain ⟨i, hi, h⟩ := List.mem_flatMap.1 h
 exact ⟨i, List.mem_range.1 hi, h⟩
end
end Go.Fw
namespace Go.Fw
open Go.RowKit
structure Blm (p : e0a) (e : EvD) (v : p4a) : Prop where
 pl : v.at_ = e.at_
 mod : 0 ≤ v.module_ ∧ v.module_ < p.modules.length
 kind : 1 ≤ v.kind ∧ v.kind ≤ 5
 lock : v.kind = 2 → ∃ (i : Nat) (k : n8a), v.item = i ∧ p.locks[i]? = some k ∧ e.d.mem.getD k.cell.toNat 0 = 0 ∧ k.inv.evl e.d.mem e.d.mem = 0
 thr : v.kind ≠ 2 → 0 ≤ v.thread ∧ v.thread < p.threads.length
 ass : v.kind = 1 → e.d.at_.getD v.thread.toNat 0 = v.item ∧ 0 ≤ v.item ∧ ((b6a p v.thread.toNat).asserts.getD v.item.toNat noE).evl e.d.mem e.d.mem = 0 ∧ v.module_ = M3a p e v.thread.toNat
 prom : 3 ≤ v.kind → 0 ≤ v.at_ ∧ 0 ≤ e.x.step
 frame : v.kind = 4 → v.thread = e.x.thread ∧ v.item = e.x.step ∧ v.module_ = (sOf p e).module_ ∧ q4a p (sOf p e) = true
 guar : v.kind = 3 → v.thread = e.x.thread ∧ v.item = e.x.step ∧ v.module_ = (sOf p e).module_ ∧ s8a p e = false
 rely : v.kind = 5 → v.thread ≠ e.x.thread ∧ e.c.at_.getD v.thread.toNat 0 = v.item ∧ 0 ≤ v.item ∧ v.module_ = (b6a p v.thread.toNat).modules.getD v.item.toNat 0 ∧ q4a p (sOf p e) = false ∧ s8a p e = true ∧ (h2b p v.module_).rely.evl e.c.mem e.d.mem = 0
section
variable {p : e0a} {m : Int}
theorem still_step {e : EvD} (h : e.still = true) (ho : D1b p e) : 0 ≤ e.at_ ∧ 0 ≤ e.x.step ∧ e.step = true := by
 unfold EvD.still EvD.step at h
 simp only [Bool.and_eq_true, decide_eq_true_eq] at h
 have h1 := ho.s h.1.1
 refine ⟨h.1.1, by omega, ?_⟩
 unfold EvD.step
 simp only [Bool.and_eq_true, decide_eq_true_eq]
 exact h.1
theorem U2b (hp : e1a p) {e : EvD} (ho : D1b p e) (h0 : 0 ≤ e.at_) (hs : 0 ≤ e.x.step) : ∃ (th : U0a), p.threads[e.x.thread.toNat]? = some th ∧ th.steps[e.x.step.toNat]? = some (sOf p e) ∧ s5a p e.x.thread.toNat th.points (sOf p e) := by
 have ht := ho.t h0
 have hth : p.threads[e.x.thread.toNat]? = some (p.threads[e.x.thread.toNat]'(by omega)) := List.getElem?_eq_getElem (by omega)
 have h1 := ho.s h0
 rw [C1a hth] at h1
 have h2 := List.getElem?_eq_getElem (l := (p.threads[e.x.thread.toNat]'(by omega)).steps) (i := e.x.step.toNat) (by omega)
 have h3 : sOf p e = (p.threads[e.x.thread.toNat]'(by omega)).steps[e.x.step.toNat]'(by omega) := by unfold sOf; rw [C1a hth]; exact getD_some h2
 refine ⟨_, hth, by rw [h3]; exact h2, ?_⟩
 rw [h3]
 exact (hp.thread hth).steps _ (d0a h2)
theorem d5b (hp : e1a p) {t : Nat} (ht : t < p.threads.length) {k : Int} (h0 : 0 ≤ k) (h1 : k < (p.threads[t]).points) : 0 ≤ (b6a p t).modules.getD k.toNat 0 ∧ (b6a p t).modules.getD k.toNat 0 < p.modules.length := by
 have hth : p.threads[t]? = some p.threads[t] := List.getElem?_eq_getElem ht
 have h := hp.thread hth
 rw [V1a hth]
 have h2 : (p.threads[t]).modules[k.toNat]? = some ((p.threads[t]).modules[k.toNat]'(by have := h.nmod; omega)) := List.getElem?_eq_getElem _
 rw [getD_some h2]
 exact h.modules _ (d0a h2)
theorem t9a {c : F0a} (hf : D5a p c) {t : Nat} (ht : t < p.threads.length) (h : c.at_.getD t 0 ≠ -1) : 0 ≤ c.at_.getD t 0 ∧ c.at_.getD t 0 < (p.threads[t]).points := by
 have ht2 : t < c.at_.length := by rw [hf.nat]; exact ht
 have h5 : c.at_[t]? = some (c.at_.getD t 0) := by rw [List.getD_eq_getElem?_getD, List.getElem?_eq_getElem ht2]; rfl
 have := hf.atr t _ h5 _ (List.getElem?_eq_getElem ht)
 omega
theorem B8b {e : EvD} (h : Q3a p e = []) (hs : e.still = true) : q4a p (sOf p e) = false := by
 unfold Q3a at h
 cases hb : q4a p (sOf p e) with
 | false => rfl
 | true => rw [if_pos ⟨hs, hb⟩] at h; cases h
theorem o1c {e : EvD} (h : m6a p e = []) (hs : e.still = true) : s8a p e = true := by
 unfold m6a at h
 cases hb : s8a p e with
 | true => rfl
 | false => rw [if_pos ⟨hs, hb⟩] at h; cases h
theorem blm (hp : e1a p) {e : EvD} (ho : D1b p e) {v : p4a} (hv : v ∈ t5a p e) : Blm p e v := by
 have hat := e3b hv
 rcases t0b hv with ⟨h0, h | h | h⟩ | h | h
 ·obtain ⟨⟨h1, h2⟩, rfl⟩ := n0b h
  obtain ⟨g1, g2, g3⟩ := still_step h1 ho
  obtain ⟨th, t1, t2, t3⟩ := U2b hp ho g1 g2
  have ht := ho.t g1
  have hm := t3.mod; unfold L2a at hm
  exact ⟨rfl, hm, by show (1 : Int) ≤ 4 ∧ (4 : Int) ≤ 5; omega, fun h => absurd h (by show (4 : Int) ≠ 2; omega), fun _ => ht, fun h => absurd h (by show (4 : Int) ≠ 1; omega), fun _ => ⟨g1, g2⟩, fun _ => ⟨rfl, rfl, rfl, h2⟩,
   fun h => absurd h (by show (4 : Int) ≠ 3; omega), fun h => absurd h (by show (4 : Int) ≠ 5; omega)⟩
 ·obtain ⟨⟨h1, h2⟩, rfl⟩ := Z2b h
  obtain ⟨g1, g2, g3⟩ := still_step h1 ho
  obtain ⟨th, t1, t2, t3⟩ := U2b hp ho g1 g2
  have ht := ho.t g1
  have hm := t3.mod; unfold L2a at hm
  exact ⟨rfl, hm, by show (1 : Int) ≤ 3 ∧ (3 : Int) ≤ 5; omega, fun h => absurd h (by show (3 : Int) ≠ 2; omega), fun _ => ht, fun h => absurd h (by show (3 : Int) ≠ 1; omega), fun _ => ⟨g1, g2⟩, fun h => absurd h (by show (3 : Int) ≠ 4; omega),
   fun _ => ⟨rfl, rfl, rfl, h2⟩, fun h => absurd h (by show (3 : Int) ≠ 5; omega)⟩
 ·obtain ⟨h1, h2, h3, t, ht, h⟩ := w3b h
  obtain ⟨r1, r2, r3, rfl⟩ := s2b h
  obtain ⟨g1, g2, g3⟩ := still_step h1 ho
  have hpt := t9a (ho.c g1) ht r2
  have hm := d5b hp ht hpt.1 hpt.2
  refine ⟨rfl, hm, by show (1 : Int) ≤ 5 ∧ (5 : Int) ≤ 5; omega, fun h => absurd h (by show (5 : Int) ≠ 2; omega), fun _ => (by show 0 ≤ (t : Int) ∧ (t : Int) < _; omega), fun h => absurd h (by show (5 : Int) ≠ 1; omega), fun _ => ⟨g1, g2⟩, fun h => absurd h (by show (5 : Int) ≠ 4; omega),
   fun h => absurd h (by show (5 : Int) ≠ 3; omega), fun _ => ?_⟩
  exact ⟨r1, rfl, hpt.1, rfl, B8b h2 h1, o1c h3 h1, r3⟩
 ·obtain ⟨hq, i, l, hl, r1, r2, rfl⟩ := h0b h
  have hlo := hp.locks l (d0a hl)
  refine ⟨rfl, ?_, by show (1 : Int) ≤ 2 ∧ (2 : Int) ≤ 5; omega, fun _ => ⟨i, l, rfl, hl, r1, r2⟩, fun h => absurd (show (2 : Int) = 2 from rfl) h, fun h => absurd h (by show (2 : Int) ≠ 1; omega), fun h => absurd h (by show ¬ (3 : Int) ≤ 2; omega), fun h => absurd h (by show (2 : Int) ≠ 4; omega),
   fun h => absurd h (by show (2 : Int) ≠ 3; omega), fun h => absurd h (by show (2 : Int) ≠ 5; omega)⟩
  show 0 ≤ O1b p e l ∧ O1b p e l < p.modules.length
  unfold O1b
  split
  ·rename_i hst
   unfold EvD.step at hst
   simp only [Bool.and_eq_true, decide_eq_true_eq] at hst
   have h1 := ho.s hst.1
   obtain ⟨th, t1, t2, t3⟩ := U2b hp ho hst.1 (by omega)
   have hm := t3.mod; unfold L2a at hm; exact hm
  ·split
   ·rename_i h0
    have ht := ho.t h0
    have hpt := t9a ho.d (t := e.x.thread.toNat) (by omega) (ho.aw h0)
    exact d5b hp (by omega) hpt.1 hpt.2
   ·have hm := hlo.mod; unfold L2a at hm; exact hm
 ·obtain ⟨hq, t, ht, r1, r2, rfl⟩ := f8a h
  have hpt := t9a ho.d ht r1
  refine ⟨rfl, ?_, by show (1 : Int) ≤ 1 ∧ (1 : Int) ≤ 5; omega, fun h => absurd h (by show (1 : Int) ≠ 2; omega), fun _ => (by show 0 ≤ (t : Int) ∧ (t : Int) < _; omega), fun _ => ⟨rfl, hpt.1, r2, rfl⟩, fun h => absurd h (by show ¬ (3 : Int) ≤ 1; omega), fun h => absurd h (by show (1 : Int) ≠ 4; omega),
   fun h => absurd h (by show (1 : Int) ≠ 3; omega), fun h => absurd h (by show (1 : Int) ≠ 5; omega)⟩
  show 0 ≤ M3a p e t ∧ M3a p e t < p.modules.length
  unfold M3a
  split
  ·rename_i hst
   have hst := hst.1
   unfold EvD.step at hst
   simp only [Bool.and_eq_true, decide_eq_true_eq] at hst
   have h1 := ho.s hst.1
   obtain ⟨th, t1, t2, t3⟩ := U2b hp ho hst.1 (by omega)
   have hm := t3.mod; unfold L2a at hm; exact hm
  ·exact d5b hp ht hpt.1 hpt.2
theorem q4c (hp : e1a p) {run : List o0a} (ho : ∀ i, i < (O1a p m run).length → D1b p (i7a run (O1a p m run) i)) {v : p4a} (hv : v ∈ s4a p m run) :
 ∃ i : Nat, i < (O1a p m run).length ∧ v.at_ = (i : Int) - 1 ∧ Blm p (i7a run (O1a p m run) i) v := by
 obtain ⟨i, hi, h⟩ := y6b hv
 exact ⟨i, hi, by rw [e3b h, d8b], blm hp (ho i hi) h⟩
end
end Go.Fw
namespace Go.Fw
open Go.RowKit
def E5c (p : e0a) (f : List Int) (a : N1a) : Bool := decide (w1a p.cells a.cell = -1) && !decide (a.cell ∈ f)
theorem v0b (p : e0a) (s : p1a) : q4a p s = s.set.any (E5c p (h2b p s.module_).frame) := rfl
theorem Q0c {α : Type} {l : List α} {q : α → Bool} {k : Nat} {x : α} (hx : l[k]? = some x) : (l.take (k + 1)).any q = ((l.take k).any q || q x) := by
 rw [List.take_add_one, hx, List.any_append]; simp
theorem s5b {l : List Int} {k : Nat} {x y : Int} (hx : l[k]? = some x) : decide (y ∈ l.take (k + 1)) = (decide (y ∈ l.take k) || decide (x = y)) := by
 rw [List.take_add_one, hx]
 by_cases h : y ∈ l.take k
 ·simp [h]
 ·by_cases h2 : x = y
  ·simp [h2]
  ·have h3 : ¬ y = x := fun h => h2 h.symm
   simp [h, h2, h3]
end Go.Fw
namespace Go.Proofs.YtjjmdcnmeommbaaGreatDoor
open Go.Fw Go.RowKit
theorem t4b (p : e0a) (s : p1a) {t n : Int} (hso : s5a p t n s) (M : List Nat) (w0 : World) (cs ca : List Value) (hI : InP p M w0 cs) (hr : x1a M w0 ca s) :
 R0a Tryz.prog 44 #[.agg cs.toArray, .agg ca.toArray] w0 fun v w' => v = .bool (!q4a p s) ∧ Below w0.heap.size w0 w' := by
 obtain ⟨Ac, nc, cc, Am, nm, cm, Al, nl, cl, At, nt, ct, rfl, hC, hMo, _, _, _, _, _, _, _, _, _, _⟩ := hI.rd.open_
 obtain ⟨Ag, ng, cg, As, ns, cs', rfl, -, -, hSet, _, _⟩ := x1a.open_ hr
 have hp := hI.ok
 have hmi := hso.mod
 unfold L2a at hmi
 have n1 := hp.nmodules
 have n2 := hp.ncells
 have S := St.refl w0
 refine a0a Tryz.func44 rfl Tryz.ntmps44 rfl ?_
 refine wO0 rfl ⟨⟩ (m0a S (by conv => lhs; whnf) rfl ?_)
 intro g2 w2 S2 X2 G2
 refine m0a S2 (by conv => lhs; whnf) rfl ?_
 intro g3 w3 S3 X3 G3
 obtain ⟨md, b14, p14, _, hxmd, hA14, _, _, hc14, hr14⟩ := RdS.get (hMo) (s.module_.toNat) (by omega)
 obtain ⟨_, _, _, _, _, _, Af14, nf14, cf14, rfl, _, _, hF14, _, _⟩ := c1a.open_ hr14
 have hmo : h2b p s.module_ = md := b3a hxmd
 refine lC (S3.k.a hc14) [.o 1,.o 0,.x b14 p14,.f 0 10] rfl ⟨rfl,⟨hA14,by omega⟩,rfl,rfl,⟨⟩⟩ (wL (fun μi D ε w => D = [] ∧ ∃ i : Nat, (i + μi = (s.set.length)) ∧ ((s.set.take i).any (E5c p md.frame) = false) ∧ St [] w0 w [(some g3, 88, [.int .i64 s.kind, .int .i64 s.frm, .int .i64 s.to, .int .i64 s.guard.op, .int .i64 s.guard.w, .int .i64 s.guard.n, .slice Ag ng cg, .slice As ns cs', .bool s.release, .int .i64 s.target, .int .i64 s.module_]), (some g2, 27, [.slice Ac nc cc, .slice Am nm cm, .slice Al nl cl, .slice At nt ct])] ∧ Sl ε [(2, .pointer (some ⟨g2, 0, none⟩)), (3, .pointer (some ⟨g3, 0, none⟩)), (5, .slice Af14 nf14 cf14), (6, .int .i64 i)]) (μ := (s.set.length)) ⟨rfl, 0, by omega, (by simp), S3, rfl⟩ ?_)
 rintro μi D ε w ⟨rfl, i, _, hno, S, eZ⟩
 refine wK eZ (wB S.k [.o 0] rfl ⟨rfl,⟨⟩⟩ (fun h21 => ?_) fun h21 => ?_)
 ·obtain ⟨a, b27, p27, _, hxa, hA27, _, _, hc27, hr27⟩ := RdS.get (hSet) (i) (by omega)
  obtain ⟨_, _, _, rfl, _, _⟩ := Q0a.open_ hr27
  have hac := (hso.set a (d0a hxa)).1
  unfold L2a at hac
  refine lCn 18 (S.k.a hc27) [.o 0,.x b27 p27,.f 0 0] rfl ⟨rfl,⟨hA27,by omega⟩,rfl,⟨⟩⟩ (wX (fun D ε w => D = [] ∧ ∃ b : Bool, ∃ a : N1a, (s.set[i]? = some a) ∧ (b = decide (0 ≤ w1a p.cells a.cell)) ∧ (0 ≤ a.cell ∧ a.cell < p.cells.length) ∧ St [] w0 w [(some g3, 88, [.int .i64 s.kind, .int .i64 s.frm, .int .i64 s.to, .int .i64 s.guard.op, .int .i64 s.guard.w, .int .i64 s.guard.n, .slice Ag ng cg, .slice As ns cs', .bool s.release, .int .i64 s.target, .int .i64 s.module_]), (some g2, 27, [.slice Ac nc cc, .slice Am nm cm, .slice Al nl cl, .slice At nt ct])] ∧ Sl ε [(2, .pointer (some ⟨g2, 0, none⟩)), (3, .pointer (some ⟨g3, 0, none⟩)), (5, .slice Af14 nf14 cf14), (6, .int .i64 i), (7, .int .i64 a.cell), (8, .bool b)]) ?_ ?_)
  ·obtain ⟨_, b33, p33, _, hxcl', hA33, _, _, hc33, hr33⟩ := RdS.get (hC) (a.cell.toNat) (by omega)
   obtain ⟨rfl, _, _, _, _⟩ := K2a.open_ hr33
   refine wB (S.k.a hc33) [.o 1,.x b33 p33,.f 0 3] rfl ⟨rfl,⟨hA33,by omega⟩,rfl,⟨⟩⟩ (fun h36 => ?_) fun h36 => ?_
   ·refine lP0 rfl ⟨⟩ ⟨rfl, (_), (a), (hxa), ?_, (hac), S, rfl⟩
    (rw [f1a hxcl']; simp; omega)
   refine lP0 rfl ⟨⟩ ⟨rfl, (_), (a), (hxa), ?_, (hac), S, rfl⟩
   (rw [f1a hxcl']; simp; omega)
  rintro D ε w ⟨rfl, b, a, hxa, hb, hac, S, eZ⟩
  refine wK eZ (wC0 rfl ⟨⟩ ?_)
  refine wL (fun μk D ε w => D = [] ∧ ∃ k : Nat, ∃ c : Bool, (k + μk = (md.frame.length)) ∧ (c = (b || decide (a.cell ∈ md.frame.take k))) ∧ St [] w0 w [(some g3, 88, [.int .i64 s.kind, .int .i64 s.frm, .int .i64 s.to, .int .i64 s.guard.op, .int .i64 s.guard.w, .int .i64 s.guard.n, .slice Ag ng cg, .slice As ns cs', .bool s.release, .int .i64 s.target, .int .i64 s.module_]), (some g2, 27, [.slice Ac nc cc, .slice Am nm cm, .slice Al nl cl, .slice At nt ct])] ∧ Sl ε [(2, .pointer (some ⟨g2, 0, none⟩)), (3, .pointer (some ⟨g3, 0, none⟩)), (5, .slice Af14 nf14 cf14), (6, .int .i64 i), (7, .int .i64 a.cell), (8, .bool c), (9, .int .i64 k)]) (μ := (md.frame.length)) ⟨rfl, 0, b, by omega, (by simp), S, rfl⟩ ?_
  rintro μk D ε w ⟨rfl, k, c, _, hc, S, eZ⟩
  refine wK eZ (wB0 rfl ⟨⟩ (fun h40 => ?_) fun h40 => ?_)
  ·refine lOn 9 S.k [] rfl ⟨⟩ ?_
   cases hb44 : c
   ·refine B0a (v := .bool _) rfl rfl ?_
    obtain ⟨_, b47, p47, _, hxy, hA47, _, _, hc47, hr47⟩ := RdS.get (hF14) (k) (by omega)
    obtain ⟨rfl, _⟩ := id hr47
    refine lB (S.k.a hc47) [.x b47 p47,.f 0 0] rfl ⟨rfl,⟨hA47,by omega⟩,⟨⟩⟩ (fun h50 => ?_) fun h50 => ?_
    ·refine lP0 rfl ⟨by omega,⟨⟩⟩ ⟨μk - 1, by omega, rfl, (k + 1), (_), (by omega), ?_, S, rfl⟩
     rw [s5b hxy, ← Bool.or_assoc, ← hc, hb44]; simp [h50]
    refine lP0 rfl ⟨by omega,⟨⟩⟩ ⟨μk - 1, by omega, rfl, (k + 1), (_), (by omega), ?_, S, rfl⟩
    rw [s5b hxy, ← Bool.or_assoc, ← hc, hb44]; simp [h50]
   refine B0a (v := .bool _) rfl rfl ?_
   refine lP0 rfl ⟨by omega,⟨⟩⟩ ⟨μk - 1, by omega, rfl, (k + 1), (_), (by omega), ?_, S, rfl⟩
   rw [hb44] at hc; simp at hc; rcases hc with h | h; exact (by rw [h]; simp); rw [List.take_add_one]; simp [h]
  refine lOn 7 S.k [] rfl ⟨⟩ ?_
  cases hb52 : c
  ·refine B0a (v := .bool _) rfl rfl ?_
   refine lR0 rfl ⟨⟩ (q0a rfl (by conv => lhs; whnf) ?_)
   refine ⟨?_, S.fin⟩
   rw [v0b, hmo]
   have h2 : s.set.any (E5c p md.frame) = true := by
    refine List.any_eq_true.2 ⟨a, d0a hxa, ?_⟩
    rw [hb52, List.take_of_length_le (by omega)] at hc
    have h3 := (Bool.or_eq_false_iff.1 hc.symm)
    rw [hb] at h3
    unfold E5c
    rw [h3.2]
    have h4 := of_decide_eq_false h3.1
    simp
    have hxl : p.cells[a.cell.toNat]? = some (p.cells[a.cell.toNat]'(by omega)) := List.getElem?_eq_getElem _
    have h5 := (hp.cells _ (List.mem_of_getElem? hxl)).thread
    rw [f1a hxl] at h4 ⊢
    omega
   rw [h2]; rfl
  refine B0a (v := .bool _) rfl rfl ?_
  refine lP0 rfl ⟨by omega,⟨⟩⟩ ⟨μi - 1, by omega, rfl, (i + 1), (by omega), ?_, S, rfl⟩
  rw [Q0c hxa, hno, Bool.false_or]
  unfold E5c
  rw [hb52, hb] at hc
  cases h1 : decide (a.cell ∈ md.frame) with
  | true => simp
  | false =>
    rw [List.take_of_length_le (by omega), h1] at hc
    simp at hc
    simp; omega
 refine lR0 rfl ⟨⟩ (q0a rfl (by conv => lhs; whnf) ?_)
 refine ⟨?_, S.fin⟩
 rw [v0b, hmo]
 rw [List.take_of_length_le (by omega)] at hno; rw [hno]; rfl
theorem E4b (p : e0a) (run : List o0a) (n : Nat) (hn : n ≤ run.length) (hx : ∀ (i : Nat) (x : o0a), i < n → run[i]? = some x → 0 ≤ x.thread ∧ x.thread < p.threads.length ∧ x.step < (i2a p x.thread.toNat).length)
 (M : List Nat) (w0 : World) (cs : List Value) (vr : Value) (hI : InP p M w0 cs) (hRun : C2b M w0 vr run) :
 R0a Tryz.prog 19 #[.agg cs.toArray, vr, .int .i64 n] w0 fun v w' => v = .bool true ∧ Below w0.heap.size w0 w' := by
 obtain ⟨Ac, nc, cc, Am, nm, cm, Al, nl, cl, At, nt, ct, rfl, _, _, _, hTh, _, _, _, _, _, _, _, _⟩ := hI.rd.open_
 obtain ⟨Ar, nr, cr, rfl⟩ := hRun.form
 obtain ⟨_, _, _⟩ := hRun.len
 have S := St.refl w0
 refine a0a Tryz.func19 rfl Tryz.ntmps19 rfl ?_
 refine wO0 rfl ⟨⟩ (m0a S (by conv => lhs; whnf) rfl ?_)
 intro g3 w3 S3 X3 G3
 refine lC0 rfl ⟨⟩ (wL (fun μi D ε w => D = [] ∧ ∃ i : Nat, (i + μi = (n)) ∧ St [] w0 w [(some g3, 27, [.slice Ac nc cc, .slice Am nm cm, .slice Al nl cl, .slice At nt ct])] ∧ Sl ε [(1, .slice Ar nr cr), (2, .int .i64 n), (3, .pointer (some ⟨g3, 0, none⟩)), (7, .int .i64 i)]) (μ := (n)) ⟨rfl, 0, by omega, S3, rfl⟩ ?_)
 rintro μi D ε w ⟨rfl, i, _, S, eZ⟩
 refine wK eZ (wB0 rfl ⟨⟩ (fun h10 => ?_) fun h10 => ?_)
 ·refine lC0 rfl ⟨⟩ (u0a b0a [0, 1, 2, 3, 4, 5, 6, 7, 8, 9, 10, 11, 12, 13, 14, 15, 16, 17, 18, 19, 20, 21, 22, 23, 24, 25, 26, 27, 28, 29, 30, 31, 32, 33, 34, 35] [] [] (by kernel_rfl) rfl (Cl _ _ _ _) (Cl.start S) ?_)
  obtain ⟨x, b15, p15, _, hxx, hA15, _, _, hc15, hr15⟩ := RdS.get (hRun) (i) (by omega)
  obtain ⟨rfl, _, _, _⟩ := id hr15
  have hxi := hx i x (by omega) hxx
  refine qB (S.q.a hc15) [.x b15 p15,.f 0 0] rfl ⟨rfl,⟨hA15,by omega⟩,⟨⟩⟩ (fun h18 => by exfalso; omega) fun h18 => ?_
  obtain ⟨_, b22, p22, _, hx22, hA22, _, _, hc22, hr22⟩ := RdS.get (hRun) (i) (by omega)
  obtain rfl := Option.some.inj (hxx.symm.trans hx22)
  obtain ⟨rfl, _, _, _⟩ := id hr22
  refine qB (S.q.a hc22) [.x b22 p22,.f 0 0,.o 0] rfl ⟨rfl,rfl,⟨hA22,by omega⟩,⟨⟩⟩ (fun h28 => by exfalso; omega) fun h28 => ?_
  obtain ⟨_, b33, p33, _, hx33, hA33, _, _, hc33, hr33⟩ := RdS.get (hRun) (i) (by omega)
  obtain rfl := Option.some.inj (hxx.symm.trans hx33)
  obtain ⟨rfl, _, _, _⟩ := id hr33
  obtain ⟨_, b40, p40, _, hx40, hA40, _, _, hc40, hr40⟩ := RdS.get (hRun) (i) (by omega)
  obtain rfl := Option.some.inj (hxx.symm.trans hx40)
  obtain ⟨rfl, _, _, _⟩ := id hr40
  obtain ⟨_, b43, p43, _, hxth, hA43, _, _, hc43, hr43⟩ := RdS.get (hTh) (x.thread.toNat) (by omega)
  obtain ⟨_, _, _, _, _, _, _, _, _, _, _, _, rfl, _, _, _, _, _, _, _, _, _, _, _, _, _⟩ := I0a.open_ hr43
  rw [C1a hxth] at hxi
  refine qB (((S.q.a hc43).a hc40).a hc33) [.x b33 p33,.f 0 1,.o 0,.x b40 p40,.f 1 0,.x b43 p43,.f 2 4] rfl ⟨rfl,⟨hA43,by omega⟩,rfl,⟨hA40,by omega⟩,rfl,rfl,⟨hA33,by omega⟩,⟨⟩⟩ (fun h47 => by exfalso; omega) fun h47 => ?_
  refine qD rfl ⟨⟩ ?_
  rintro wR4 ⟨SR4, _⟩
  refine lP0 rfl ⟨by omega,⟨⟩⟩ ⟨μi - 1, by omega, rfl, (i + 1), (by omega), SR4, rfl⟩
 exact lT rfl ⟨⟩ rfl ⟨rfl, S.fin⟩
end Go.Proofs.YtjjmdcnmeommbaaGreatDoor
namespace Go.Fw
open Go.RowKit
section
variable {P : Program} {r : Option Nat} {N : Nat} {ops : Array Oper} {rest : List Oper} {K : List Deferred → Env → World → Prop} {D : List Deferred} {e : Env} {w : World} {d : Nat} {t : TypeId} {p : String} {af : Array Edge} {x y : Operand} {xt yt : TypeId} {kd : IntKind} {a b : Int}
variable {M : List Nat} {w0 : World} {L : List Ent} {Kq : Env → Prop}
theorem R6c (hx : ev e x = .int kd a) (hy : ev e y = .int kd b) (hd : Nat.ble (d + 1) N = true) (h : QL P N ops (Cl M w0 w L) rest Kq (upd e d (.bool (decide (a = b))))) :
 QL P N ops (Cl M w0 w L) (⟨some d, .binOp .eql xt x y yt, t, p, af, none⟩ :: rest) Kq e := by
 by_cases hab : a = b
 ·refine Z4c hx hy hd (fun _ => ?_) (fun h => absurd hab h)
  rwa [decide_eq_true hab] at h
 ·refine Z4c hx hy hd (fun h => absurd h hab) (fun _ => ?_)
  rwa [decide_eq_false hab] at h
end
end Go.Fw
namespace Go.Proofs.YtjjmdcnmeommbaaGreatDoor
open Go.Fw Go.RowKit
set_option maxHeartbeats 2000000 in
theorem C4b (p : e0a) (l : List F0a) (run : List o0a) (v : p4a) (x : o0a) (c d : F0a) (hB : Blm p ⟨v.at_, x, c, d⟩ v) (ho : D1b p ⟨v.at_, x, c, d⟩) (hxd : l[(v.at_ + 1).toNat]? = some d) (hxc' : 0 ≤ v.at_ → l[v.at_.toNat]? = some c) (hxx' : 0 ≤ v.at_ → run[v.at_.toNat]? = some x)
 (M : List Nat) (w0 : World) (cs cv : List Value) (vl vr : Value) (hI : InP p M w0 cs) (hL : U5c M w0 vl l) (hRun : C2b M w0 vr run) (hv : m8a cv v) :
 R0a Tryz.prog 20 #[.agg cs.toArray, vl, vr, .agg cv.toArray] w0 fun v w' => v = .bool true ∧ Below w0.heap.size w0 w' := by
 obtain ⟨_, _, _, _, _, _, _, _, _, _, _, _, rfl, _, hMo, hLk, hTh, _, _, _, _, _, _, _, _⟩ := hI.rd.open_
 obtain ⟨_, _, _, rfl⟩ := hL.form
 obtain ⟨_, _, _⟩ := hL.len
 obtain ⟨_, _, _, rfl⟩ := hRun.form
 obtain ⟨_, _, _⟩ := hRun.len
 obtain ⟨rfl, _, _, _, _, _⟩ := hv
 have hp := hI.ok
 obtain ⟨e, he⟩ : ∃ e : EvD, e = ⟨v.at_, x, c, d⟩ := ⟨_, rfl⟩
 have ed : e.d = d := by rw [he]
 have ec : e.c = c := by rw [he]
 have ex : e.x = x := by rw [he]
 have ea : e.at_ = v.at_ := by rw [he]
 rw [← he] at hB ho
 clear he
 have hlo := ho.lo
 have hmd := hB.mod
 have hkd := hB.kind
 have hfd := ho.d
 have hlock := hB.lock
 have hthr := hB.thr
 have hass := hB.ass
 have hprom := hB.prom
 have hfr := hB.frame
 have hgu := hB.guar
 have hre := hB.rely
 have hfc := ho.c
 have htx := ho.t
 have hsx := U2b hp ho
 rw [ed] at hfd hlock hass
 rw [ec] at hfc
 rw [ex] at hprom htx hsx
 rw [ea] at hlo hfc htx hsx
 have hdl := q1a hxd
 have hfa := hfd.nat
 have hfm := hfd.mem.len
 have n1 := hp.nmodules
 have n2 := hp.nthreads
 have n3 := hp.nlocks
 obtain ⟨s, hs⟩ : ∃ s, s = sOf p e := ⟨_, rfl⟩
 have hown : v.kind = 1 → 0 ≤ v.at_ → 0 ≤ x.step → (x.thread = v.thread ∨ s.kind = 6 ∧ s.target = v.thread) → v.module_ = s.module_ := fun g1 g2 g3 g4 => by
  have ht := hthr (by omega)
  rw [(hass g1).2.2.2, hs]
  refine (E6a ⟨by unfold EvD.step; rw [ea, ex]; simp; omega, ?_⟩).symm
  rw [← hs, ex]
  rcases g4 with g4 | g4
  ·exact .inl (by omega)
  ·exact .inr ⟨g4.1, by omega⟩
 have hoth : v.kind = 1 → (v.at_ < 0 ∨ x.step < 0 ∨ ¬(x.thread = v.thread ∨ s.kind = 6 ∧ s.target = v.thread)) → v.module_ = (b6a p v.thread.toNat).modules.getD v.item.toNat 0 := fun g1 g2 => by
  have ht := hthr (by omega)
  obtain ⟨k1, _, _, k4⟩ := hass g1
  rw [k4, ← k1]
  unfold M3a
  rw [if_neg ?_, ed]
  rintro ⟨g3, g4⟩
  unfold EvD.step at g3
  rw [ea, ex] at g3
  simp only [Bool.and_eq_true, decide_eq_true_eq] at g3
  have h3 := ho.s (by omega)
  rw [ex] at h3
  rw [← hs, ex] at g4
  rcases g2 with g2 | g2 | g2
  ·omega
  ·omega
  ·apply g2
   rcases g4 with g4 | g4
   ·exact .inl (by omega)
   ·exact .inr ⟨g4.1, by omega⟩
 rw [← hs] at hfr hgu hre hsx
 rw [ex] at hfr hgu hre
 have S := St.refl w0
 refine a0a Tryz.func20 rfl Tryz.ntmps20 rfl ?_
 refine wO0 rfl ⟨⟩ (m0a S (by conv => lhs; whnf) rfl ?_)
 intro g4 w4 S4 X4 G4
 refine m0a S4 (by conv => lhs; whnf) rfl ?_
 intro g7 w7 S7 X7 G7
 obtain ⟨_, b20, p20, _, hx20, hA20, _, hl20, hc20, hr20⟩ := RdS.get (hL) ((v.at_ + 1).toNat) (by omega)
 obtain rfl := Option.some.inj (hxd.symm.trans hx20)
 obtain ⟨_, _, _, _, _, _, _, _, _, rfl, hMem20, hAt20, _, _, _, _, _, _, _⟩ := J0a.open_ hr20
 refine lO (S7.k.a hc20) [.o 0,.x b20 p20,.v 0] rfl ⟨⟨rfl,hl20⟩,⟨hA20,by omega⟩,by omega,rfl,⟨⟩⟩ (h0a S7 J4a rfl rfl ?_)
 intro g9 w9 S9 X9 G9
 refine c0a (kk := 0) (vs := [_, _, _]) S9 x2a rfl rfl rfl rfl rfl rfl rfl ?_
 intro w1_7 S1_7 X1_7
 dsimp only [k0a, List.set] at S1_7
 refine lB S1_7.k [.o 1] rfl ⟨rfl,⟨⟩⟩ (fun h24 => ?_) fun h24 => ?_
 ·obtain ⟨i, k, _, hxk, hm0, _⟩ := hlock h24
  obtain rfl : i = v.item.toNat := by omega
  have hil := q1a hxk
  have hki := (hp.locks k (d0a hxk)).cell.1
  unfold L2a at hki
  refine lC0 rfl ⟨⟩ (u0a b0a [0, 1, 2, 3, 4, 5, 6, 7, 8, 9, 10, 11, 12, 13, 14, 15, 16, 17, 18, 19, 20, 21, 22, 23, 24, 25, 26, 27, 28, 29, 30, 31, 32, 33, 34, 35, 36, 37, 38, 39, 40] [] [] (by kernel_rfl) rfl (Cl _ _ _ _) (Cl.start S1_7) ?_)
  refine qB S1_7.q [.o 1] rfl ⟨rfl,⟨⟩⟩ (fun h27 => ?_) (fun h27 => by exfalso; omega)
  refine qB S1_7.q [.o 1,.o 2] rfl ⟨rfl,rfl,⟨⟩⟩ (fun h34 => ?_) (fun h34 => by exfalso; omega)
  obtain ⟨_, b43, p43, _, hx43, hA43, _, _, hc43, hr43⟩ := RdS.get (hLk) (v.item.toNat) (by omega)
  obtain rfl := Option.some.inj (hxk.symm.trans hx43)
  obtain ⟨_, _, _, rfl, _, _, _⟩ := d4a.open_ hr43
  obtain ⟨_, b46, p46, _, hxy, hA46, _, _, hc46, hr46⟩ := RdS.get (hMem20) (k.cell.toNat) (by omega)
  obtain ⟨rfl, _⟩ := id hr46
  rw [getD_some hxy] at hm0
  refine qB ((S1_7.q.a hc46).a hc43) [.o 0,.o 2,.o 1,.x b43 p43,.f 0 0,.x b46 p46,.f 1 0] rfl ⟨rfl,⟨hA46,by omega⟩,rfl,⟨hA43,by omega⟩,rfl,rfl,rfl,⟨⟩⟩ (fun h48 => ?_) (fun h48 => by exfalso; omega)
  obtain ⟨_, b55, p55, _, hx55, hA55, _, _, hc55, hr55⟩ := RdS.get (hLk) (v.item.toNat) (by omega)
  obtain rfl := Option.some.inj (hxk.symm.trans hx55)
  obtain ⟨_, _, _, rfl, _, _, hE55⟩ := d4a.open_ hr55
  refine qO (S1_7.q.a hc55) [.o 2,.o 1,.x b55 p55,.f 0 1,.o 0,.o 0] rfl ⟨rfl,rfl,rfl,⟨hA55,by omega⟩,rfl,rfl,⟨⟩⟩ (T1a Q5a rfl rfl (fun w1 S1 X1 => Y3a k.inv M _ _ _ _ d.mem d.mem (RdE.keep (S1.keep0 M) _ _ hE55) (hI.msk.keep (S1.keep0 M)) (hMem20.keep (S1.keep0 M)) (hMem20.keep (S1.keep0 M))) ?_)
  refine qB0 rfl ⟨⟩ (fun h63 => ?_) (fun h63 => by exfalso; omega)
  refine qD rfl ⟨⟩ ?_
  rintro wR3 ⟨SR3, _⟩
  exact lT rfl ⟨⟩ rfl ⟨rfl, SR3.fin⟩
 have hvt := hthr h24
 refine lB S1_7.k [.o 1] rfl ⟨rfl,⟨⟩⟩ (fun h67 => by exfalso; omega) fun h67 => ?_
 refine lB S1_7.k [.o 1,.o 2] rfl ⟨rfl,rfl,⟨⟩⟩ (fun h74 => by exfalso; omega) fun h74 => ?_
 refine lB S1_7.k [.o 1] rfl ⟨rfl,⟨⟩⟩ (fun h78 => ?_) fun h78 => ?_
 ·obtain ⟨hm1, _, hm0, _⟩ := hass h78
  refine lC0 rfl ⟨⟩ (u0a b0a [0, 1, 2, 3, 4, 5, 6, 7, 8, 9, 10, 11, 12, 13, 14, 15, 16, 17, 18, 19, 20, 21, 22, 23, 24, 25, 26, 27, 28, 29, 30, 31, 32] [] [] (by kernel_rfl) rfl (Cl _ _ _ _) (Cl.start S1_7) ?_)
  obtain ⟨pt, b83, p83, _, hxpt, hA83, _, _, hc83, hr83⟩ := RdS.get (hAt20) (v.thread.toNat) (by omega)
  obtain ⟨rfl, _⟩ := id hr83
  rw [getD_some hxpt] at hm1
  refine qB (S1_7.q.a hc83) [.o 0,.o 1,.x b83 p83,.f 0 0,.o 1] rfl ⟨rfl,rfl,⟨hA83,by omega⟩,rfl,rfl,⟨⟩⟩ (fun h87 => by exfalso; omega) fun h87 => ?_
  refine qB S1_7.q [.o 1] rfl ⟨rfl,⟨⟩⟩ (fun h91 => by exfalso; omega) fun h91 => ?_
  obtain ⟨th, b98, p98, _, hxth, hA98, _, _, hc98, hr98⟩ := RdS.get (hTh) (v.thread.toNat) (by omega)
  obtain ⟨_, _, _, _, _, _, _, _, _, _, _, _, rfl, _, hEs98, _, _, _, _, _, _, _, _, _, _, _⟩ := I0a.open_ hr98
  have hpt := hfd.atr v.thread.toNat pt hxpt th hxth
  have hto := hp.thread hxth
  have hto1 := hto.nmod
  have hto3 := hto.asserts
  rw [V1a hxth] at hm0
  obtain ⟨a, b103, p103, _, hxa, hA103, _, hl103, hc103, hr103⟩ := RdS.get (hEs98) (v.item.toNat) (by omega)
  obtain ⟨_, _, _, rfl, _, _, _, _, _⟩ := RdE.cells hr103
  rw [getD_some hxa] at hm0
  refine qO ((S1_7.q.a hc103).a hc98) [.o 2,.o 1,.x b98 p98,.f 0 2,.o 1,.x b103 p103,.v 1,.o 0,.o 0] rfl ⟨rfl,rfl,⟨rfl,hl103⟩,⟨hA103,by omega⟩,rfl,rfl,⟨hA98,by omega⟩,rfl,rfl,⟨⟩⟩ (T1a Q5a rfl rfl (fun w1 S1 X1 => Y3a a M _ _ _ _ d.mem d.mem (RdE.keep (S1.keep0 M) _ _ hr103) (hI.msk.keep (S1.keep0 M)) (hMem20.keep (S1.keep0 M)) (hMem20.keep (S1.keep0 M))) ?_)
  refine qB0 rfl ⟨⟩ (fun h110 => by exfalso; omega) fun h110 => ?_
  refine qD rfl ⟨⟩ ?_
  rintro wR7 ⟨SR7, _⟩
  refine lB SR7.k [.o 1] rfl ⟨rfl,⟨⟩⟩ (fun h114 => ?_) fun h114 => ?_
  ·have hxx := hxx' (by omega)
   have hxl := q1a hxx
   obtain ⟨_, b119, p119, _, hx119, hA119, _, _, hc119, hr119⟩ := RdS.get (hRun) (v.at_.toNat) (by omega)
   obtain rfl := Option.some.inj (hxx.symm.trans hx119)
   obtain ⟨rfl, _, _, _⟩ := id hr119
   refine lB (SR7.k.a hc119) [.o 1,.x b119 p119,.f 0 1] rfl ⟨rfl,⟨hA119,by omega⟩,rfl,⟨⟩⟩ (fun h122 => ?_) fun h122 => ?_
   ·obtain ⟨tx, hxtx, hxs, hso⟩ := hsx (by omega) (by omega)
    have htt := htx (by omega)
    have hsl := q1a hxs
    refine lC0 rfl ⟨⟩ (u0a b0a [0, 1, 2, 3, 4, 5, 6, 7, 8, 9, 10, 11, 12, 13, 14, 15, 16, 17, 18] [19] [20] (by kernel_rfl) rfl (Cl _ _ _ _) (Cl.start SR7) ?_)
    obtain ⟨_, b129, p129, _, hx129, hA129, _, _, hc129, hr129⟩ := RdS.get (hRun) (v.at_.toNat) (by omega)
    obtain rfl := Option.some.inj (hxx.symm.trans hx129)
    obtain ⟨rfl, _, _, _⟩ := id hr129
    obtain ⟨_, b132, p132, _, hx132, hA132, _, _, hc132, hr132⟩ := RdS.get (hTh) (x.thread.toNat) (by omega)
    obtain rfl := Option.some.inj (hxtx.symm.trans hx132)
    obtain ⟨_, _, _, _, _, _, _, _, _, _, _, _, rfl, _, _, _, hSt132, _, _, _, _, _, _, _, _, _⟩ := I0a.open_ hr132
    obtain ⟨_, b138, p138, _, hx138, hA138, _, _, hc138, hr138⟩ := RdS.get (hRun) (v.at_.toNat) (by omega)
    obtain rfl := Option.some.inj (hxx.symm.trans hx138)
    obtain ⟨rfl, _, _, _⟩ := id hr138
    obtain ⟨_, b141, p141, _, hx141, hA141, _, hl141, hc141, hr141⟩ := RdS.get (hSt132) (x.step.toNat) (by omega)
    obtain rfl := Option.some.inj (hxs.symm.trans hx141)
    obtain ⟨_, _, _, _, _, _, rfl, ⟨_, _, _, _, _⟩, _, _, _, _⟩ := x1a.open_ hr141
    refine qN ((((SR7.q.a hc141).a hc138).a hc132).a hc129) [.o 2,.o 1,.x b129 p129,.f 0 0,.x b132 p132,.f 1 4,.o 1,.x b138 p138,.f 2 1,.x b141 p141,.v 3] rfl ⟨⟨rfl,hl141⟩,⟨hA141,by omega⟩,rfl,⟨hA138,by omega⟩,rfl,rfl,⟨hA132,by omega⟩,rfl,⟨hA129,by omega⟩,rfl,rfl,⟨⟩⟩ (c3a ?_)
    refine E4a rfl rfl Y9a rfl ?_
    refine y1a ?_
    rintro wR10 ⟨SR10, _⟩
    intro g10 hg10 G10 ng10
    dsimp only [x3a]
    clear ng10
    replace SR10 := SR10.push_new SR7 hg10 G10
    refine c0a (kk := 0) (vs := [_, _, _, _, _, _, _, _, _, _, _]) SR10 U9a rfl rfl rfl rfl rfl rfl rfl ?_
    intro w10_20 S10_20 X10_20
    dsimp only [k0a, List.set] at S10_20
    refine lC0 rfl ⟨⟩ (u0a b0a [0, 1, 2, 3, 4, 5, 6, 7, 8, 9, 10, 11, 12, 13, 14, 15, 16, 17, 18, 19, 20] [] [] (by kernel_rfl) rfl (Cl _ _ _ _) (Cl.start S10_20) ?_)
    obtain ⟨_, b146, p146, _, hx146, hA146, _, _, hc146, hr146⟩ := RdS.get (hRun) (v.at_.toNat) (by omega)
    obtain rfl := Option.some.inj (hxx.symm.trans hx146)
    obtain ⟨rfl, _, _, _⟩ := id hr146
    refine qB (S10_20.q.a hc146) [.o 2,.x b146 p146,.f 0 0,.o 2] rfl ⟨rfl,rfl,⟨hA146,by omega⟩,rfl,⟨⟩⟩ (fun h151 => ?_) fun h151 => ?_
    ·refine qD rfl ⟨⟩ ?_
     rintro wR11 ⟨SR11, XR11⟩
     refine lB SR11.k [.o 2,.o 0] rfl ⟨rfl,rfl,⟨⟩⟩ (fun h168 => ?_) (fun h168 => by exact absurd (hown h78 (by omega) (by omega) (by exact .inl h151)) h168)
     exact lT rfl ⟨⟩ rfl ⟨rfl, SR11.fin⟩
    refine qB S10_20.q [.o 0] rfl ⟨rfl,⟨⟩⟩ (fun h155 => ?_) fun h155 => ?_
    ·refine qB S10_20.q [.o 0,.o 2] rfl ⟨rfl,rfl,⟨⟩⟩ (fun h161 => ?_) fun h161 => ?_
     ·refine qD rfl ⟨⟩ ?_
      rintro wR11 ⟨SR11, XR11⟩
      refine lB SR11.k [.o 2,.o 0] rfl ⟨rfl,rfl,⟨⟩⟩ (fun h168 => ?_) (fun h168 => by exact absurd (hown h78 (by omega) (by omega) (by exact .inr ⟨h155, h161⟩)) h168)
      exact lT rfl ⟨⟩ rfl ⟨rfl, SR11.fin⟩
     refine qD rfl ⟨⟩ ?_
     rintro wR11 ⟨SR11, XR11⟩
     refine lC0 rfl ⟨⟩ (u0a b0a [0, 1, 2, 3, 4, 5, 6, 7, 8, 9, 10, 11, 12, 13, 14] [] [] (by kernel_rfl) rfl (Cl _ _ _ _) (Cl.start SR11) ?_)
     obtain ⟨x175, b175, p175, c175, hx175, hA175, hM175, hl175, hc175, hr175⟩ := RdS.get (hTh) (v.thread.toNat) (by omega)
     obtain rfl := Option.some.inj (hxth.symm.trans hx175)
     obtain ⟨Aa175, na175, ca175, Am175, nm175, cm175, As175, ns175, cs175, Al175, nl175, cl175, rfl, ip175, hEs175, hMs175, hSt175, hLo175, hna175, hnm175, hns175, hnl175, ba175, bm175, bs175, bl175⟩ := I0a.open_ hr175
     obtain ⟨mm, b180, p180, c180, hxmm, hA180, hM180, hl180, hc180, hr180⟩ := RdS.get (hMs175) (v.item.toNat) (by omega)
     obtain ⟨rfl, i1180⟩ := id hr180
     refine qB ((SR11.q.a hc180).a hc175) [.o 2,.o 3,.o 2,.x b175 p175,.f 0 3,.o 2,.x b180 p180,.f 1 0] rfl ⟨rfl,⟨hA180,by omega⟩,rfl,rfl,⟨hA175,by omega⟩,rfl,rfl,rfl,⟨⟩⟩ (fun h182 => ?_) (fun h182 => by exact absurd ((hoth h78 (by exact .inr (.inr (by rintro (q | ⟨q1, q2⟩); exact h151 q; exact h161 q2)))).trans (by rw [V1a hxth, getD_some hxmm])) h182)
     refine qD rfl ⟨⟩ ?_
     rintro wR13 ⟨SR13, XR13⟩
     exact lT rfl ⟨⟩ rfl ⟨rfl, SR13.fin⟩
    refine qD rfl ⟨⟩ ?_
    rintro wR11 ⟨SR11, XR11⟩
    refine lC0 rfl ⟨⟩ (u0a b0a [0, 1, 2, 3, 4, 5, 6, 7, 8, 9, 10, 11, 12, 13, 14] [] [] (by kernel_rfl) rfl (Cl _ _ _ _) (Cl.start SR11) ?_)
    obtain ⟨x175, b175, p175, c175, hx175, hA175, hM175, hl175, hc175, hr175⟩ := RdS.get (hTh) (v.thread.toNat) (by omega)
    obtain rfl := Option.some.inj (hxth.symm.trans hx175)
    obtain ⟨Aa175, na175, ca175, Am175, nm175, cm175, As175, ns175, cs175, Al175, nl175, cl175, rfl, ip175, hEs175, hMs175, hSt175, hLo175, hna175, hnm175, hns175, hnl175, ba175, bm175, bs175, bl175⟩ := I0a.open_ hr175
    obtain ⟨mm, b180, p180, c180, hxmm, hA180, hM180, hl180, hc180, hr180⟩ := RdS.get (hMs175) (v.item.toNat) (by omega)
    obtain ⟨rfl, i1180⟩ := id hr180
    refine qB ((SR11.q.a hc180).a hc175) [.o 2,.o 3,.o 2,.x b175 p175,.f 0 3,.o 2,.x b180 p180,.f 1 0] rfl ⟨rfl,⟨hA180,by omega⟩,rfl,rfl,⟨hA175,by omega⟩,rfl,rfl,rfl,⟨⟩⟩ (fun h182 => ?_) (fun h182 => by exact absurd ((hoth h78 (by exact .inr (.inr (by rintro (q | ⟨q1, q2⟩); exact h151 q; exact h155 q1)))).trans (by rw [V1a hxth, getD_some hxmm])) h182)
    refine qD rfl ⟨⟩ ?_
    rintro wR13 ⟨SR13, XR13⟩
    exact lT rfl ⟨⟩ rfl ⟨rfl, SR13.fin⟩
   refine lC0 rfl ⟨⟩ (u0a b0a [0, 1, 2, 3, 4, 5, 6, 7, 8, 9, 10, 11, 12, 13, 14] [] [] (by kernel_rfl) rfl (Cl _ _ _ _) (Cl.start SR7) ?_)
   obtain ⟨x175, b175, p175, c175, hx175, hA175, hM175, hl175, hc175, hr175⟩ := RdS.get (hTh) (v.thread.toNat) (by omega)
   obtain rfl := Option.some.inj (hxth.symm.trans hx175)
   obtain ⟨Aa175, na175, ca175, Am175, nm175, cm175, As175, ns175, cs175, Al175, nl175, cl175, rfl, ip175, hEs175, hMs175, hSt175, hLo175, hna175, hnm175, hns175, hnl175, ba175, bm175, bs175, bl175⟩ := I0a.open_ hr175
   obtain ⟨mm, b180, p180, c180, hxmm, hA180, hM180, hl180, hc180, hr180⟩ := RdS.get (hMs175) (v.item.toNat) (by omega)
   obtain ⟨rfl, i1180⟩ := id hr180
   refine qB ((SR7.q.a hc180).a hc175) [.o 1,.o 2,.o 1,.x b175 p175,.f 0 3,.o 1,.x b180 p180,.f 1 0] rfl ⟨rfl,⟨hA180,by omega⟩,rfl,rfl,⟨hA175,by omega⟩,rfl,rfl,rfl,⟨⟩⟩ (fun h182 => ?_) (fun h182 => by exact absurd ((hoth h78 (by exact .inr (.inl (by omega)))).trans (by rw [V1a hxth, getD_some hxmm])) h182)
   refine qD rfl ⟨⟩ ?_
   rintro wR13 ⟨SR13, XR13⟩
   exact lT rfl ⟨⟩ rfl ⟨rfl, SR13.fin⟩
  refine lC0 rfl ⟨⟩ (u0a b0a [0, 1, 2, 3, 4, 5, 6, 7, 8, 9, 10, 11, 12, 13, 14] [] [] (by kernel_rfl) rfl (Cl _ _ _ _) (Cl.start SR7) ?_)
  obtain ⟨x175, b175, p175, c175, hx175, hA175, hM175, hl175, hc175, hr175⟩ := RdS.get (hTh) (v.thread.toNat) (by omega)
  obtain rfl := Option.some.inj (hxth.symm.trans hx175)
  obtain ⟨Aa175, na175, ca175, Am175, nm175, cm175, As175, ns175, cs175, Al175, nl175, cl175, rfl, ip175, hEs175, hMs175, hSt175, hLo175, hna175, hnm175, hns175, hnl175, ba175, bm175, bs175, bl175⟩ := I0a.open_ hr175
  obtain ⟨mm, b180, p180, c180, hxmm, hA180, hM180, hl180, hc180, hr180⟩ := RdS.get (hMs175) (v.item.toNat) (by omega)
  obtain ⟨rfl, i1180⟩ := id hr180
  refine qB ((SR7.q.a hc180).a hc175) [.o 1,.o 2,.o 1,.x b175 p175,.f 0 3,.o 1,.x b180 p180,.f 1 0] rfl ⟨rfl,⟨hA180,by omega⟩,rfl,rfl,⟨hA175,by omega⟩,rfl,rfl,rfl,⟨⟩⟩ (fun h182 => ?_) (fun h182 => by exact absurd ((hoth h78 (by exact .inl (by omega))).trans (by rw [V1a hxth, getD_some hxmm])) h182)
  refine qD rfl ⟨⟩ ?_
  rintro wR13 ⟨SR13, XR13⟩
  exact lT rfl ⟨⟩ rfl ⟨rfl, SR13.fin⟩
 obtain ⟨q1, q2⟩ := hprom (by omega)
 have hxx := hxx' q1
 have hxl := q1a hxx
 have hxc := hxc' q1
 refine lB S1_7.k [.o 1] rfl ⟨rfl,⟨⟩⟩ (fun h185 => by exfalso; omega) fun h185 => ?_
 obtain ⟨_, b190, p190, _, hx190, hA190, _, _, hc190, hr190⟩ := RdS.get (hRun) (v.at_.toNat) (by omega)
 obtain rfl := Option.some.inj (hxx.symm.trans hx190)
 obtain ⟨rfl, _, _, _⟩ := id hr190
 refine lB (S1_7.k.a hc190) [.o 1,.x b190 p190,.f 0 1] rfl ⟨rfl,⟨hA190,by omega⟩,rfl,⟨⟩⟩ (fun h193 => by exfalso; omega) fun h193 => ?_
 have hcl := q1a hxc
 have hfc := hfc q1
 have hfca := hfc.nat
 obtain ⟨tx, hxtx, hxs, hso⟩ := hsx q1 q2
 have htt := htx q1
 have hsl := q1a hxs
 have hmi := hso.mod
 unfold L2a at hmi
 obtain ⟨_, b198, p198, _, hx198, hA198, _, hl198, hc198, hr198⟩ := RdS.get (hL) (v.at_.toNat) (by omega)
 obtain rfl := Option.some.inj (hxc.symm.trans hx198)
 obtain ⟨_, _, _, _, _, _, _, _, _, rfl, hMem198, hAt198, _, _, _, _, _, _, _⟩ := J0a.open_ hr198
 refine lO (S1_7.k.a hc198) [.o 1,.x b198 p198,.v 0] rfl ⟨⟨rfl,hl198⟩,⟨hA198,by omega⟩,rfl,⟨⟩⟩ (h0a S1_7 J4a rfl rfl ?_)
 intro g11 w11 S11 X11 G11
 refine c0a (kk := 0) (vs := [_, _, _]) S11 x2a rfl rfl rfl rfl rfl rfl rfl ?_
 intro w16_6 S16_6 X16_6
 dsimp only [k0a, List.set] at S16_6
 obtain ⟨_, b203, p203, _, hx203, hA203, _, hl203, hc203, hr203⟩ := RdS.get (hRun) (v.at_.toNat) (by omega)
 obtain rfl := Option.some.inj (hxx.symm.trans hx203)
 obtain ⟨rfl, _, _, _⟩ := id hr203
 refine lO (S16_6.k.a hc203) [.o 2,.x b203 p203,.v 0] rfl ⟨⟨rfl,hl203⟩,⟨hA203,by omega⟩,rfl,⟨⟩⟩ (h0a S16_6 K9b rfl rfl ?_)
 intro g12 w12 S12 X12 G12
 refine c0a (kk := 0) (vs := [_, _, _]) S12 Q8b rfl rfl rfl rfl rfl rfl rfl ?_
 intro w17_6 S17_6 X17_6
 dsimp only [k0a, List.set] at S17_6
 refine lC0 rfl ⟨⟩ (u0a b0a [0, 1, 2, 3, 4, 5, 6, 7, 8, 9, 10] [11] [12] (by kernel_rfl) rfl (Cl _ _ _ _) (Cl.start S17_6) ?_)
 obtain ⟨_, b209, p209, _, hx209, hA209, _, _, hc209, hr209⟩ := RdS.get (hTh) (x.thread.toNat) (by omega)
 obtain rfl := Option.some.inj (hxtx.symm.trans hx209)
 obtain ⟨_, _, _, _, _, _, _, _, _, _, _, _, rfl, _, _, _, hSt209, _, _, _, _, _, _, _, _, _⟩ := I0a.open_ hr209
 obtain ⟨_, b214, p214, _, hx214, hA214, _, hl214, hc214, hr214⟩ := RdS.get (hSt209) (x.step.toNat) (by omega)
 obtain rfl := Option.some.inj (hxs.symm.trans hx214)
 obtain ⟨_, _, _, _, _, _, rfl, ⟨_, _, _, _, _⟩, _, _, _, _⟩ := x1a.open_ hr214
 refine qN ((S17_6.q.a hc214).a hc209) [.o 4,.o 0,.x b209 p209,.f 0 4,.o 0,.x b214 p214,.v 1] rfl ⟨⟨rfl,hl214⟩,⟨hA214,by omega⟩,rfl,rfl,⟨hA209,by omega⟩,rfl,rfl,⟨⟩⟩ (c3a ?_)
 refine E4a rfl rfl Y9a rfl ?_
 refine y1a ?_
 rintro wR18 ⟨SR18, _⟩
 intro g13 hg13 G13 ng13
 dsimp only [x3a]
 clear ng13
 replace SR18 := SR18.push_new S17_6 hg13 G13
 refine c0a (kk := 0) (vs := [_, _, _, _, _, _, _, _, _, _, _]) SR18 U9a rfl rfl rfl rfl rfl rfl rfl ?_
 intro w18_12 S18_12 X18_12
 dsimp only [k0a, List.set] at S18_12
 refine lO S18_12.k [.w 5,.w 0] rfl ⟨⟨rfl,by rfl⟩,⟨rfl,rfl⟩,⟨⟩⟩ (f0a S18_12 G6c rfl rfl (t4b p s hso M _ _ _ (hI.keep (S18_12.keep0 M)) (x1a.keep (S18_12.keep0 M) _ _ hr214)) ?_)
 intro w218 S218 X218
 refine lC0 rfl ⟨⟩ (u0a b0a [0, 1, 2, 3, 4, 5, 6, 7, 8, 9, 10, 11, 12, 13] [] [] (by kernel_rfl) rfl (Cl _ _ _ _) (Cl.start S218) ?_)
 obtain ⟨md, b223, p223, _, hxmd, hA223, _, _, hc223, hr223⟩ := RdS.get (hMo) (s.module_.toNat) (by omega)
 obtain ⟨_, _, _, _, _, _, _, _, _, rfl, _, hG223, _, _, _⟩ := c1a.open_ hr223
 have hgb : s8a p e = decide (md.guar.evl c.mem d.mem ≠ 0) := by unfold s8a; rw [← hs, b3a hxmd, ec, ed]
 have hgt := (hp.modules md (d0a hxmd)).guar
 have hgr := N6a hgt.1 c.mem d.mem
 rw [hgt.2.1, show C4a (1 : Int).toNat = 2 from rfl] at hgr
 refine qO (S218.q.a hc223) [.o 5,.o 0,.x b223 p223,.f 0 6,.o 2,.o 3] rfl ⟨rfl,rfl,rfl,⟨hA223,by omega⟩,rfl,rfl,⟨⟩⟩ (T1a Q5a rfl rfl (fun w1 S1 X1 => Y3a md.guar M _ _ _ _ c.mem d.mem (RdE.keep (S1.keep0 M) _ _ hG223) (hI.msk.keep (S1.keep0 M)) (hMem198.keep (S1.keep0 M)) (hMem20.keep (S1.keep0 M))) ?_)
 refine R6c rfl rfl rfl ?_
 refine qD rfl ⟨⟩ ?_
 rintro wR20 ⟨SR20, _⟩
 refine lB SR20.k [.o 4] rfl ⟨rfl,⟨⟩⟩ (fun h235 => ?_) fun h235 => ?_
 ·obtain ⟨q3, q4, q5, q6⟩ := hfr h235
  refine lB SR20.k [.o 4,.o 1] rfl ⟨rfl,rfl,⟨⟩⟩ (fun h240 => ?_) (fun h240 => by exfalso; omega)
  refine lB SR20.k [.o 4,.o 1] rfl ⟨rfl,rfl,⟨⟩⟩ (fun h246 => ?_) (fun h246 => by exfalso; omega)
  refine lB SR20.k [.o 4,.o 0] rfl ⟨rfl,rfl,⟨⟩⟩ (fun h253 => ?_) (fun h253 => by exfalso; omega)
  refine lOn 2 SR20.k [] rfl ⟨⟩ (I3a rfl rfl rfl ?_)
  refine B0a (v := .bool false) (congrArg Value.bool (show (!q4a p s) = false by rw [q6]; rfl)) rfl ?_
  exact lT rfl ⟨⟩ rfl ⟨rfl, SR20.fin⟩
 refine lB0 rfl ⟨⟩ (fun h260 => ?_) fun h260 => ?_
 ·obtain ⟨q3, q4, q5, q6⟩ := hgu h260
  refine lB SR20.k [.o 4,.o 1] rfl ⟨rfl,rfl,⟨⟩⟩ (fun h265 => ?_) (fun h265 => by exfalso; omega)
  refine lB SR20.k [.o 4,.o 1] rfl ⟨rfl,rfl,⟨⟩⟩ (fun h271 => ?_) (fun h271 => by exfalso; omega)
  refine lB SR20.k [.o 4,.o 0] rfl ⟨rfl,rfl,⟨⟩⟩ (fun h278 => ?_) (fun h278 => by exfalso; omega)
  refine lOn 2 SR20.k [] rfl ⟨⟩ (I3a rfl rfl rfl ?_)
  refine B0a (v := .bool false) (congrArg Value.bool (decide_eq_false (by rw [hgb] at q6; simp at q6; omega))) rfl ?_
  exact lT rfl ⟨⟩ rfl ⟨rfl, SR20.fin⟩
 refine lB0 rfl ⟨⟩ (fun h285 => ?_) (fun h285 => by exfalso; omega)
 obtain ⟨q3, q4, q5, q6, q7, q8, q9⟩ := hre h285
 refine lC0 rfl ⟨⟩ (u0a b0a [0, 1, 2, 3, 4, 5, 6, 7, 8, 9, 10, 11, 12, 13, 14, 15, 16, 17, 18, 19, 20, 21, 22, 23, 24, 25, 26, 27, 28, 29, 30, 31, 32, 33, 34, 35, 36, 37, 38, 39, 40, 41, 42, 43, 44, 45, 46, 47, 48, 49, 50, 51, 52, 53, 54, 55, 56, 57, 58] [] [] (by kernel_rfl) rfl (Cl _ _ _ _) (Cl.start SR20) ?_)
 refine qB SR20.q [.o 4,.o 1] rfl ⟨rfl,rfl,⟨⟩⟩ (fun h290 => ?_) (fun h290 => by exfalso; omega)
 obtain ⟨pc, b296, p296, _, hxpc, hA296, _, _, hc296, hr296⟩ := RdS.get (hAt198) (v.thread.toNat) (by omega)
 obtain ⟨rfl, _⟩ := id hr296
 rw [ec, getD_some hxpc] at q4
 refine qB (SR20.q.a hc296) [.o 2,.o 4,.x b296 p296,.f 0 0,.o 4] rfl ⟨rfl,rfl,⟨hA296,by omega⟩,rfl,rfl,⟨⟩⟩ (fun h300 => ?_) (fun h300 => by exfalso; omega)
 refine qB SR20.q [.o 4] rfl ⟨rfl,⟨⟩⟩ (fun h305 => ?_) (fun h305 => by exfalso; omega)
 obtain ⟨th, b314, p314, _, hxth, hA314, _, _, hc314, hr314⟩ := RdS.get (hTh) (v.thread.toNat) (by omega)
 obtain ⟨_, _, _, _, _, _, _, _, _, _, _, _, rfl, _, _, hMs314, _, _, _, _, _, _, _, _, _, _⟩ := I0a.open_ hr314
 have hpt := hfc.atr v.thread.toNat pc hxpc th hxth
 have hto := hp.thread hxth
 have hto1 := hto.nmod
 obtain ⟨mm, b319, p319, _, hxmm, hA319, _, _, hc319, hr319⟩ := RdS.get (hMs314) (v.item.toNat) (by omega)
 obtain ⟨rfl, _⟩ := id hr319
 rw [V1a hxth, getD_some hxmm] at q6
 refine qB ((SR20.q.a hc319).a hc314) [.o 4,.o 5,.o 4,.x b314 p314,.f 0 3,.o 4,.x b319 p319,.f 1 0] rfl ⟨rfl,⟨hA319,by omega⟩,rfl,rfl,⟨hA314,by omega⟩,rfl,rfl,rfl,⟨⟩⟩ (fun h321 => ?_) (fun h321 => by exfalso; omega)
 refine qOn 2 SR20.q [] rfl ⟨⟩ (u2a rfl rfl ?_)
 refine K1a (v := .bool true) (congrArg Value.bool (show (!q4a p s) = true by rw [q7]; rfl)) rfl ?_
 refine qOn 2 SR20.q [] rfl ⟨⟩ (u2a rfl rfl ?_)
 refine K1a (v := .bool true) (congrArg Value.bool (decide_eq_true (by rw [hgb] at q8; simp at q8; omega))) rfl ?_
 obtain ⟨me, b334, p334, _, hxme, hA334, _, _, hc334, hr334⟩ := RdS.get (hMo) (v.module_.toNat) (by omega)
 obtain ⟨_, _, _, _, _, _, _, _, _, rfl, hR334, _, _, _, _⟩ := c1a.open_ hr334
 rw [b3a hxme, ec, ed] at q9
 refine qO (SR20.q.a hc334) [.o 5,.o 4,.x b334 p334,.f 0 2,.o 2,.o 3] rfl ⟨rfl,rfl,rfl,⟨hA334,by omega⟩,rfl,rfl,⟨⟩⟩ (T1a Q5a rfl rfl (fun w1 S1 X1 => Y3a me.rely M _ _ _ _ c.mem d.mem (RdE.keep (S1.keep0 M) _ _ hR334) (hI.msk.keep (S1.keep0 M)) (hMem198.keep (S1.keep0 M)) (hMem20.keep (S1.keep0 M))) ?_)
 refine qB0 rfl ⟨⟩ (fun h342 => ?_) (fun h342 => by exfalso; omega)
 refine qD rfl ⟨⟩ ?_
 rintro wR27 ⟨SR27, _⟩
 exact lT rfl ⟨⟩ rfl ⟨rfl, SR27.fin⟩
end Go.Proofs.YtjjmdcnmeommbaaGreatDoor
