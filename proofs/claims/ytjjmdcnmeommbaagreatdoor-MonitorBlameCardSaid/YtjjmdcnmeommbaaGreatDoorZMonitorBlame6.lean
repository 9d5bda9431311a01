/-
  Part 6 of 9 of the proof of MonitorBlame: what it leans on. No conditions.
-/
import Derived.Test.YtjjmdcnmeommbaaGreatDoorZMonitorBlame5
set_option maxRecDepth 100000
namespace Go.Proofs.YtjjmdcnmeommbaaGreatDoor
open Go.Fw Go.RowKit
theorem f4b (p : e0a) (l : List F0a) (hg : ∀ c ∈ l, D5a p c) (M : List Nat) (w0 : World) (cs : List Value) (vl : Value) (hI : InP p M w0 cs) (hL : U5c M w0 vl l) :
 R0a Tryz.prog 18 #[.agg cs.toArray, vl] w0 fun v w' => v = .bool true ∧ Below w0.heap.size w0 w' := by
 obtain ⟨Ac, nc, cc, Am, nm, cm, Al, nl, cl, At, nt, ct, rfl, _, _, _, hTh, _, _, _, _, _, _, _, _⟩ := hI.rd.open_
 obtain ⟨Ax, nx, cx, rfl⟩ := hL.form
 obtain ⟨_, _, _⟩ := hL.len
 have S := St.refl w0
 refine a0a Tryz.func18 rfl Tryz.ntmps18 rfl ?_
 refine wO0 rfl ⟨⟩ (m0a S (by conv => lhs; whnf) rfl ?_)
 intro g2 w2 S2 X2 G2
 refine lC0 rfl ⟨⟩ (wL (fun μi D ε w => D = [] ∧ ∃ i : Nat, (i + μi = (l.length)) ∧ St [] w0 w [(some g2, 27, [.slice Ac nc cc, .slice Am nm cm, .slice Al nl cl, .slice At nt ct])] ∧ Sl ε [(1, .slice Ax nx cx), (2, .pointer (some ⟨g2, 0, none⟩)), (5, .int .i64 i)]) (μ := (l.length)) ⟨rfl, 0, by omega, S2, rfl⟩ ?_)
 rintro μi D ε w ⟨rfl, i, _, S, eZ⟩
 refine wK eZ (wB0 rfl ⟨⟩ (fun h10 => ?_) fun h10 => ?_)
 ·refine lC0 rfl ⟨⟩ (u0a b0a [0, 1, 2, 3, 4, 5, 6, 7, 8, 9, 10, 11, 12, 13, 14, 15, 16, 17, 18, 19, 20, 21] [] [] (by kernel_rfl) rfl (Cl _ _ _ _) (Cl.start S) ?_)
  obtain ⟨c, b15, p15, _, hxc, hA15, _, _, hc15, hr15⟩ := RdS.get (hL) (i) (by omega)
  obtain ⟨_, _, _, _, _, _, _, _, _, rfl, _, _, _, _, _, _, _, _, _⟩ := J0a.open_ hr15
  have hf := hg c (List.mem_of_getElem? hxc)
  have hfm := hf.mem.len
  have hfa := hf.nat
  refine qB (S.q.a hc15) [.x b15 p15,.f 0 0,.o 0] rfl ⟨rfl,rfl,⟨hA15,by omega⟩,⟨⟩⟩ (fun h22 => by exfalso; omega) fun h22 => ?_
  obtain ⟨_, b26, p26, _, hx26, hA26, _, _, hc26, hr26⟩ := RdS.get (hL) (i) (by omega)
  obtain rfl := Option.some.inj (hxc.symm.trans hx26)
  obtain ⟨_, _, _, _, _, _, _, _, _, rfl, _, _, _, _, _, _, _, _, _⟩ := J0a.open_ hr26
  refine qB (S.q.a hc26) [.x b26 p26,.f 0 1,.o 0] rfl ⟨rfl,rfl,⟨hA26,by omega⟩,⟨⟩⟩ (fun h33 => by exfalso; omega) fun h33 => ?_
  refine qD rfl ⟨⟩ ?_
  rintro wR4 ⟨SR4, _⟩
  refine lC0 rfl ⟨⟩ (wL (fun μt D ε w => D = [] ∧ ∃ t : Nat, (t + μt = (p.threads.length)) ∧ St [] w0 w [(some g2, 27, [.slice Ac nc cc, .slice Am nm cm, .slice Al nl cl, .slice At nt ct])] ∧ Sl ε [(1, .slice Ax nx cx), (2, .pointer (some ⟨g2, 0, none⟩)), (5, .int .i64 i), (6, .int .i64 t)]) (μ := (p.threads.length)) ⟨rfl, 0, by omega, SR4, rfl⟩ ?_)
  rintro μt D ε w ⟨rfl, t, _, S, eZ⟩
  refine wK eZ (wB S.k [.o 0] rfl ⟨rfl,⟨⟩⟩ (fun h39 => ?_) fun h39 => ?_)
  ·refine lC0 rfl ⟨⟩ (u0a b0a [0, 1, 2, 3, 4, 5, 6, 7, 8, 9, 10, 11, 12, 13, 14, 15, 16, 17, 18, 19, 20, 21, 22, 23, 24, 25] [] [] (by kernel_rfl) rfl (Cl _ _ _ _) (Cl.start S) ?_)
   obtain ⟨c, b44, p44, _, hxc, hA44, _, _, hc44, hr44⟩ := RdS.get (hL) (i) (by omega)
   obtain ⟨_, _, _, _, _, _, _, _, _, rfl, _, hAt44, _, _, _, _, _, _, _⟩ := J0a.open_ hr44
   have hf := hg c (List.mem_of_getElem? hxc)
   have hfa := hf.nat
   obtain ⟨x, b48, p48, _, hxx, hA48, _, _, hc48, hr48⟩ := RdS.get (hAt44) (t) (by omega)
   obtain ⟨rfl, _⟩ := id hr48
   have hx0 := hf.atr t x hxx _ (List.getElem?_eq_getElem (by omega))
   refine qB ((S.q.a hc48).a hc44) [.x b44 p44,.f 0 1,.x b48 p48,.f 1 0] rfl ⟨rfl,⟨hA48,by omega⟩,rfl,⟨hA44,by omega⟩,⟨⟩⟩ (fun h50 => by exfalso; omega) fun h50 => ?_
   obtain ⟨_, b54, p54, _, hx54, hA54, _, _, hc54, hr54⟩ := RdS.get (hL) (i) (by omega)
   obtain rfl := Option.some.inj (hxc.symm.trans hx54)
   obtain ⟨_, _, _, _, _, _, _, _, _, rfl, _, hAt54, _, _, _, _, _, _, _⟩ := J0a.open_ hr54
   obtain ⟨_, b58, p58, _, hx58, hA58, _, _, hc58, hr58⟩ := RdS.get (hAt54) (t) (by omega)
   obtain rfl := Option.some.inj (hxx.symm.trans hx58)
   obtain ⟨rfl, _⟩ := id hr58
   obtain ⟨th, b63, p63, _, hxth, hA63, _, _, hc63, hr63⟩ := RdS.get (hTh) (t) (by omega)
   obtain ⟨_, _, _, _, _, _, _, _, _, _, _, _, rfl, _, _, _, _, _, _, _, _, _, _, _, _, _⟩ := I0a.open_ hr63
   have hx := hf.atr t x hxx th hxth
   refine qB (((S.q.a hc63).a hc58).a hc54) [.x b54 p54,.f 0 1,.x b58 p58,.f 1 0,.o 0,.x b63 p63,.f 2 1] rfl ⟨rfl,⟨hA63,by omega⟩,rfl,rfl,⟨hA58,by omega⟩,rfl,⟨hA54,by omega⟩,⟨⟩⟩ (fun h66 => by exfalso; omega) fun h66 => ?_
   refine qD rfl ⟨⟩ ?_
   rintro wR9 ⟨SR9, _⟩
   refine lP0 rfl ⟨by omega,⟨⟩⟩ ⟨μt - 1, by omega, rfl, (t + 1), (by omega), SR9, rfl⟩
  refine lP0 rfl ⟨by omega,⟨⟩⟩ ⟨μi - 1, by omega, rfl, (i + 1), (by omega), S, rfl⟩
 exact lT rfl ⟨⟩ rfl ⟨rfl, S.fin⟩
end Go.Proofs.YtjjmdcnmeommbaaGreatDoor
namespace Go.Fw
open Go.RowKit
def C0c : List o0a := [⟨0, 0, 0⟩]
def c7c : List p4a := [⟨0, 3, 0, 0, 0⟩, ⟨0, 1, 0, 0, 1⟩]
theorem E6b : decide (s4a Z6a 0 C0c = c7c) = true := by kernel_rfl
theorem F0c : decide (T5b Z6a 0 C0c = 0) = true := by kernel_rfl
theorem p6b : decide (s4a Z6a 0 [] = []) = true := by kernel_rfl
theorem W9b : decide (T5b Z6a 0 [] = 0) = true := by kernel_rfl
end Go.Fw
namespace Go.Proofs.YtjjmdcnmeommbaaGreatDoor
open Go.Fw Go.RowKit
theorem s6b : decide (Y6a Z6a 1 C0c = (⟨0, 3, 0, 0, 0⟩, true)) = true := by kernel_rfl
theorem K4c (p : e0a) (M : List Nat) (w0 : World) (cs : List Value) (vr : Value) (hI : InP p M w0 cs) :
 R0a Tryz.prog 17 #[.agg cs.toArray, .int .i64 3, vr] w0 fun v w' => v = .tuple #[.slice none 0 0, .int .i64 1, .int .i64 0] ∧ Below w0.heap.size w0 w' := by
 obtain ⟨_, _, _, _, _, _, _, _, _, _, _, _, rfl, _, _, _, _, _, _, _, _, _, _, _, _⟩ := hI.rd.open_
 have hp := hI.ok
 have S := St.refl w0
 refine F6a Tryz.func17 rfl Tryz.ntmps17 rfl ?_
 refine m1a ?_
 refine y0a ?_
 refine m0a S (by conv => lhs; whnf) rfl ?_
 intro g3 w3 S3 X3 G3
 refine h0a S3 U7b rfl rfl ?_
 intro g6 w6 S6 X6 G6
 refine h0a S6 b4c rfl rfl ?_
 intro g7 w7 S7 X7 G7
 refine h0a S7 d8c rfl rfl ?_
 intro g8 w8 S8 X8 G8
 refine n0a ?_
 refine m1a ?_
 refine m1a ?_
 refine y0a ?_
 refine a1a Z3a rfl (S8.cells 3 rfl) rfl rfl ?_
 refine f0a S8 O5b rfl rfl (J6a p M _ _ (hI.keep (S8.keep0 M)).rd hI.ok (hI.keep (S8.keep0 M)).msk (hI.keep (S8.keep0 M)).lt) ?_
 intro w17 S17 X17
 refine B0a (by conv => lhs; whnf) rfl ?_
 refine O2a rfl rfl rfl ?_
 refine O2a rfl rfl rfl ?_
 refine O2a rfl rfl rfl ?_
 refine O0a (v := .int .i64 _) rfl rfl ?_
 refine O0a (v := .int .i64 _) rfl rfl ?_
 refine O0a (v := .int .i64 _) rfl rfl ?_
 refine n0a ?_
 refine m1a ?_
 refine y0a ?_
 refine B0a (v := .int .i64 _) rfl rfl ?_
 refine q9a rfl rfl rfl (fun h22 => ?_) fun h22 => ?_
 ·exfalso; omega
 refine n0a ?_
 refine r3a rfl ?_
 refine p3a ?_
 refine m1a ?_
 refine m1a ?_
 refine y0a ?_
 refine B0a (v := .int .i64 _) rfl rfl ?_
 refine q9a rfl rfl rfl (fun h24 => ?_) fun h24 => ?_
 ·refine B0a (v := .bool _) rfl rfl ?_
  refine I3a rfl rfl rfl ?_
  refine B0a (v := .int .i64 _) rfl rfl ?_
  refine I3a rfl rfl rfl ?_
  refine q9a rfl rfl rfl (fun h27 => ?_) fun h27 => ?_
  ·refine a4a rfl (v := .bool _) rfl rfl ?_
   refine B0a (v := .bool _) rfl rfl ?_
   refine I3a rfl rfl rfl ?_
   refine B0a (v := .int .i64 _) rfl rfl ?_
   refine I3a rfl rfl rfl ?_
   refine q9a rfl rfl rfl (fun h31 => ?_) fun h31 => ?_
   ·refine a4a rfl (v := .bool _) rfl rfl ?_
    refine n0a ?_
    refine u4a rfl ?_
    refine m1a ?_
    refine y0a ?_
    first | refine v0a (kk := 2) S17 b0b rfl (by conv => lhs; whnf) rfl rfl (by exact Nat.le_of_ble_eq_true rfl) ?_
    intro w5_0 S5_0 X5_0
    first | refine v0a (kk := 1) S5_0 U5a rfl (by conv => lhs; whnf) rfl rfl (by exact Nat.le_of_ble_eq_true rfl) ?_
    intro w5_1 S5_1 X5_1
    first | refine v0a (kk := 0) S5_1 q7a rfl (by conv => lhs; whnf) rfl rfl (by exact Nat.le_of_ble_eq_true rfl) ?_
    intro w5_2 S5_2 X5_2
    refine n0a ?_
    refine x5a ?_
    exact T2a rfl Z2a J1a A0a rfl rfl rfl [] rfl List.nodup_nil NC.nil (S5_2.blk 2 rfl) (S5_2.blk 1 rfl) (S5_2.blk 0 rfl) rfl rfl rfl (fun w' hb => ⟨rfl, (S5_2.below.trans hb).nil⟩)
   exfalso; omega
  exfalso; omega
 exfalso; omega
theorem m6b (p : e0a) (M : List Nat) (w0 : World) (cs : List Value) (vr : Value) (hI : InP p M w0 cs) :
 R0a Tryz.prog 15 #[.agg cs.toArray, .int .i64 3, vr] w0 fun v w' => v = .tuple #[.slice none 0 0, .int .i64 1] ∧ Below w0.heap.size w0 w' := by
 obtain ⟨_, _, _, _, _, _, _, _, _, _, _, _, rfl, _, _, _, _, _, _, _, _, _, _, _, _⟩ := hI.rd.open_
 have S := St.refl w0
 refine a0a Tryz.func15 rfl Tryz.ntmps15 rfl ?_
 refine wO0 rfl ⟨⟩ (m0a S (by conv => lhs; whnf) rfl ?_)
 intro g3 w3 S3 X3 G3
 refine lOn 8 S3.k [.w 0] rfl ⟨⟨rfl,rfl⟩,⟨⟩⟩ (B0a (by conv => lhs; whnf) rfl ?_)
 refine f0a S3 H5b rfl rfl (K4c p M _ _ _ (hI.keep (S3.keep0 M))) ?_
 intro w15 S15 X15
 refine lB0 rfl ⟨⟩ (fun h20 => ?_) (fun h20 => by exfalso; omega)
 refine lB0 rfl ⟨⟩ (fun h23 => ?_) (fun h23 => by exfalso; omega)
 refine lR0 rfl ⟨⟩ (M2a rfl (by conv => lhs; whnf) (by conv => lhs; whnf) ?_)
 exact ⟨rfl, S15.fin⟩
theorem s3b (w0 : World) (cs : List Value) (vr : Value) (hI : InP Z6a [] w0 cs) (hRun : C2b [] w0 vr C0c) :
 R0a Tryz.prog 15 #[.agg cs.toArray, .int .i64 0, vr] w0 fun v w' => (∃ A n c, v = .tuple #[.slice A n c, .int .i64 0] ∧ V6b [] w' (.slice A n c) c7c) ∧ Below w0.heap.size w0 w' :=
 R0a.mono (Q8a Z6a 0 (.inl rfl) C0c [] _ _ _ hI hRun (by decide)) fun v w' ⟨⟨vl, hv, hr⟩, hb⟩ => by
  obtain ⟨A, n, c, rfl⟩ := hr.form
  rw [of_decide_eq_true F0c] at hv
  rw [of_decide_eq_true E6b] at hr
  exact ⟨⟨A, n, c, hv, hr⟩, hb⟩
theorem h3b (w0 : World) (cs : List Value) (hI : InP Z6a [] w0 cs) :
 R0a Tryz.prog 15 #[.agg cs.toArray, .int .i64 0, .slice none 0 0] w0 fun v w' => (∃ A c, v = .tuple #[.slice A 0 c, .int .i64 0]) ∧ Below w0.heap.size w0 w' :=
 R0a.mono (Q8a Z6a 0 (.inl rfl) [] [] _ _ _ hI j2a (by decide)) fun v w' ⟨⟨vl, hv, hr⟩, hb⟩ => by
  obtain ⟨A, n, c, rfl⟩ := hr.form
  rw [of_decide_eq_true W9b] at hv
  rw [of_decide_eq_true p6b] at hr
  have h0 : n = 0 := hr.len.1
  subst h0
  exact ⟨⟨A, c, hv⟩, hb⟩
theorem j3b (w0 : World) (cs : List Value) (vr : Value) (hI : InP Z6a [] w0 cs) (hRun : C2b [] w0 vr C0c) :
 R0a Tryz.prog 22 #[.agg cs.toArray, .int .i64 1, vr] w0 fun v w' => v = .tuple #[.agg #[.int .i64 0, .int .i64 3, .int .i64 0, .int .i64 0, .int .i64 0], .bool true] ∧ Below w0.heap.size w0 w' :=
 R0a.mono (h7b Z6a 1 (.inr (.inl rfl)) C0c [] _ _ _ hI hRun (by decide)) fun v w' ⟨⟨vs, hv, hr⟩, hb⟩ => by
  rw [of_decide_eq_true s6b] at hv hr
  rw [hr.1] at hv
  exact ⟨hv, hb⟩
theorem I8b (w0 : World) (hK : e3a [] w0) :
 R0a Tryz.prog 13 #[] w0 fun v w' => v = .bool true ∧ Below w0.heap.size w0 w' := by
 have S := St.refl w0
 have i0 : i64 0 := by unfold i64; omega
 have i1 : i64 1 := by unfold i64; omega
 have i3 : i64 3 := by unfold i64; omega
 refine a0a Tryz.func13 rfl Tryz.ntmps13 rfl ?_
 refine wO0 rfl ⟨⟩ (M0a S v5b rfl rfl (p2b _) ?_)
 rintro v11 w11 ⟨_, rfl, hP⟩ S11 X11
 have KP := G0a.refl [] w11
 refine i1a H7b (vs := []) (cs := [_, _, _]) rfl rfl rfl rfl ?_
 refine H0a S11 v5a (vs := [.agg _]) (cs := [_, _, _]) (by rfl) rfl rfl rfl rfl rfl rfl ?_
 intro g13 w13 S13 X13 G13
 replace KP := KP.trans X13
 have hD : C2b [] w13 (.slice (some ⟨g13, 0, none⟩) 1 1) C0c := H1b (by simp) (S13.cells 0 rfl) rfl ⟨rfl, i0, i0, i0⟩
 refine M0a S13 u5b rfl rfl (s3b _ _ _ ⟨hP.keep KP, T0b, hK.keep (S13.keep0 []), by simp⟩ hD) ?_
 rintro v14 w14 ⟨_, _, _, rfl, hL⟩ S14 X14
 have KL := G0a.refl [] w14
 refine lO0 rfl ⟨⟩ (M0a S14 v5b rfl rfl (p2b _) ?_)
 rintro v18 w18 ⟨_, rfl, hQ⟩ S18 X18
 replace KL := KL.trans X18
 have KQ := G0a.refl [] w18
 refine i1a H7b (vs := []) (cs := [_, _, _]) rfl rfl rfl rfl ?_
 refine H0a S18 v5a (vs := [.agg _]) (cs := [_, _, _]) (by rfl) rfl rfl rfl rfl rfl rfl ?_
 intro g20 w20 S20 X20 G20
 replace KL := KL.trans X20
 replace KQ := KQ.trans X20
 have hD2 : C2b [] w20 (.slice (some ⟨g20, 0, none⟩) 1 1) C0c := H1b (by simp) (S20.cells 0 rfl) rfl ⟨rfl, i0, i0, i0⟩
 refine f0a S20 h7c rfl rfl (j3b _ _ _ ⟨hQ.keep KQ, T0b, hK.keep (S20.keep0 []), by simp⟩ hD2) ?_
 intro w21 S21 X21
 replace KL := KL.trans X21
 refine lO0 rfl ⟨⟩ (h0a S21 x6b rfl rfl ?_)
 intro g3 w3 S3 X3 G3
 have GKL3 := Nat.le_trans KL.size G3
 replace KL := KL.trans X3
 refine c0a (kk := 0) (vs := [_, _, _, _, _]) S3 q3b rfl rfl rfl rfl rfl rfl rfl ?_
 intro w2_8 S2_8 X2_8
 dsimp only [k0a, List.set] at S2_8
 replace KL := KL.fresh X2_8 (by exact GKL3)
 refine lO0 rfl ⟨⟩ (M0a S2_8 v5b rfl rfl (p2b _) ?_)
 rintro v25 w25 ⟨_, rfl, hR⟩ S25 X25
 replace KL := KL.trans X25
 refine M0a S25 u5b rfl rfl (h3b _ _ ⟨hR, T0b, hK.keep (S25.keep0 []), by simp⟩) ?_
 rintro v26 w26 ⟨_, _, rfl⟩ S26 X26
 replace KL := KL.trans X26
 refine lO0 rfl ⟨⟩ (M0a S26 v5b rfl rfl (p2b _) ?_)
 rintro v30 w30 ⟨cs, rfl, hT⟩ S30 X30
 replace KL := KL.trans X30
 refine f0a S30 u5b rfl rfl (m6b Z6a [] _ _ _ ⟨hT, T0b, hK.keep (S30.keep0 []), by simp⟩) ?_
 intro w31 S31 X31
 replace KL := KL.trans X31
 refine lO0 rfl ⟨⟩ (i1a a8a (vs := [(1, .int .i64 _)]) (cs := [_, _, _, _, _]) rfl rfl rfl rfl ?_)
 refine i1a a8a (vs := [(1, .int .i64 _), (4, .int .i64 _)]) (cs := [_, _, _, _, _]) rfl rfl rfl rfl ?_
 refine H0a S31 q2a (vs := [.agg _, .agg _]) (cs := [_, _, _, _, _, _, _, _, _, _]) (by rfl) rfl rfl rfl rfl rfl rfl ?_
 intro g36 w36 S36 X36 G36
 replace KL := KL.trans X36
 refine lC0 rfl ⟨⟩ (u0a b0a [0, 1, 2, 3, 4, 5, 6, 7, 8, 9, 10, 11, 12, 13, 14, 15, 16, 17, 18, 19, 20, 21, 22, 23, 24, 25, 26, 27, 28, 29, 30] [] [] (by kernel_rfl) rfl (Cl _ _ _ _) (Cl.start S36) ?_)
 refine qB0 rfl ⟨⟩ (fun h38 => ?_) (fun h38 => by exfalso; omega)
 refine qO0 rfl ⟨⟩ ?_
 have hB : V6b [] w36 (.slice (some ⟨g36, 0, none⟩) 2 2) c7c := t6c (c := [_, _, _, _, _]) (c2 := [_, _, _, _, _]) (by simp) (S36.cells 0 rfl) rfl rfl ⟨rfl, i0, i3, i0, i0, i0⟩ ⟨rfl, i0, i1, i0, i0, i1⟩
 refine T1a K6c rfl rfl (fun w1 S1 X1 => v2b (K6b c7c c7c [] _ _ _ (RdS.keepW (RdS.keepW hL KL (fun _ _ h => h)) X1 (fun _ _ h => h)) (RdS.keepW hB X1 (fun _ _ h => h))) (decide_eq_true rfl)) ?_
 refine qOn 2 S36.q [] rfl ⟨⟩ (u2a rfl rfl ?_)
 refine K1a (v := .bool true) rfl rfl ?_
 refine qO S36.q [.w 1,.i] rfl ⟨by omega,⟨rfl,by rfl⟩,⟨⟩⟩ (t3a t7a rfl (fun w1 hw => v1a.sub (hw.1.cells 0 rfl) 0 5) rfl rfl ?_)
 refine u2a rfl rfl ?_
 refine O5c G1c (a := ⟨0, 3, 0, 0, 0⟩) (b := ⟨0, 3, 0, 0, 0⟩) rfl rfl rfl (fun h52 => ?_) (fun h52 => absurd rfl h52)
 refine qB0 rfl ⟨⟩ (fun h57 => ?_) (fun h57 => by exfalso; omega)
 refine qB0 rfl ⟨⟩ (fun h61 => ?_) (fun h61 => by exfalso; omega)
 refine qB0 rfl ⟨⟩ (fun h65 => ?_) (fun h65 => by exfalso; omega)
 refine qD rfl ⟨⟩ ?_
 rintro wR6 ⟨SR6, _⟩
 exact lT rfl ⟨⟩ rfl ⟨rfl, SR6.fin⟩
end Go.Proofs.YtjjmdcnmeommbaaGreatDoor
namespace Go.Fw
open Go.RowKit
section
variable {p : e0a} {m : Int}
theorem X6b (hp : e1a p) {run : List o0a} (hlen : run.length ≤ 500) {i : Nat} (hi : i + 1 < (O1a p m run).length) {x : o0a} (hx : run[i]? = some x) : 0 ≤ x.thread ∧ x.thread < p.threads.length ∧ x.step < (i2a p x.thread.toNat).length := by
 have h := d6a (m := m) hp hlen (i + 1) hi
 have e : (i7a run (O1a p m run) (i + 1)).x = x := by
  unfold i7a
  rw [if_neg (by omega), Nat.add_sub_cancel]
  exact getD_some hx
 have ha : 0 ≤ (i7a run (O1a p m run) (i + 1)).at_ := by rw [d8b]; omega
 have h1 := h.t ha
 have h2 := h.s ha
 rw [e] at h1 h2
 omega
theorem h6c (hp : e1a p) {run : List o0a} (hlen : run.length ≤ 500) {v : p4a} (hv : v ∈ s4a p m run) : ∃ x c d, Blm p ⟨v.at_, x, c, d⟩ v ∧ D1b p ⟨v.at_, x, c, d⟩ ∧ (O1a p m run)[(v.at_ + 1).toNat]? = some d ∧
 (0 ≤ v.at_ → (O1a p m run)[v.at_.toNat]? = some c) ∧ (0 ≤ v.at_ → run[v.at_.toNat]? = some x) ∧ -1 ≤ v.at_ ∧ v.at_ + 1 < (O1a p m run).length := by
 obtain ⟨i, hi, _, hb⟩ := q4c hp (fun i hi => d6a hp hlen i hi) hv
 have ho := d6a (m := m) hp hlen i hi
 have hle := g4a p m run
 have he : i7a run (O1a p m run) i = ⟨v.at_, (i7a run (O1a p m run) i).x, (i7a run (O1a p m run) i).c, (i7a run (O1a p m run) i).d⟩ := by rw [hb.pl]
 have hd : (O1a p m run)[i]? = some (i7a run (O1a p m run) i).d := by
  rw [List.getElem?_eq_getElem hi]
  unfold i7a
  split
  ·rename_i h; subst h; exact congrArg some (getD_some (d := noC) (List.getElem?_eq_getElem hi)).symm
  ·exact congrArg some (getD_some (d := noC) (List.getElem?_eq_getElem hi)).symm
 refine ⟨_, _, _, he ▸ hb, he ▸ ho, by rw [show (v.at_ + 1).toNat = i by omega]; exact hd, fun h0 => ?_, fun h0 => ?_, by omega, by omega⟩
 ·have h1 : v.at_.toNat < (O1a p m run).length := by omega
  rw [List.getElem?_eq_getElem h1]
  unfold i7a
  rw [if_neg (by omega)]
  refine congrArg some (getD_some ?_).symm
  rw [show i - 1 = v.at_.toNat by omega]; exact List.getElem?_eq_getElem h1
 ·have h1 : v.at_.toNat < run.length := by omega
  rw [List.getElem?_eq_getElem h1]
  unfold i7a
  rw [if_neg (by omega)]
  refine congrArg some (getD_some ?_).symm
  rw [show i - 1 = v.at_.toNat by omega]; exact List.getElem?_eq_getElem h1
end
end Go.Fw
namespace Go.Proofs.YtjjmdcnmeommbaaGreatDoor
open Go.Fw Go.RowKit
theorem T8a (p : e0a) (m : Int) (hm : 0 ≤ m ∧ m ≤ 255) (run : List o0a) (w0 : World) (cs : List Value) (vr : Value) (hP : o1a [] w0 p cs) (hN : W4b p) (hRun : C2b [] w0 vr run) (hK : e3a [] w0) :
 R0a Tryz.prog 4 #[.agg cs.toArray, .int .u8 m, vr] w0 fun v w' => v = .bool true ∧ Below w0.heap.size w0 w' := by
 obtain ⟨Ac, nc, cc, Am, nm, cm, Al, nl, cl, At, nt, ct, rfl, _, _, _, _, _, _, _, _, _, _, _, _⟩ := hP.open_
 obtain ⟨Ar, nr, cr, rfl⟩ := hRun.form
 obtain ⟨_, _, _⟩ := hRun.len
 have S := St.refl w0
 refine a0a Tryz.func4 rfl Tryz.ntmps4 rfl ?_
 refine wO0 rfl ⟨⟩ (m0a S (by conv => lhs; whnf) rfl ?_)
 intro g3 w3 S3 X3 G3
 refine lO0 rfl ⟨⟩ (f0a S3 N6c rfl rfl (I8b _ (hK.keep (S3.keep0 []))) ?_)
 intro w16 S16 X16
 refine lO S16.k [.w 0] rfl ⟨⟨rfl,rfl⟩,⟨⟩⟩ (R7a S16 C6c rfl rfl (Z6b p [] _ _ (hP.keep (S16.keep0 [])) (by simp) hN) (fun h18 w18 S18 X18 => ?_) (fun w18 S18 X18 => ?_))
 ·refine lB0 rfl ⟨⟩ (fun h23 => ?_) fun h23 => ?_
  ·exact lT rfl ⟨⟩ rfl ⟨rfl, S18.fin⟩
  refine lO0 rfl ⟨⟩ (c8c rfl rfl (by omega) (by omega) rfl ?_)
  have hI : InP p [] w0 _ := ⟨hP, h18, hK, by simp⟩
  refine x7b Tryz.underlying5 Tryz.underlying3 rfl rfl ?_
  rw [k4a (by unfold i64; omega)]
  obtain ⟨k3, hk3⟩ : ∃ k, k = m % 3 := ⟨_, rfl⟩
  rw [← hk3]
  have hmk : k3 = 0 ∨ k3 = 1 ∨ k3 = 2 := by omega
  have hle := g4a p k3 run
  have hrl := a2b p k3 run
  obtain ⟨nn, hnn⟩ : ∃ nn, (O1a p k3 run).length = nn + 1 := ⟨(O1a p k3 run).length - 1, by omega⟩
  refine lO S18.k [.w 0] rfl ⟨⟨rfl,rfl⟩,⟨⟩⟩ (M0a S18 H5b rfl rfl (p8b p k3 hmk run [] _ _ _ (hI.keep (S18.keep0 [])) (hRun.keep (S18.keep0 [])) (by omega)) ?_)
  rintro v33 w33 ⟨_, rfl, hL⟩ S33 X33
  have KL := G0a.refl [] w33
  rw [show (((O1a p k3 run).length : Int) - 1) = (nn : Int) by omega]
  obtain ⟨Ax, nx, cx, rfl⟩ := hL.form
  obtain ⟨_, _, _⟩ := hL.len
  refine lO S33.k [.w 0] rfl ⟨⟨rfl,rfl⟩,⟨⟩⟩ (M0a S33 u5b rfl rfl (Q8a p k3 hmk run [] _ _ _ (hI.keep (S33.keep0 [])) (hRun.keep (S33.keep0 [])) (by omega)) ?_)
  rintro v41 w41 ⟨vs, rfl, hV⟩ S41 X41
  replace KL := KL.trans X41
  have KV := G0a.refl [] w41
  obtain ⟨Ay, ny, cy, rfl⟩ := hV.form
  obtain ⟨_, _, _⟩ := hV.len
  refine lB0 rfl ⟨by omega,⟨⟩⟩ (fun h48 => by exfalso; omega) fun h48 => ?_
  refine lB0 rfl ⟨⟩ (fun h51 => by exfalso; omega) fun h51 => ?_
  refine lB0 rfl ⟨⟩ (fun h57 => by exfalso; omega) fun h57 => ?_
  refine lO S41.k [.w 0] rfl ⟨⟨rfl,rfl⟩,⟨⟩⟩ (f0a S41 A6c rfl rfl (v2b (f4b p (O1a p k3 run) (fun c hc => (I1b (m := k3) h18 hc).1) [] _ _ _ (hI.keep (S41.keep0 [])) (RdS.keepW hL KL (F3a.keep KL))) rfl) ?_)
  intro w62 S62 X62
  replace KL := KL.trans X62
  replace KV := KV.trans X62
  refine lO S62.k [.w 0] rfl ⟨⟨rfl,rfl⟩,⟨⟩⟩ (f0a S62 g6c rfl rfl (E4b p run nn (by omega) (fun i x hi hx => X6b (m := k3) h18 (by omega) (by omega) hx) [] _ _ _ (hI.keep (S62.keep0 [])) (hRun.keep (S62.keep0 []))) ?_)
  intro w69 S69 X69
  replace KL := KL.trans X69
  replace KV := KV.trans X69
  refine lC0 rfl ⟨⟩ (wL (fun μi D ε w => D = [] ∧ ∃ i : Nat, (i + μi = ((s4a p k3 run).length)) ∧ (G0a [] w33 w) ∧ (G0a [] w41 w) ∧ St [] w0 w [(some g3, 27, [.slice Ac nc cc, .slice Am nm cm, .slice Al nl cl, .slice At nt ct])] ∧ Sl ε [(2, .slice Ar nr cr), (3, .pointer (some ⟨g3, 0, none⟩)), (7, .bool true), (9, .slice Ax nx cx), (11, .int .i64 nn), (12, .slice Ay ny cy), (14, .int .i64 i)]) (μ := ((s4a p k3 run).length)) ⟨rfl, 0, by omega, KL, KV, S69, rfl⟩ ?_)
  rintro μi D ε w ⟨rfl, i, hi, hKL, hKV, S, eZ⟩
  refine wK eZ (wB0 rfl ⟨⟩ (fun h75 => ?_) fun h75 => ?_)
  ·obtain ⟨x0, b80, p80, _, hxx0, hA80, _, hl80, hc80, hr80⟩ := RdS.get ((RdS.keepW hV hKV (fun _ _ h => h))) (i) (by omega)
   obtain ⟨rfl, j1, j2, j3, j4, j5⟩ := hr80
   obtain ⟨x, c, d, hB, hE, hd, hc, hx, _, _⟩ := h6c h18 (by omega) (List.mem_of_getElem? hxx0)
   have hmd := hB.mod
   refine lO (S.k.b hc80) [.x b80 p80,.v 0] rfl ⟨⟨rfl,hl80⟩,⟨hA80,by omega⟩,⟨⟩⟩ (h0a S x6b rfl rfl ?_)
   intro g15 w15 S15 X15 G15
   have GhKL15 := Nat.le_trans hKL.size G15
   have GhKV15 := Nat.le_trans hKV.size G15
   replace hKL := hKL.trans X15
   replace hKV := hKV.trans X15
   refine c0a (kk := 0) (vs := [_, _, _, _, _]) S15 q3b rfl rfl rfl rfl rfl rfl rfl ?_
   intro w12_5 S12_5 X12_5
   dsimp only [k0a, List.set] at S12_5
   replace hKL := hKL.fresh X12_5 (by exact GhKL15)
   replace hKV := hKV.fresh X12_5 (by exact GhKV15)
   refine lB S12_5.k [.o 0] rfl ⟨rfl,⟨⟩⟩ (fun h84 => by exfalso; omega) fun h84 => ?_
   refine lB S12_5.k [.o 0] rfl ⟨rfl,⟨⟩⟩ (fun h89 => by exfalso; omega) fun h89 => ?_
   refine lB S12_5.k [.o 0] rfl ⟨rfl,⟨⟩⟩ (fun h94 => by exfalso; omega) fun h94 => ?_
   refine lB S12_5.k [.o 0,.o 1] rfl ⟨rfl,rfl,⟨⟩⟩ (fun h102 => by exfalso; omega) fun h102 => ?_
   refine lO S12_5.k [.w 1,.w 0] rfl ⟨⟨rfl,by rfl⟩,⟨rfl,rfl⟩,⟨⟩⟩ (f0a S12_5 f6c rfl rfl (C4b p (O1a p k3 run) run x0 x c d hB hE hd hc hx [] _ _ _ _ _ (hI.keep (S12_5.keep0 [])) (RdS.keepW hL hKL (F3a.keep hKL)) (hRun.keep (S12_5.keep0 [])) ⟨rfl, j1, j2, j3, j4, j5⟩) ?_)
   intro w109 S109 X109
   replace hKL := hKL.trans X109
   replace hKV := hKV.trans X109
   refine lP0 rfl ⟨by omega,⟨⟩⟩ ⟨μi - 1, by omega, rfl, (i + 1), (by omega), (hKL), (hKV), S109.tail, rfl⟩
  exact lT rfl ⟨⟩ rfl ⟨rfl, S.fin⟩
 exact lT rfl ⟨⟩ rfl ⟨rfl, S18.fin⟩
end Go.Proofs.YtjjmdcnmeommbaaGreatDoor
