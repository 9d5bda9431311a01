/-
  Part 6 of 8 of the proof of InterferePairs: what it leans on. No conditions.
-/
import Derived.Test.YtlegngbbcckmnaaGreatDoorZInterferePairs5
set_option maxRecDepth 100000
set_option maxHeartbeats 4000000
namespace Go.Proofs.YtlegngbbcckmnaaGreatDoor
open Go.Fw Go.Proofs Go.RowKit Go.ChangeShapes Go.WideShapes Tryz
theorem y5a(os:Os)(b0:os.Started)(H:Type)(enc:TypeId×Value→H):
 ReturnsInHanded {} Tryz.checked os 8 .any (fun w args=>(Rows.interferePairsSpec.pre enc prog Tryz.f8 [] false w args∧laidMetH prog q7a w)∧sizedMet enc prog Tryz.f8 (OpenSpec.ofChange Rows.interferePairsSpec) false w args)
  (Rows.interferePairsSpec.post enc prog Tryz.f8 false true false false):=by
 refine returnsInHanded_of_change_and (C:=Tryz.checked) (X:=fun w _=>laidMetH prog q7a w) (fun _ _ _ hh h=>h.of_heap hh) own b0 (by kernel_rfl) func8
  (ChangeSpec.witness_shaped (enc:=enc) (C:=Tryz.checked) (os:=os) (X:=fun w _=>laidMetH prog q7a w) false (World.doorLaid prog 400 os)
    #[.agg #[.slice none 0 0,.slice none 0 0,.slice none 0 0,.slice none 0 0],.slice none 0 0,.slice none 0 0] 8 Z
    (World.shaped_of_RefB (by kernel_rfl) (by kernel_rfl)) (by kernel_rfl) (by kernel_rfl) (by kernel_rfl) (N3c os _)) ?_
 intro W base args ds gs f0 d0 hW _ e0 hL _;have a0:∀(j:Nat) t v,Tryz.f8.params[j]?=some t→args[j]?=some v→Value.okWide prog W .any base t v:=d0;have j0:=hW;obtain⟨p,_,i0,hV,rfl,_⟩:=hW;have hA:DataW.TrodAll enc prog W 0 (fun _=>true) true Tryz.f8.params.toList args.toList ds p:=i0;obtain⟨rfl,rfl⟩:=trodVars_none hV;rw[Tryz.params8] at hA a0 e0;obtain⟨_,_,_,_,_,_,_,_,_,rfl,rfl,rfl,⟨_,t0⟩,⟨_,t1⟩,⟨_,t2⟩⟩:=trodAll_three hA;obtain⟨_,rfl,-⟩:=okWide_struct Tryz.underlying27 (a0 0 _ _ Z Z);obtain⟨_,_,_,rfl⟩:=okWide_slice Tryz.underlying28 (a0 1 _ _ Z Z);obtain⟨_,_,_,rfl⟩:=okWide_slice Tryz.underlying28 (a0 2 _ _ Z Z);obtain⟨c0,h0⟩:=W3b t0 (T2b e0 (j:=0) Z Z);obtain⟨c1,h1⟩:=Q4a t1 (T2b e0 (j:=1) Z Z);obtain⟨c2,h2⟩:=Q4a t2 (T2b e0 (j:=2) Z Z);refine d3b (V7a c0 c1 c2 W _ _ _ h0.1 h0.2 (S1b hL) (z2b hL) h1 h2) fun v m0 hr=>⟨v,Z,?_⟩
 obtain⟨rfl,hb⟩:=hr;exact E1c Z (by kernel_rfl) (by
  rw[Tryz.params8];intro t ht;have g0:([27,28,28].all fun u=>prog.readableRec u&&decide (u<prog.types.size))=true:=by kernel_rfl
  simpa using List.all_eq_true.1 g0 t ht) j0 Z Z Z hb
end Go.Proofs.YtlegngbbcckmnaaGreatDoor
