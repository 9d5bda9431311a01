/-
  Part 7 of 9 of the proof of InferFrames: what it leans on. No conditions.
-/
import Derived.Test.YtgjenhndpfcjkaaGreatDoorZInferFrames6
set_option maxRecDepth 100000
set_option maxHeartbeats 4000000
namespace Go.Proofs.YtgjenhndpfcjkaaGreatDoor
open Go.Fw Go.Proofs Go.RowKit Go.ChangeShapes Go.WideShapes Tryz
theorem y7a(os:Os)(a0:os.Started)(H:Type)(enc:TypeId×Value→H):
 ReturnsInHanded {} Tryz.checked os 6 .any (fun w args=>(Rows.inferFramesSpec.pre enc prog Tryz.f6 [] false w args∧laidMetH prog A7a w)∧sizedMet enc prog Tryz.f6 (OpenSpec.ofChange Rows.inferFramesSpec) false w args)
  (Rows.inferFramesSpec.post enc prog Tryz.f6 false true false false):=by
 refine returnsInHanded_of_change_and (C:=Tryz.checked) (X:=fun w _=>laidMetH prog A7a w) (fun _ _ _ hh h=>h.of_heap hh) own a0 (by kernel_rfl) func6
  (ChangeSpec.witness_shaped (enc:=enc) (C:=Tryz.checked) (os:=os) (X:=fun w _=>laidMetH prog A7a w) false (World.doorLaid prog 400 os)
    #[.agg #[.slice none 0 0,.slice none 0 0,.slice none 0 0,.slice none 0 0],.slice none 0 0] 8 Z
    (World.shaped_of_RefB (by kernel_rfl) (by kernel_rfl)) (by kernel_rfl) (by kernel_rfl) (by kernel_rfl) (R3c os _)) ?_
 intro W base args ds gs e0 d0 hW _ g0 hL _;have b0:∀(j:Nat) t v,Tryz.f6.params[j]?=some t→args[j]?=some v→Value.okWide prog W .any base t v:=d0;have j0:=hW;obtain⟨p,_,i0,hV,rfl,_⟩:=hW;have hA:DataW.TrodAll enc prog W 0 (fun _=>true) true Tryz.f6.params.toList args.toList ds p:=i0;obtain⟨rfl,rfl⟩:=trodVars_none hV;rw[Tryz.params6] at hA b0 g0;obtain⟨_,_,_,_,_,_,rfl,rfl,rfl,⟨_,t0⟩,⟨_,t1⟩⟩:=trodAll_two hA;obtain⟨_,rfl,-⟩:=okWide_struct Tryz.underlying27 (b0 0 _ _ Z Z);obtain⟨_,_,_,rfl⟩:=okWide_slice Tryz.underlying54 (b0 1 _ _ Z Z);obtain⟨c0,h0⟩:=b4b t0 (h8b g0 (j:=0) Z Z);obtain⟨c1,h1⟩:=M9b t1 (h8b g0 (j:=1) Z Z);refine J2b (n1b c0 c1 W _ _ h0.1 h0.2 (e3b hL) (K3b hL) h1) fun v m0 hr=>⟨v,Z,?_⟩
 obtain⟨rfl,hb⟩:=hr;exact k0c Z (by kernel_rfl) (by
  rw[Tryz.params6];intro t ht;have f0:([27,54].all fun u=>prog.readableRec u&&decide (u<prog.types.size))=true:=by kernel_rfl
  simpa using List.all_eq_true.1 f0 t ht) j0 Z Z Z hb
end Go.Proofs.YtgjenhndpfcjkaaGreatDoor
