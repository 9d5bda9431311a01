/-
  Part 7 of 9 of the proof of InferIdle: what it leans on. No conditions.
-/
import Derived.Test.YtgjenhndpfcjkaaGreatDoorZInferIdle6
set_option maxRecDepth 100000
set_option maxHeartbeats 4000000
namespace Go.Proofs.YtgjenhndpfcjkaaGreatDoor
open Go.Fw Go.Proofs Go.RowKit Go.ChangeShapes Go.WideShapes Tryz
theorem S8a(os:Os)(a0:os.Started)(H:Type)(enc:TypeId×Value→H):
 ReturnsInHanded {} Tryz.checked os 7 .any (fun w args=>(Rows.inferIdleSpec.pre enc prog Tryz.f7 [] false w args∧laidMetH prog w7a w)∧sizedMet enc prog Tryz.f7 (OpenSpec.ofChange Rows.inferIdleSpec) false w args)
  (Rows.inferIdleSpec.post enc prog Tryz.f7 false true false false):=by
 refine returnsInHanded_of_change_and (C:=Tryz.checked) (X:=fun w _=>laidMetH prog w7a w) (fun _ _ _ hh h=>h.of_heap hh) own a0 (by kernel_rfl) func7
  (ChangeSpec.witness_shaped (enc:=enc) (C:=Tryz.checked) (os:=os) (X:=fun w _=>laidMetH prog w7a w) false (World.doorLaid prog 400 os)
    #[.agg #[.slice none 0 0,.slice none 0 0,.slice none 0 0,.slice none 0 0],.slice none 0 0] 8 Z
    (World.shaped_of_RefB (by kernel_rfl) (by kernel_rfl)) (by kernel_rfl) (by kernel_rfl) (by kernel_rfl) (t4c os _)) ?_
 intro W base args ds gs e0 d0 hW _ g0 hL _;have b0:∀(j:Nat) t v,Tryz.f7.params[j]?=some t→args[j]?=some v→Value.okWide prog W .any base t v:=d0;have j0:=hW;obtain⟨p,_,i0,hV,rfl,_⟩:=hW;have hA:DataW.TrodAll enc prog W 0 (fun _=>true) true Tryz.f7.params.toList args.toList ds p:=i0;obtain⟨rfl,rfl⟩:=trodVars_none hV;rw[Tryz.params7] at hA b0 g0;obtain⟨_,_,_,_,_,_,rfl,rfl,rfl,⟨_,t0⟩,⟨_,t1⟩⟩:=trodAll_two hA;obtain⟨_,rfl,-⟩:=okWide_struct Tryz.underlying27 (b0 0 _ _ Z Z);obtain⟨_,_,_,rfl⟩:=okWide_slice Tryz.underlying54 (b0 1 _ _ Z Z);obtain⟨c0,h0⟩:=F3b t0 (u7b g0 (j:=0) Z Z);obtain⟨c1,h1⟩:=y9b t1 (u7b g0 (j:=1) Z Z);refine g2b (d4b c0 c1 W _ _ h0.1 h0.2 (x2b hL) (g3b hL) h1) fun v m0 hr=>⟨v,Z,?_⟩
 obtain⟨rfl,hb⟩:=hr;exact k0c Z (by kernel_rfl) (by
  rw[Tryz.params7];intro t ht;have f0:([27,54].all fun u=>prog.readableRec u&&decide (u<prog.types.size))=true:=by kernel_rfl
  simpa using List.all_eq_true.1 f0 t ht) j0 Z Z Z hb
end Go.Proofs.YtgjenhndpfcjkaaGreatDoor
