/-
  Part 7 of 9 of the proof of InferFewer: what it leans on. No conditions.
-/
import Derived.Test.YtgjenhndpfcjkaaGreatDoorZInferFewer6
set_option maxRecDepth 100000
set_option maxHeartbeats 4000000
namespace Go.Proofs.YtgjenhndpfcjkaaGreatDoor
open Go.Fw Go.Proofs Go.RowKit Go.ChangeShapes Go.WideShapes Tryz
theorem T7a(os:Os)(a0:os.Started)(H:Type)(enc:TypeId×Value→H):
 ReturnsInHanded {} Tryz.checked os 5 .any (fun w args=>(Rows.inferFewerSpec.pre enc prog Tryz.f5 [] false w args∧laidMetH prog f7a w)∧sizedMet enc prog Tryz.f5 (OpenSpec.ofChange Rows.inferFewerSpec) false w args)
  (Rows.inferFewerSpec.post enc prog Tryz.f5 false true false false):=by
 refine returnsInHanded_of_change_and (C:=Tryz.checked) (X:=fun w _=>laidMetH prog f7a w) (fun _ _ _ hh h=>h.of_heap hh) own a0 (by kernel_rfl) func5
  (ChangeSpec.witness_shaped (enc:=enc) (C:=Tryz.checked) (os:=os) (X:=fun w _=>laidMetH prog f7a w) false (World.doorLaid prog 400 os)
    #[.agg #[.slice none 0 0,.slice none 0 0,.slice none 0 0,.slice none 0 0],.int .u8 0] 8 Z
    (World.shaped_of_RefB (by kernel_rfl) (by kernel_rfl)) (by kernel_rfl) (by kernel_rfl) (by kernel_rfl) (h3c os _)) ?_
 intro W base args ds gs e0 d0 hW _ g0 hL _;have b0:∀(j:Nat) t v,Tryz.f5.params[j]?=some t→args[j]?=some v→Value.okWide prog W .any base t v:=d0;have j0:=hW;obtain⟨p,_,i0,hV,rfl,_⟩:=hW;have hA:DataW.TrodAll enc prog W 0 (fun _=>true) true Tryz.f5.params.toList args.toList ds p:=i0;obtain⟨rfl,rfl⟩:=trodVars_none hV;rw[Tryz.params5] at hA b0 g0;obtain⟨_,_,_,_,_,_,rfl,rfl,rfl,⟨_,t0⟩,⟨_,t1⟩⟩:=trodAll_two hA;obtain⟨_,rfl,-⟩:=okWide_struct Tryz.underlying27 (b0 0 _ _ Z Z);obtain⟨c1,rfl⟩:=okWide_int Tryz.underlying5 (b0 1 _ _ Z Z);obtain⟨c0,h0⟩:=B4b t0 (Z3c g0 (j:=0) Z Z);obtain⟨_,e1,-,w1⟩:=DataW.trod_int Tryz.underlying5 t1;cases e1;have h1:=x3d w1;refine O2b (G2b c0 c1 h1 W _ h0.1 h0.2 (C2b hL) (L2b hL)) fun v m0 hr=>⟨v,Z,?_⟩
 obtain⟨rfl,hb⟩:=hr;exact d1c Z (by kernel_rfl) (by
  rw[Tryz.params5];intro t ht;have f0:([27,5].all fun u=>prog.readableRec u&&decide (u<prog.types.size))=true:=by kernel_rfl
  simpa using List.all_eq_true.1 f0 t ht) j0 Z Z Z hb
end Go.Proofs.YtgjenhndpfcjkaaGreatDoor
