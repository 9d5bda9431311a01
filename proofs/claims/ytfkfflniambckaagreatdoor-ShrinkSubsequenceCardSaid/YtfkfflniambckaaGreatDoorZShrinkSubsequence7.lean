/-
  Part 7 of 9 of the proof of ShrinkSubsequence: what it leans on. No conditions.
-/
import Derived.Test.YtfkfflniambckaaGreatDoorZShrinkSubsequence6
set_option maxRecDepth 100000
set_option maxHeartbeats 4000000
namespace Go.Proofs.YtfkfflniambckaaGreatDoor
open Go.Fw Go.Proofs Go.RowKit Go.ChangeShapes Go.WideShapes Tryz
theorem S5a(os:Os)(b0:os.Started)(H:Type)(enc:TypeId×Value→H):
 ReturnsInHanded {} Tryz.checked os 5 .any (fun w args=>(Rows.shrinkSubsequenceSpec.pre enc prog Tryz.f5 [] false w args∧laidMetH prog j8a w)∧sizedMet enc prog Tryz.f5 (OpenSpec.ofChange Rows.shrinkSubsequenceSpec) false w args)
  (Rows.shrinkSubsequenceSpec.post enc prog Tryz.f5 false true false false):=by
 refine returnsInHanded_of_change_and (C:=Tryz.checked) (X:=fun w _=>laidMetH prog j8a w) (fun _ _ _ hh h=>h.of_heap hh) own b0 (by kernel_rfl) func5
  (ChangeSpec.witness_shaped (enc:=enc) (C:=Tryz.checked) (os:=os) (X:=fun w _=>laidMetH prog j8a w) false (World.doorLaid prog 400 os)
    #[.agg #[.slice none 0 0,.slice none 0 0,.slice none 0 0,.slice none 0 0],.int .u8 0,.slice none 0 0] 8 Z
    (World.shaped_of_RefB (by kernel_rfl) (by kernel_rfl)) (by kernel_rfl) (by kernel_rfl) (by kernel_rfl) (i5c os _)) ?_
 intro W base args ds gs e0 d0 hW _ g0 hL _;have a0:∀(j:Nat) t v,Tryz.f5.params[j]?=some t→args[j]?=some v→Value.okWide prog W .any base t v:=d0;have j0:=hW;obtain⟨p,_,i0,hV,rfl,_⟩:=hW;have hA:DataW.TrodAll enc prog W 0 (fun _=>true) true Tryz.f5.params.toList args.toList ds p:=i0;obtain⟨rfl,rfl⟩:=trodVars_none hV;rw[Tryz.params5] at hA a0 g0;obtain⟨_,_,_,_,_,_,_,_,_,rfl,rfl,rfl,⟨_,t0⟩,⟨_,t1⟩,⟨_,t2⟩⟩:=trodAll_three hA;obtain⟨_,rfl,-⟩:=okWide_struct Tryz.underlying27 (a0 0 _ _ Z Z);obtain⟨c1,rfl⟩:=okWide_int Tryz.underlying5 (a0 1 _ _ Z Z);obtain⟨_,_,_,rfl⟩:=okWide_slice Tryz.underlying41 (a0 2 _ _ Z Z);obtain⟨c0,h0⟩:=u5b t0 (G8b g0 (j:=0) Z Z);obtain⟨_,e1,-,w1⟩:=DataW.trod_int Tryz.underlying5 t1;cases e1;have h1:=T2d w1;obtain⟨c2,h2⟩:=V4b t2 (G8b g0 (j:=2) Z Z);refine v3b (C7a c0 c1 h1 c2 W _ _ h0.1 h0.2 h2 (q3b hL)) fun v m0 hr=>⟨v,Z,?_⟩
 obtain⟨rfl,hb⟩:=hr;exact R0c Z (by kernel_rfl) (by
  rw[Tryz.params5];intro t ht;have f0:([27,5,41].all fun u=>prog.readableRec u&&decide (u<prog.types.size))=true:=by kernel_rfl
  simpa using List.all_eq_true.1 f0 t ht) j0 Z Z Z hb
end Go.Proofs.YtfkfflniambckaaGreatDoor
