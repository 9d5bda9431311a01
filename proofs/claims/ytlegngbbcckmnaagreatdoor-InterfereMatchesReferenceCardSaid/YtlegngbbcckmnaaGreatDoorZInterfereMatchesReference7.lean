/-
  Part 7 of 9 of the proof of InterfereMatchesReference: what it leans on. No conditions.
-/
import Derived.Test.YtlegngbbcckmnaaGreatDoorZInterfereMatchesReference6
set_option maxRecDepth 100000
set_option maxHeartbeats 4000000
namespace Go.Proofs.YtlegngbbcckmnaaGreatDoor
open Go.Fw Go.Proofs Go.RowKit Go.ChangeShapes Go.WideShapes Tryz
theorem t3a(os:Os)(b0:os.Started)(H:Type)(enc:TypeId×Value→H):
 ReturnsInHanded {} Tryz.checked os 3 .any (fun w args=>(Rows.interfereMatchesReferenceSpec.pre enc prog Tryz.f3 [] false w args∧laidMetH prog k8a w)∧sizedMet enc prog Tryz.f3 (OpenSpec.ofChange Rows.interfereMatchesReferenceSpec) false w args)
  (Rows.interfereMatchesReferenceSpec.post enc prog Tryz.f3 false true false false):=by
 refine returnsInHanded_of_change_and (C:=Tryz.checked) (X:=fun w _=>laidMetH prog k8a w) (fun _ _ _ hh h=>h.of_heap hh) own b0 (by kernel_rfl) func3
  (ChangeSpec.witness_shaped (enc:=enc) (C:=Tryz.checked) (os:=os) (X:=fun w _=>laidMetH prog k8a w) false (World.doorLaid prog 400 os)
    #[.agg #[.slice none 0 0,.slice none 0 0,.slice none 0 0,.slice none 0 0],.int .i64 0,.int .i64 0,.slice none 0 0] 8 Z
    (World.shaped_of_RefB (by kernel_rfl) (by kernel_rfl)) (by kernel_rfl) (by kernel_rfl) (by kernel_rfl) (U5c os _)) ?_
 intro W base args ds gs e0 d0 hW _ g0 hL _;have a0:∀(j:Nat) t v,Tryz.f3.params[j]?=some t→args[j]?=some v→Value.okWide prog W .any base t v:=d0;have j0:=hW;obtain⟨p,_,i0,hV,rfl,_⟩:=hW;have hA:DataW.TrodAll enc prog W 0 (fun _=>true) true Tryz.f3.params.toList args.toList ds p:=i0;obtain⟨rfl,rfl⟩:=trodVars_none hV;rw[Tryz.params3] at hA a0 g0;obtain⟨_,_,_,_,_,_,_,_,_,_,_,_,rfl,rfl,rfl,⟨_,t0⟩,⟨_,t1⟩,⟨_,t2⟩,⟨f3,t3⟩⟩:=trodAll_four hA;obtain⟨_,rfl,-⟩:=okWide_struct Tryz.underlying27 (a0 0 _ _ Z Z);obtain⟨c1,rfl⟩:=okWide_int Tryz.underlying3 (a0 1 _ _ Z Z);obtain⟨c2,rfl⟩:=okWide_int Tryz.underlying3 (a0 2 _ _ Z Z);obtain⟨_,_,_,rfl⟩:=okWide_slice Tryz.underlying28 (a0 3 _ _ Z Z);obtain⟨c0,h0⟩:=n5b t0 (k8b g0 (j:=0) Z Z);obtain⟨_,e1,-,w1⟩:=DataW.trod_int Tryz.underlying3 t1;cases e1;have h1:=e3a w1;obtain⟨_,e2,-,w2⟩:=DataW.trod_int Tryz.underlying3 t2;cases e2;have h2:=e3a w2;obtain⟨c3,h3⟩:=b7a t3 (k8b g0 (j:=3) Z Z);refine g3b (o4a c0 c1 c2 c3 W _ _ h0.1 h0.2 (Y2b hL) (a3b hL) h3) fun v m0 hr=>⟨v,Z,?_⟩
 obtain⟨rfl,hb⟩:=hr;exact S3c Z (by kernel_rfl) (by
  rw[Tryz.params3];intro t ht;have f0:([27,3,3,28].all fun u=>prog.readableRec u&&decide (u<prog.types.size))=true:=by kernel_rfl
  simpa using List.all_eq_true.1 f0 t ht) j0 Z Z Z hb
end Go.Proofs.YtlegngbbcckmnaaGreatDoor
