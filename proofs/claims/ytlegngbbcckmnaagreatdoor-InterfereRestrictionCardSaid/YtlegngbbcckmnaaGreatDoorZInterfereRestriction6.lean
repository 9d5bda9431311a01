/-
  Part 6 of 8 of the proof of InterfereRestriction: what it leans on. No conditions.
-/
import Derived.Test.YtlegngbbcckmnaaGreatDoorZInterfereRestriction5
set_option maxRecDepth 100000
set_option maxHeartbeats 4000000
namespace Go.Proofs.YtlegngbbcckmnaaGreatDoor
open Go.Fw Go.Proofs Go.RowKit Go.ChangeShapes Go.WideShapes Tryz
theorem h4a(os:Os)(b0:os.Started)(H:Type)(enc:TypeId×Value→H):
 ReturnsInHanded {} Tryz.checked os 9 .any (fun w args=>(Rows.interfereRestrictionSpec.pre enc prog Tryz.f9 [] false w args∧laidMetH prog e7a w)∧sizedMet enc prog Tryz.f9 (OpenSpec.ofChange Rows.interfereRestrictionSpec) false w args)
  (Rows.interfereRestrictionSpec.post enc prog Tryz.f9 false true false false):=by
 refine returnsInHanded_of_change_and (C:=Tryz.checked) (X:=fun w _=>laidMetH prog e7a w) (fun _ _ _ hh h=>h.of_heap hh) own b0 (by kernel_rfl) func9
  (ChangeSpec.witness_shaped (enc:=enc) (C:=Tryz.checked) (os:=os) (X:=fun w _=>laidMetH prog e7a w) false (World.doorLaid prog 400 os)
    #[.agg #[.slice none 0 0,.slice none 0 0,.slice none 0 0,.slice none 0 0],.int .u8 0,.int .u32 0,.int .u32 0] 8 Z
    (World.shaped_of_RefB (by kernel_rfl) (by kernel_rfl)) (by kernel_rfl) (by kernel_rfl) (by kernel_rfl) (f3c os _)) ?_
 intro W base args ds gs e0 d0 hW _ g0 hL _;have a0:∀(j:Nat) t v,Tryz.f9.params[j]?=some t→args[j]?=some v→Value.okWide prog W .any base t v:=d0;have j0:=hW;obtain⟨p,_,i0,hV,rfl,_⟩:=hW;have hA:DataW.TrodAll enc prog W 0 (fun _=>true) true Tryz.f9.params.toList args.toList ds p:=i0;obtain⟨rfl,rfl⟩:=trodVars_none hV;rw[Tryz.params9] at hA a0 g0;obtain⟨_,_,_,_,_,_,_,_,_,_,_,_,rfl,rfl,rfl,⟨_,t0⟩,⟨_,t1⟩,⟨_,t2⟩,⟨_,t3⟩⟩:=trodAll_four hA;obtain⟨_,rfl,-⟩:=okWide_struct Tryz.underlying27 (a0 0 _ _ Z Z);obtain⟨c1,rfl⟩:=okWide_int Tryz.underlying5 (a0 1 _ _ Z Z);obtain⟨c2,rfl⟩:=okWide_int Tryz.underlying67 (a0 2 _ _ Z Z);obtain⟨c3,rfl⟩:=okWide_int Tryz.underlying67 (a0 3 _ _ Z Z);obtain⟨c0,h0⟩:=u3b t0 (v2c g0 (j:=0) Z Z);obtain⟨_,e1,-,w1⟩:=DataW.trod_int Tryz.underlying5 t1;cases e1;have h1:=d2d w1;obtain⟨_,e2,-,w2⟩:=DataW.trod_int Tryz.underlying67 t2;cases e2;have h2:=k5c w2;obtain⟨_,e3,-,w3⟩:=DataW.trod_int Tryz.underlying67 t3;cases e3;have h3:=k5c w3;refine F2b (z5a c0 c1 c2 c3 h1 h2 h3 W _ h0.1 h0.2 (A1b hL) (E2b hL)) fun v m0 hr=>⟨v,Z,?_⟩
 obtain⟨rfl,hb⟩:=hr;exact m9b Z (by kernel_rfl) (by
  rw[Tryz.params9];intro t ht;have f0:([27,5,67,67].all fun u=>prog.readableRec u&&decide (u<prog.types.size))=true:=by kernel_rfl
  simpa using List.all_eq_true.1 f0 t ht) j0 Z Z Z hb
end Go.Proofs.YtlegngbbcckmnaaGreatDoor
