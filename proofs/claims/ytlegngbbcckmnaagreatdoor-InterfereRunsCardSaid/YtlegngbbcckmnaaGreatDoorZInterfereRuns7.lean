/-
  Part 7 of 9 of the proof of InterfereRuns: what it leans on. No conditions.
-/
import Derived.Test.YtlegngbbcckmnaaGreatDoorZInterfereRuns6
set_option maxRecDepth 100000
set_option maxHeartbeats 4000000
namespace Go.Proofs.YtlegngbbcckmnaaGreatDoor
open Go.Fw Go.Proofs Go.RowKit Go.ChangeShapes Go.WideShapes Tryz
theorem T6a(os:Os)(b0:os.Started)(H:Type)(enc:TypeId×Value→H):
 ReturnsInHanded {} Tryz.checked os 5 .any (fun w args=>(Rows.interfereRunsSpec.pre enc prog Tryz.f5 [] false w args∧laidMetH prog Z7a w)∧sizedMet enc prog Tryz.f5 (OpenSpec.ofChange Rows.interfereRunsSpec) false w args)
  (Rows.interfereRunsSpec.post enc prog Tryz.f5 false true false false):=by
 refine returnsInHanded_of_change_and (C:=Tryz.checked) (X:=fun w _=>laidMetH prog Z7a w) (fun _ _ _ hh h=>h.of_heap hh) own b0 (by kernel_rfl) func5
  (ChangeSpec.witness_shaped (enc:=enc) (C:=Tryz.checked) (os:=os) (X:=fun w _=>laidMetH prog Z7a w) false (World.doorLaid prog 400 os)
    #[.agg #[.slice none 0 0,.slice none 0 0,.slice none 0 0,.slice none 0 0],.slice none 0 0,.slice none 0 0,.int .u8 0,.int .u32 0] 8 Z
    (World.shaped_of_RefB (by kernel_rfl) (by kernel_rfl)) (by kernel_rfl) (by kernel_rfl) (by kernel_rfl) (S5c os _)) ?_
 intro W base args ds gs f0 d0 hW _ e0 hL _;have a0:∀(j:Nat) t v,Tryz.f5.params[j]?=some t→args[j]?=some v→Value.okWide prog W .any base t v:=d0;have j0:=hW;obtain⟨p,_,i0,hV,rfl,_⟩:=hW;have hA:DataW.TrodAll enc prog W 0 (fun _=>true) true Tryz.f5.params.toList args.toList ds p:=i0;obtain⟨rfl,rfl⟩:=trodVars_none hV;rw[Tryz.params5] at hA a0 e0;obtain⟨_,_,_,_,_,_,_,_,_,_,_,_,_,_,_,rfl,rfl,rfl,⟨_,t0⟩,⟨_,t1⟩,⟨_,t2⟩,⟨_,t3⟩,⟨_,t4⟩⟩:=q3d hA;obtain⟨_,rfl,-⟩:=okWide_struct Tryz.underlying27 (a0 0 _ _ Z Z);obtain⟨_,_,_,rfl⟩:=okWide_slice Tryz.underlying47 (a0 1 _ _ Z Z);obtain⟨_,_,_,rfl⟩:=okWide_slice Tryz.underlying47 (a0 2 _ _ Z Z);obtain⟨c3,rfl⟩:=okWide_int Tryz.underlying5 (a0 3 _ _ Z Z);obtain⟨c4,rfl⟩:=okWide_int Tryz.underlying67 (a0 4 _ _ Z Z);obtain⟨c0,h0⟩:=w4b t0 (y3b e0 (j:=0) Z Z);obtain⟨c1,h1⟩:=e2b t1 (y3b e0 (j:=1) Z Z);obtain⟨c2,h2⟩:=e2b t2 (y3b e0 (j:=2) Z Z);obtain⟨_,e3,-,w3⟩:=DataW.trod_int Tryz.underlying5 t3;cases e3;have h3:=s4d w3;obtain⟨_,e4,-,w4⟩:=DataW.trod_int Tryz.underlying67 t4;cases e4;have h4:=H2d w4;refine k3b (L9a c0 c1 c2 c3 c4 h3 h4 W _ _ _ h0.1 h0.2 (J3b hL) (Y2b hL) h1 h2) fun v m0 hr=>⟨v,Z,?_⟩
 obtain⟨rfl,hb⟩:=hr;exact Q2c Z (by kernel_rfl) (by
  rw[Tryz.params5];intro t ht;have g0:([27,47,47,5,67].all fun u=>prog.readableRec u&&decide (u<prog.types.size))=true:=by kernel_rfl
  simpa using List.all_eq_true.1 g0 t ht) j0 Z Z Z hb
end Go.Proofs.YtlegngbbcckmnaaGreatDoor
