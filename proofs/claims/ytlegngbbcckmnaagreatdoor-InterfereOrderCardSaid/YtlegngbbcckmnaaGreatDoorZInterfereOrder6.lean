/-
  Part 6 of 8 of the proof of InterfereOrder: what it leans on. No conditions.
-/
import Derived.Test.YtlegngbbcckmnaaGreatDoorZInterfereOrder5
set_option maxRecDepth 100000
set_option maxHeartbeats 4000000
namespace Go.Proofs.YtlegngbbcckmnaaGreatDoor
open Go.Fw Go.Proofs Go.RowKit Go.ChangeShapes Go.WideShapes Tryz
theorem y5a(os:Os)(b0:os.Started)(H:Type)(enc:TypeId×Value→H):
 ReturnsInHanded {} Tryz.checked os 6 .any (fun w args=>(Rows.interfereOrderSpec.pre enc prog Tryz.f6 [] false w args∧laidMetH prog r7a w)∧sizedMet enc prog Tryz.f6 (OpenSpec.ofChange Rows.interfereOrderSpec) false w args)
  (Rows.interfereOrderSpec.post enc prog Tryz.f6 false true false false):=by
 refine returnsInHanded_of_change_and (C:=Tryz.checked) (X:=fun w _=>laidMetH prog r7a w) (fun _ _ _ hh h=>h.of_heap hh) own b0 (by kernel_rfl) func6
  (ChangeSpec.witness_shaped (enc:=enc) (C:=Tryz.checked) (os:=os) (X:=fun w _=>laidMetH prog r7a w) false (World.doorLaid prog 400 os)
    #[.agg #[.slice none 0 0,.slice none 0 0,.slice none 0 0,.slice none 0 0],.int .u8 0,.int .u32 0,.int .u8 0] 8 Z
    (World.shaped_of_RefB (by kernel_rfl) (by kernel_rfl)) (by kernel_rfl) (by kernel_rfl) (by kernel_rfl) (K4c os _)) ?_
 intro W base args ds gs e0 d0 hW _ g0 hL _;have a0:∀(j:Nat) t v,Tryz.f6.params[j]?=some t→args[j]?=some v→Value.okWide prog W .any base t v:=d0;have j0:=hW;obtain⟨p,_,i0,hV,rfl,_⟩:=hW;have hA:DataW.TrodAll enc prog W 0 (fun _=>true) true Tryz.f6.params.toList args.toList ds p:=i0;obtain⟨rfl,rfl⟩:=trodVars_none hV;rw[Tryz.params6] at hA a0 g0;obtain⟨_,_,_,_,_,_,_,_,_,_,_,_,rfl,rfl,rfl,⟨_,t0⟩,⟨_,t1⟩,⟨_,t2⟩,⟨_,t3⟩⟩:=trodAll_four hA;obtain⟨_,rfl,-⟩:=okWide_struct Tryz.underlying27 (a0 0 _ _ Z Z);obtain⟨c1,rfl⟩:=okWide_int Tryz.underlying5 (a0 1 _ _ Z Z);obtain⟨c2,rfl⟩:=okWide_int Tryz.underlying67 (a0 2 _ _ Z Z);obtain⟨c3,rfl⟩:=okWide_int Tryz.underlying5 (a0 3 _ _ Z Z);obtain⟨c0,h0⟩:=y3b t0 (A3c g0 (j:=0) Z Z);obtain⟨_,e1,-,w1⟩:=DataW.trod_int Tryz.underlying5 t1;cases e1;have h1:=p0d w1;obtain⟨_,e2,-,w2⟩:=DataW.trod_int Tryz.underlying67 t2;cases e2;have h2:=m0d w2;obtain⟨_,e3,-,w3⟩:=DataW.trod_int Tryz.underlying5 t3;cases e3;have h3:=p0d w3;refine H1b (u8a c0 c1 c2 c3 h1 h2 h3 W _ h0.1 h0.2 (c2b hL) (J1b hL)) fun v m0 hr=>⟨v,Z,?_⟩
 obtain⟨rfl,hb⟩:=hr;exact Y1c Z (by kernel_rfl) (by
  rw[Tryz.params6];intro t ht;have f0:([27,5,67,5].all fun u=>prog.readableRec u&&decide (u<prog.types.size))=true:=by kernel_rfl
  simpa using List.all_eq_true.1 f0 t ht) j0 Z Z Z hb
end Go.Proofs.YtlegngbbcckmnaaGreatDoor
