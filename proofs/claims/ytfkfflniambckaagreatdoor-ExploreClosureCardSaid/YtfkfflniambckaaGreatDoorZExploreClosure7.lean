/-
  Part 7 of 9 of the proof of ExploreClosure: what it leans on. No conditions.
-/
import Derived.Test.YtfkfflniambckaaGreatDoorZExploreClosure6
set_option maxRecDepth 100000
set_option maxHeartbeats 4000000
namespace Go.Proofs.YtfkfflniambckaaGreatDoor
open Go.Fw Go.Proofs Go.RowKit Go.ChangeShapes Go.WideShapes
theorem v6a(os:Os)(a0:os.Started)(H:Type)(enc:TypeId×Value→H):
 ReturnsInHanded {} Tryz.checked os 3 .any (fun w args=>(Rows.exploreClosureSpec.pre enc Tryz.prog Tryz.f3 [] false w args∧laidMetH Tryz.prog C7a w)∧sizedMet enc Tryz.prog Tryz.f3 (OpenSpec.ofChange Rows.exploreClosureSpec) false w args)
  (Rows.exploreClosureSpec.post enc Tryz.prog Tryz.f3 false true false false):=by
 refine returnsInHanded_of_change_and (C:=Tryz.checked) (X:=fun w _=>laidMetH Tryz.prog C7a w) (fun _ _ _ hh h=>h.of_heap hh) own a0 (by kernel_rfl) Tryz.func3
  (ChangeSpec.witness_shaped (enc:=enc) (C:=Tryz.checked) (os:=os) (X:=fun w _=>laidMetH Tryz.prog C7a w) false (World.doorLaid Tryz.prog 400 os)
    #[.agg #[.slice none 0 0,.slice none 0 0,.slice none 0 0,.slice none 0 0],.int .u8 0] 8 rfl
    (World.shaped_of_RefB (by kernel_rfl) (by kernel_rfl)) (by kernel_rfl) (by kernel_rfl) (by kernel_rfl) (t4c os _)) ?_
 intro W base args ds gs e0 d0 hW _ g0 hL _;have b0:∀(j:Nat) t v,Tryz.f3.params[j]?=some t→args[j]?=some v→Value.okWide Tryz.prog W .any base t v:=d0;have j0:=hW;obtain⟨p,_,i0,hV,rfl,_,_⟩:=hW;have hA:DataW.TrodAll enc Tryz.prog W 0 (fun _=>true) true Tryz.f3.params.toList args.toList ds p:=i0;obtain⟨rfl,rfl⟩:=trodVars_none hV;rw[Tryz.params3] at hA b0 g0;obtain⟨_,_,_,_,_,_,rfl,rfl,rfl,⟨_,t0⟩,⟨_,t1⟩⟩:=trodAll_two hA;obtain⟨_,rfl,-⟩:=okWide_struct Tryz.underlying27 (b0 0 _ _ rfl rfl);obtain⟨c1,rfl⟩:=okWide_int Tryz.underlying5 (b0 1 _ _ rfl rfl);obtain⟨c0,h0⟩:=x3b t0 (a3c g0 (j:=0) rfl rfl);obtain⟨_,e1,-,w1⟩:=DataW.trod_int Tryz.underlying5 t1;cases e1;have h1:=p1d w1;refine E2b (b9a c0 c1 h1 W _ h0.1 h0.2 (c2b hL)) fun v n0 hr=>⟨v,rfl,?_⟩
 obtain⟨rfl,hb⟩:=hr;exact B9b rfl (by kernel_rfl) (by
  rw[Tryz.params3];intro t ht;have f0:([27,5].all fun u=>Tryz.prog.readableRec u&&decide (u<Tryz.prog.types.size))=true:=by kernel_rfl
  simpa using List.all_eq_true.1 f0 t ht) j0 rfl rfl rfl hb
end Go.Proofs.YtfkfflniambckaaGreatDoor
