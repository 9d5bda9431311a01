/-
  Part 1 of 9 of a proof: ExploreClosure of package relyguardlaw14 returns true for every input, and its arguments read as before.
  Conditions: those of the given row (the listed package variables as the program's text lays them).
-/
import Derived.RangeFuncIn
import Derived.RangeFuncLeaves
import Derived.RangeFuncSeq
import Derived.TacticsIn
import Derived.OrdersIn
import Derived.Below
import Derived.Laws.Entries
import Derived.Laws.Rows
import Derived.Laws.World
import Derived.Laws.Sem
import Derived.Laws.NewBlocks
import Derived.Deep.Draws
import Derived.Maps.AppendAt
import Derived.Laws.MakeOwn
import Derived.Lib.AppendZerosOnto
import Derived.Test.YtfkfflniambckaaGreatDoorRows
import Derived.RangeFuncRecord
set_option maxRecDepth 100000
set_option maxHeartbeats 4000000
namespace Go.Proofs.YtfkfflniambckaaGreatDoor
end Go.Proofs.YtfkfflniambckaaGreatDoor
namespace Go.Fw
open Go.Proofs.YtfkfflniambckaaGreatDoor Go.Proofs Go.RowKit
abbrev Env:=Nat→Value
def upd(e:Env)(d:Nat)(v:Value):Env:=fun i=>bif Nat.beq i d then v else e i
theorem j3a(e:Env)(d:Nat)(v:Value):upd e d v d=v:=by simp[upd]
theorem F1a(e:Env){d i:Nat}(v:Value)(h:i≠d):upd e d v i=e i:=by
 have:Nat.beq i d=false:=by
  cases hb:Nat.beq i d with
  | false=>rfl
  | true=>exact absurd (Nat.eq_of_beq_eq_true hb) h
 simp[upd,this]
theorem I9a(e:Env){d:Nat}{v:Value}(h:e d=v):upd e d v=e:=by
 funext i
 by_cases hi:i=d
 ·subst hi;rw[j3a,h]
 ·rw[F1a _ _ hi]
def ev(e:Env):Operand→Value
 | .tmp t=>e t
 | .const v=>v
 | .global g=>.pointer (some ⟨g,0,none⟩)
 | .func f=>.func (.func f) #[] #[]
def W0a(a:Act):Env:=fun i=>a.tmps.getD i undef
theorem v2a(a:Act):a.eval=ev (W0a a):=by
 funext x;cases x<;>rfl
theorem e1a{a:Act}{d:Nat}(v:Value)(h:d<a.tmps.size):W0a (a.put (some d) v)=upd (W0a a) d v:=by
 funext i
 by_cases hi:i=d
 ·subst hi;simp[W0a,Act.put,j3a,h]
 ·have a0:d≠i:=fun e=>hi e.symm;simp[W0a,Act.put,F1a _ _ hi,Array.getElem?_setIfInBounds_ne a0]
structure K4b where
 norm:List Deferred→Env→World→Prop
 brk:Nat→List Deferred→Env→World→Prop
 ret:List Deferred→Env→World→Prop
def K4b.post(N:Nat)(k:K4b):Exit→Act→World→Prop
 | .normal,a,w=>a.tmps.size=N∧k.norm a.defers (W0a a) w
 | .exit id,a,w=>a.tmps.size=N∧k.brk id a.defers (W0a a) w
 | .ret,a,w=>a.tmps.size=N∧k.ret a.defers (W0a a) w
 | _,_,_=>False
def fc(r:Option Nat):Fence:={ Fence.wide with round:=r }
@[irreducible] def W(P:Program)(r:Option Nat)(N:Nat)(c:Code)(k:K4b)(D:List Deferred)(e:Env)(w:World):Prop :=
 ∀a:Act,a.tmps.size=N→a.defers=D→W0a a=e→c.wpIn (fc r) 0 P (k.post N) a w
@[irreducible] def WL(P:Program)(r:Option Nat)(N:Nat)(ops:Array Oper)(l:List Oper)(k:List Deferred→Env→World→Prop)(D:List Deferred)(e:Env)(w:World):Prop :=
 ∀(a:Act) (Q:Exit→Act→World→Prop),a.tmps.size=N→a.defers=D→W0a a=e →
  (∀a' w',a'.tmps.size=N→k a'.defers (W0a a') w'→Q .normal a' w')→wpListIn (fc r) 0 P ops Q l a w
section
variable {P:Program} {r:Option Nat} {N:Nat} {n t:List Deferred→Env→World→Prop} {b:Nat→List Deferred→Env→World→Prop} {D:List Deferred} {e:Env} {w:World}
theorem j9c(h:n D e w):W P r N .skip ⟨n,b,t⟩ D e w:=by
 unfold W;intro a hs hd he;subst hd he;exact wpIn_skip ⟨hs,h⟩
theorem k7c{l:Nat}(h:n D e w):W P r N (.label l) ⟨n,b,t⟩ D e w:=by
 unfold W;intro a hs hd he;subst hd he;exact wpIn_label ⟨hs,h⟩
theorem H0d(h:t D e w):W P r N .ret ⟨n,b,t⟩ D e w:=by
 unfold W;intro a hs hd he;subst hd he;exact wpIn_ret ⟨hs,h⟩
theorem b9c{id:Nat}(h:b id D e w):W P r N (.exit id) ⟨n,b,t⟩ D e w:=by
 unfold W;intro a hs hd he;subst hd he;exact wpIn_exit ⟨hs,h⟩
theorem a5c{c:Code}{k k':K4b}(h:W P r N c k' D e w)(hn:∀D e w,k'.norm D e w→k.norm D e w)(hb:∀i D e w,k'.brk i D e w→k.brk i D e w)
 (hr:∀D e w,k'.ret D e w→k.ret D e w):W P r N c k D e w:=by
 unfold W at *;intro a hs hd he;refine wpIn_mono (h a hs hd he) fun ex a w hq=>?_;cases ex<;>first|exact hq.elim|exact⟨hq.1,hn _ _ _ hq.2⟩|exact⟨hq.1,hb _ _ _ _ hq.2⟩|exact⟨hq.1,hr _ _ _ hq.2⟩
theorem I5c{x y:Code}(h:W P r N x ⟨fun D e w=>W P r N y ⟨n,b,t⟩ D e w,b,t⟩ D e w):W P r N (.seq x y) ⟨n,b,t⟩ D e w:=by
 unfold W at h ⊢;intro a hs hd he;refine wpIn_seq (wpIn_mono (h a hs hd he) fun ex a w hq=>?_);cases ex with
 | normal=>obtain⟨a0,hq⟩:=hq;exact hq a a0 rfl rfl
 | exit id=>exact hq
 | ret=>exact hq
 | goto l=>exact hq
 | panic c=>exact hq
 | outgrown=>exact hq
theorem U9c{x y:Code}(I:List Deferred→Env→World→Prop)(h:W P r N x ⟨I,b,t⟩ D e w)(h':∀D e w,I D e w→W P r N y ⟨n,b,t⟩ D e w):W P r N (.seq x y) ⟨n,b,t⟩ D e w :=
 I5c (a5c h h' (fun _ _ _ _ h=>h) (fun _ _ _ h=>h))
theorem E1d{c:Operand}{x y:Code}{k:K4b}{z:Bool}(hc:ev e c=.bool z)(h:W P r N (bif z then x else y) k D e w):W P r N (.cond c x y) k D e w:=by
 unfold W at *;intro a hs hd he;refine wpIn_cond (t:=z) (by rw[v2a,he,hc]) ?_;cases z<;>exact h a hs hd he
theorem i0d{c:Operand}{x y:Code}{k:K4b}(hc:ev e c=.bool true)(h:W P r N x k D e w):W P r N (.cond c x y) k D e w:=E1d hc h
theorem N8c{c:Operand}{x y:Code}{k:K4b}(hc:ev e c=.bool false)(h:W P r N y k D e w):W P r N (.cond c x y) k D e w:=E1d hc h
def E3b(id:Nat)(n:List Deferred→Env→World→Prop)(b:Nat→List Deferred→Env→World→Prop):Nat→List Deferred→Env→World→Prop :=
 fun i=>if i=id then n else b i
theorem t7c{id:Nat}{c:Code}(h:W P r N c ⟨n,E3b id n b,t⟩ D e w):W P r N (.block id c) ⟨n,b,t⟩ D e w:=by
 unfold W at *;intro a hs hd he;refine wpIn_block (wpIn_mono (h a hs hd he) fun ex a w hq=>?_);cases ex with
 | exit i =>
   show(if i=id then _ else _)
   by_cases hi:i=id
   ·rw[if_pos hi];obtain⟨h1,h2⟩:=hq;refine⟨h1,?_⟩;simpa[E3b,hi] using h2
   ·rw[if_neg hi];obtain⟨h1,h2⟩:=hq;refine⟨h1,?_⟩;simpa[E3b,hi] using h2
 | normal=>exact hq
 | ret=>exact hq
 | goto l=>exact hq
 | panic c=>exact hq
 | outgrown=>exact hq
theorem C8b{id:Nat}{n:List Deferred→Env→World→Prop}{b:Nat→List Deferred→Env→World→Prop}(h:n D e w):E3b id n b id D e w:=by
 simpa[E3b] using h
theorem T9b{id a0:Nat}{n:List Deferred→Env→World→Prop}{b:Nat→List Deferred→Env→World→Prop}(b0:Nat.beq id a0=false)(h:b id D e w):E3b a0 n b id D e w:=by
 have:id≠a0:=fun h=>by subst h;simp at b0
 simpa[E3b,this] using h
end
theorem u6a{p:Nat→Prop}(h:∃n,p n):∃n,p n∧∀m,p m→n≤m:=by
 obtain⟨n,hn⟩:=h
 induction n using Nat.strongRecOn with
 | _ n ih =>
   by_cases hm:∃m,m<n∧p m
   ·obtain⟨m,a0,hp⟩:=hm;exact ih m a0 hp
   ·exact⟨n,hn,fun m hp=>Nat.le_of_not_lt fun a0=>hm ⟨m,a0,hp⟩⟩
open Classical in
noncomputable def leastOf(p:Nat→Prop):Nat:=if h:∃n,p n then Classical.choose (u6a h) else 0
theorem v9a{p:Nat→Prop}(h:∃n,p n):p (leastOf p)∧∀m,p m→leastOf p≤m:=by
 unfold leastOf;rw[dif_pos h];exact Classical.choose_spec (u6a h)
section
variable {P:Program} {r:Option Nat} {N:Nat} {k:K4b} {D:List Deferred} {e:Env} {w:World}
theorem T9c{c:Code}{n t:List Deferred→Env→World→Prop}{b:Nat→List Deferred→Env→World→Prop}(I:Nat→List Deferred→Env→World→Prop){μ:Nat}(h0:I μ D e w)
 (a0:∀μ D e w,I μ D e w→W P r N c ⟨fun D' e' w'=>∃m,m<μ∧I m D' e' w',b,t⟩ D e w):W P r N (.loop c) ⟨n,b,t⟩ D e w:=by
 unfold W at *;intro a hs hd he;subst hd he;refine wpIn_loop (fun a w=>a.tmps.size=N∧∃n,I n a.defers (W0a a) w) (fun a w=>leastOf fun n=>I n a.defers (W0a a) w) ⟨hs,μ,h0⟩ ?_;rintro a w ⟨hs,hI⟩;obtain⟨h1,_⟩:=v9a hI;refine wpIn_mono (a0 _ a.defers (W0a a) w h1 a hs rfl rfl) fun ex a' w' hq=>?_;cases ex with
 | normal =>
   obtain⟨d0,m,hm,b0⟩:=hq;exact⟨⟨d0,m,b0⟩,Nat.lt_of_le_of_lt ((v9a ⟨m,b0⟩).2 m b0) hm⟩
 | exit id=>exact hq
 | ret=>exact hq
 | goto l=>exact hq
 | panic c=>exact hq
 | outgrown=>exact hq
theorem r0a{c:Code}(i:Nat){v:Value}(hi:e i=v)(h:W P r N c k D (upd e i v) w):W P r N c k D e w:=by
 rwa [I9a e hi] at h
theorem G3c{id:Nat}{l:List Oper}{n t:List Deferred→Env→World→Prop}{b:Nat→List Deferred→Env→World→Prop}(h:WL P r N l.toArray l n D e w):W P r N (.region id l.toArray false) ⟨n,b,t⟩ D e w:=by
 unfold W WL at *;intro a hs hd he;exact wpIn_region_lit (h a _ hs hd he fun a' w' a0 hk=>⟨a0,hk⟩)
variable {ops:Array Oper} {rest:List Oper} {K:List Deferred→Env→World→Prop}
theorem L0a(h:K D e w):WL P r N ops [] K D e w:=by
 unfold WL;intro a Q hs hd he hK;subst hd he;exact hK a w hs h
theorem D0a(o:Oper)(w:World)(ρ:Operand→Value):∀f,o.about P w ρ=some f→(fc r).fn f:=fun _ _=>trivial
theorem k1a{o:Oper}{d:Nat}{v:Value}{w':World}(hg:o.guard=none)(b0:o.dst=some d)(hd:Nat.ble (d+1) N=true)(a0:∀c,o.op≠.defer c)
 (e0:(execOp (ev e) o).run P w=.ok (.value v) w') (h:WL P r N ops rest K D (upd e d v) w'):WL P r N ops (o::rest) K D e w:=by
 unfold WL at *;intro a Q hs f0 he hK;have g0:d<a.tmps.size:=by rw[hs];exact Nat.le_of_ble_eq_true hd
 have d0:=h (a.put (some d) v) Q (by simp[Act.put,hs]) (by simp[Act.put,f0]) (by rw[e1a v g0,he]) hK;simp only[wpListIn,Region.wanted,hg,if_true];refine⟨D0a o w _,?_⟩;have:Oper.semAt (fc r).round a.eval o=execOp (ev e) o:=by rw[Oper.semAt_eq _ _ _ a0,v2a,he]
 rw[this,e0,Oper.uponIn_value,b0];exact d0
theorem G5b{o:Oper}{w':World}(hg:o.guard=none)(b0:o.dst=none)(a0:∀c,o.op≠.defer c)
 (e0:(execOp (ev e) o).run P w=.ok .skip w') (h:WL P r N ops rest K D e w'):WL P r N ops (o::rest) K D e w:=by
 unfold WL at *;intro a Q hs f0 he hK;have d0:=h a Q hs f0 he hK;simp only[wpListIn,Region.wanted,hg,if_true];refine⟨D0a o w _,?_⟩;have:Oper.semAt (fc r).round a.eval o=execOp (ev e) o:=by rw[Oper.semAt_eq _ _ _ a0,v2a,he]
 rw[this,e0,Oper.uponIn_skip,b0];exact d0
def M0a(P:Program)(f:FuncId)(args:Array Value)(w:World)(R:Value→World→Prop):Prop :=
 Calls P f args w fun en w'=>∃v,en=.returned v∧R v w'
theorem M0a.mono{f:FuncId}{args:Array Value}{R R':Value→World→Prop}(h:M0a P f args w R)(hr:∀v w',R v w'→R' v w'):M0a P f args w R' :=
 Calls.mono h fun _ _ ⟨v,he,hv⟩=>⟨v,he,hr v _ hv⟩
theorem u5a{f:FuncId}{args:Array Value}{n:Nat}{R:Ending→World→Prop}(h:Calls P f args w R):CallsIn (fc r) n P f args w R :=
 ⟨trivial,fun cs _=>(callsIn_wide (n:=0).2 h).2 cs (room_wide _)⟩
theorem D5b{o:Oper}{d:Nat}{f:FuncId}{args:Array Value}{R:Value→World→Prop}(hg:o.guard=none)(b0:o.dst=some d)(hd:Nat.ble (d+1) N=true)(a0:∀c,o.op≠.defer c)
 (d0:(execOp (ev e) o).run P w=.ok (.enter f args) w) (hc:M0a P f args w R) (h:∀v w',R v w'→WL P r N ops rest K D (upd e d v) w'):WL P r N ops (o::rest) K D e w:=by
 unfold WL at *;intro a Q hs e0 he hK;have f0:d<a.tmps.size:=by rw[hs];exact Nat.le_of_ble_eq_true hd
 simp only[wpListIn,Region.wanted,hg,if_true];refine⟨D0a o w _,?_⟩;have:Oper.semAt (fc r).round a.eval o=execOp (ev e) o:=by rw[Oper.semAt_eq _ _ _ a0,v2a,he]
 rw[this,d0,Oper.uponIn_enter];refine⟨fun hh=>by simp[fc,Fence.wide] at hh,u5a (Calls.mono hc ?_)⟩;rintro en w' ⟨v,rfl,hv⟩;rw[b0];exact h v w' hv (a.put (some d) v) Q (by simp[Act.put,hs]) (by simp[Act.put,e0]) (by rw[e1a v f0,he]) hK
def isB(want:Bool):Value→Bool
 | .bool b=>b==want
 | _=>false
theorem C5b{a:Act}{j s:Nat}(hs:(ops[j]?).bind (·.dst)=some s)(a0:Bool)(b0:s<a.tmps.size):(yielded ops a.tmps j==some a0)=isB a0 (W0a a s):=by
 unfold yielded W0a;rw[hs];simp only[Option.bind_some,Array.getD_eq_getD_getElem?];rw[Array.getElem?_eq_getElem b0];simp only[Option.getD_some];cases a.tmps[s]<;>simp[isB]
theorem s6b{d:Option Nat}{op:Op}{t:TypeId}{p:String}{af:Array Edge}{j s:Nat}{a0:Bool}(hs:(ops[j]?).bind (·.dst)=some s)(e0:Nat.ble (s+1) N=true)
 (hb:isB a0 (e s)=true) (h:WL P r N ops (⟨d,op,t,p,af,none⟩::rest) K D e w):WL P r N ops (⟨d,op,t,p,af,some (j,a0)⟩::rest) K D e w:=by
 unfold WL at *;intro a Q b0 d0 he hK;have hh:=h a Q b0 d0 he hK;have hw:Region.wanted ⟨d,op,t,p,af,some (j,a0)⟩ (yielded ops a.tmps)=true:=by
  simp only[Region.wanted];rw[C5b hs a0 (by rw[b0];exact Nat.le_of_ble_eq_true e0),he];exact hb
 simp only[wpListIn,hw,if_true];simp only[wpListIn,Region.wanted,if_true] at hh;exact hh
def V9a(args:Array Value):Env:=fun i=>args.getD i undef
theorem g0b(args:Array Value)(m:Nat):W0a { tmps:=args++Array.replicate m undef,defers:=[] }=V9a args:=by
 funext i
 simp only[W0a,V9a,Array.getD_eq_getD_getElem?];rw[Array.getElem?_append]
 split
 ·rfl
 ·rename_i h;rw[Array.getElem?_eq_none (xs:=args) (by omega)];simp only[Array.getElem?_replicate]
  split<;>rfl
def c4a(P:Program)(fn:Func)(R:Value→World→Prop)(D:List Deferred)(e:Env)(w:World):Prop :=
 D=[]∧∀tmps:Array Value,W0a { tmps,defers:=[] }=e→∃v,(results fn tmps).run P w=.ok v w∧R v w
theorem z8b{f:FuncId}{fn:Func}{c:Code}{args:Array Value}{R:Value→World→Prop}(hf:P.funcs[f]?=some fn)(hb:fn.body=some c)(hN:fn.ntmps=N)(a0:Nat.ble args.size N=true)
 (h:W P none N c ⟨c4a P fn R,fun _ _ _ _=>False,c4a P fn R⟩ [] (V9a args) w):M0a P f args w R:=by
 subst hN;unfold W at h;have b0:(args++Array.replicate (fn.ntmps-args.size) undef).size=fn.ntmps:=by
  have:=Nat.le_of_ble_eq_true a0;simp;omega
 have h1:=h { tmps:=args++Array.replicate (fn.ntmps-args.size) undef,defers:=[] } b0 rfl (g0b _ _);refine callsIn_wide (n:=0).1 (callsIn_of_wp hf hb trivial (wpIn_mono h1 fun ex a w hq=>?_));cases ex with
 | normal=>obtain⟨_,hD,hq⟩:=hq;obtain⟨v,h1,h2⟩:=hq a.tmps rfl;exact⟨hD,v,h1,v,rfl,h2⟩
 | ret=>obtain⟨_,hD,hq⟩:=hq;obtain⟨v,h1,h2⟩:=hq a.tmps rfl;exact⟨hD,v,h1,v,rfl,h2⟩
 | exit id=>exact hq.2
 | goto l=>exact hq
 | panic c=>exact hq.elim
 | outgrown=>exact hq.elim
theorem T1a{fn:Func}{R:Value→World→Prop}(h:fn.results=#[])(hR:R (.tuple #[]) w):c4a P fn R [] e w :=
 ⟨rfl,fun tmps he=>⟨_,by simp[results,h],hR⟩⟩
theorem o0a{fn:Func}{R:Value→World→Prop}{t:Nat}(h:fn.results=#[.tmp t]){v:Value}(hv:e t=v)(hR:R v w):c4a P fn R [] e w :=
 ⟨rfl,fun tmps he=>by subst he;subst hv;exact⟨_,by simp[results,h];rfl,by simpa[W0a] using hR⟩⟩
theorem d4b{fn:Func}{R:Value→World→Prop}{t u:Nat}(h:fn.results=#[.tmp t,.tmp u]){v v':Value}(hv:e t=v)(a0:e u=v')(hR:R (.tuple #[v,v']) w):c4a P fn R [] e w :=
 ⟨rfl,fun tmps he=>by subst he;subst hv;subst a0;exact⟨_,by simp[results,h];rfl,by simpa[W0a] using hR⟩⟩
end
abbrev Blk:=Nat×TypeId×List Value
def p0a(w:World)(b:Blk):Prop:=w.heap[b.1]?=some (.cells b.2.2.toArray b.2.1 (0,0))
abbrev Ent:=Option Nat×TypeId×List Value
structure F0a (M:List Nat) (w w':World):Prop where
 os:w'.os=w.os
 tape:w'.tape=w.tape
 output:w'.output=w.output
 size:w.heap.size≤w'.heap.size
 block:∀k,k<w.heap.size→k∉M→w'.heap[k]?=w.heap[k]?
theorem F0a.refl(M:List Nat)(w:World):F0a M w w:=⟨rfl,rfl,rfl,Nat.le_refl _,fun _ _ _=>rfl⟩
theorem F0a.of{M:List Nat}{w w':World}(h:Below w.heap.size w w'):F0a M w w':=⟨h.os,h.tape,h.output,h.size,fun k hk _=>h.block k hk⟩
theorem F0a.nil{w w':World}(h:F0a [] w w'):Below w.heap.size w w':=⟨h.os,h.tape,h.output,h.size,fun k hk=>h.block k hk (by simp)⟩
theorem F0a.trans{M:List Nat}{a b c:World}(h:F0a M a b)(k:F0a M b c):F0a M a c :=
 ⟨k.os.trans h.os,k.tape.trans h.tape,k.output.trans h.output,Nat.le_trans h.size k.size,fun i hi hm=>(k.block i (Nat.lt_of_lt_of_le hi h.size) hm).trans (h.block i hi hm)⟩
structure St (M:List Nat) (w0 w:World) (L:List Ent):Prop where
 below:F0a M w0 w
 own:∀b∈L,∀g,b.1=some g→(w0.heap.size≤g∨g∈M)∧p0a w (g,b.2)
 apart:L.Pairwise fun b b'=>∀g,b.1=some g→b'.1≠some g
structure y0a (M:List Nat) (w w':World):Prop where
 size:w.heap.size≤w'.heap.size
 same:∀b,b<w.heap.size→b∉M→w'.heap[b]?=w.heap[b]?
theorem y0a.refl(M:List Nat)(w:World):y0a M w w:=⟨Nat.le_refl _,fun _ _ _=>rfl⟩
theorem y0a.trans{M:List Nat}{a b c:World}(h:y0a M a b)(k:y0a M b c):y0a M a c :=
 ⟨Nat.le_trans h.size k.size,fun i hi hm=>(k.same i (Nat.lt_of_lt_of_le hi h.size) hm).trans (h.same i hi hm)⟩
theorem y0a.of_nil{M:List Nat}{a b:World}(h:y0a [] a b):y0a M a b:=⟨h.size,fun i hi _=>h.same i hi (by simp)⟩
theorem y0a.of_below{M:List Nat}{a b:World}(h:Below a.heap.size a b):y0a M a b:=⟨h.size,fun i hi _=>h.block i hi⟩
theorem y0a.cell{M:List Nat}{w w':World}(h:y0a M w w'){a:Addr}{v:Value}(hm:a.block∉M)(hc:w.cell? a=some v):w'.cell? a=some v:=by
 have a0:=World.block_lt_of_cell? (w:=w) (a:=a) hc;rw[World.cell?_of_block (w:=w) (h.same a.block a0 hm)];exact hc
theorem p0a.lt{w:World}{b:Blk}(h:p0a w b):b.1<w.heap.size:=by
 unfold p0a at h;rcases Nat.lt_or_ge b.1 w.heap.size with b0|a0
 ·exact b0
 ·rw[Array.getElem?_eq_none a0] at h;cases h
theorem p0a.cell{w:World}{g t:Nat}{cs:List Value}(h:p0a w (g,t,cs)){o:Nat}{v:Value}(hv:cs[o]?=some v):w.cell? ⟨g,o,none⟩=some v:=by
 unfold p0a at h;simp only[World.cell?,h];simpa using hv
theorem p0a.frozen{w:World}{g t:Nat}{cs:List Value}(h:p0a w (g,t,cs))(o:Nat):w.frozen? ⟨g,o,none⟩=false:=by
 unfold p0a at h;simp[World.frozen?,h]
section
variable {w0 w w':World} {L:List Ent} {M:List Nat}
theorem St.refl(w:World):St [] w w []:=⟨F0a.refl _ _,by simp,by simp⟩
theorem St.size(S:St M w0 w L):w0.heap.size≤w.heap.size:=S.below.size
theorem St.fin(S:St [] w0 w L):Below w0.heap.size w0 w:=S.below.nil
theorem St.oldM(S:St M w0 w L){a:Addr}{v:Value}(hm:a.block∉M)(hc:w0.cell? a=some v):w.cell? a=some v:=by
 have a0:=World.block_lt_of_cell? (w:=w0) (a:=a) hc;rw[World.cell?_of_block (w:=w0) (S.below.block a.block a0 hm)];exact hc
theorem St.old(S:St [] w0 w L){a:Addr}{v:Value}(hc:w0.cell? a=some v):w.cell? a=some v:=S.oldM (by simp) hc
theorem St.keepM(S:St M w0 w L):y0a M w0 w:=⟨S.below.size,fun i hi hm=>S.below.block i hi hm⟩
theorem St.keep0(S:St [] w0 w L)(M:List Nat):y0a M w0 w:=⟨S.below.size,fun i hi _=>S.below.block i hi (by simp)⟩
theorem St.blk(S:St M w0 w L)(k:Nat){g t:Nat}{cs:List Value}(hk:L[k]?=some (some g,t,cs)):p0a w (g,t,cs):=(S.own _ (List.mem_of_getElem? hk) g rfl).2
theorem St.new(S:St M w0 w L)(k:Nat){g t:Nat}{cs:List Value}(hk:L[k]?=some (some g,t,cs)):w0.heap.size≤g∨g∈M:=(S.own _ (List.mem_of_getElem? hk) g rfl).1
theorem St.lt(S:St M w0 w L)(k:Nat){g t:Nat}{cs:List Value}(hk:L[k]?=some (some g,t,cs)):g<w.heap.size:=(S.blk k hk).lt
theorem St.cell(S:St M w0 w L)(k:Nat){g t:Nat}{cs:List Value}(hk:L[k]?=some (some g,t,cs)){o:Nat}{v:Value}(hv:cs[o]?=some v):w.cell? ⟨g,o,none⟩=some v :=
 (S.blk k hk).cell hv
theorem St.keeps(S:St M w0 w L)(hb:F0a M w0 w')(hk:∀b∈L,∀g,b.1=some g→w'.heap[g]?=w.heap[g]?):St M w0 w' L :=
 ⟨hb,fun b hm g hg=>⟨(S.own b hm g hg).1,(hk b hm g hg).trans (S.own b hm g hg).2⟩,S.apart⟩
theorem St.later(S:St M w0 w L)(hb:Below w.heap.size w w'):St M w0 w' L :=
 S.keeps (S.below.trans (F0a.of hb)) fun b hm g hg=>hb.block g (S.own b hm g hg).2.lt
theorem St.drew(S:St M w0 w L):St M w0 w.drew L:=⟨⟨S.below.os,S.below.tape,S.below.output,S.below.size,S.below.block⟩,S.own,S.apart⟩
theorem St.tail{x:Ent}(S:St M w0 w (x::L)):St M w0 w L:=⟨S.below,fun b hm=>S.own b (List.mem_cons_of_mem _ hm),(List.pairwise_cons.1 S.apart).2⟩
theorem St.nil(S:St M w0 w L):St M w0 w []:=⟨S.below,by simp,by simp⟩
theorem St.push(S:St M w0 w L){g t:Nat}{cs:List Value}(hg:p0a w (g,t,cs))(b0:w0.heap.size≤g∨g∈M)(d0:∀b∈L,b.1≠some g):St M w0 w ((some g,t,cs)::L):=by
 refine⟨S.below,fun b hm g' a0=>?_,?_⟩
 ·rcases List.mem_cons.1 hm with rfl|hm
  ·cases a0;exact⟨b0,hg⟩
  ·exact S.own b hm g' a0
 ·refine List.pairwise_cons.2 ⟨fun b hb g' a0=>?_,S.apart⟩;cases a0;exact d0 b hb
theorem St.borrow1{g t:Nat}{cs:List Value}(h:p0a w (g,t,cs)):St [g] w w [(some g,t,cs)] :=
 (⟨F0a.refl _ _,by simp,by simp⟩:St [g] w w []).push h (.inr (by simp)) (by simp)
theorem St.borrow2{g g' t t':Nat}{cs a0:List Value}(h:p0a w (g,t,cs))(h':p0a w (g',t',a0))(b0:g≠g'):St [g,g'] w w [(some g,t,cs),(some g',t',a0)] :=
 ((⟨F0a.refl _ _,by simp,by simp⟩:St [g,g'] w w []).push h' (.inr (by simp)) (by simp)).push h (.inr (by simp)) (by simpa using fun e:g'=g=>b0 e.symm)
theorem St.push_new{w1:World}(S:St M w0 w1 L)(Sw:St M w0 w L){g t:Nat}{cs:List Value}(hg:p0a w1 (g,t,cs))(a0:w.heap.size≤g):St M w0 w1 ((some g,t,cs)::L) :=
 S.push hg (.inl (Nat.le_trans Sw.size a0)) fun b hb he=>by have:=(Sw.own b hb g he).2.lt;simp at this;omega
theorem St.nilEnt(S:St M w0 w L)(t:TypeId):St M w0 w ((none,t,[])::L):=by
 refine⟨S.below,fun b hm g' a0=>?_,List.pairwise_cons.2 ⟨fun b hb g' a0=>(by cases a0),S.apart⟩⟩;rcases List.mem_cons.1 hm with rfl|hm
 ·cases a0
 ·exact S.own b hm g' a0
theorem F0a.alloc(h:F0a M w0 w)(o:Obj):F0a M w0 (w.alloc o) :=
 ⟨h.os,h.tape,h.output,Nat.le_trans h.size (by simp),fun k hk hm=>(Below.heap_alloc w o k (Nat.lt_of_lt_of_le hk h.size)).trans (h.block k hk hm)⟩
theorem F0a.setCell(h:F0a M w0 w){g:Nat}(o:Nat)(v:Value)(hg:w0.heap.size≤g∨g∈M):F0a M w0 (w.setCell ⟨g,o,none⟩ v) :=
 ⟨h.os,h.tape,h.output,by simpa using h.size,fun k hk hm=>(Below.heap_setCell w ⟨g,o,none⟩ v k (fun e=>by
  simp only at e;subst e;rcases hg with hg|hg
  ·omega
  ·exact hm hg)).trans (h.block k hk hm)⟩
theorem St.alloc(S:St M w0 w L)(t:TypeId)(cs:List Value):St M w0 (w.alloc (.cells cs.toArray t)) ((some w.heap.size,t,cs)::L):=by
 have S1:St M w0 (w.alloc (.cells cs.toArray t)) L:=S.keeps (S.below.alloc _) fun b hm g hg=>Below.heap_alloc w _ g (S.own b hm g hg).2.lt;exact S1.push_new S (by show(w.heap.push _)[w.heap.size]?=_;simp) (Nat.le_refl _)
theorem T2a(w:World)(o:Obj)(M:List Nat):y0a M w (w.alloc o):=⟨by simp,fun b hb _=>Below.heap_alloc w o b hb⟩
theorem s2a(w:World)(M:List Nat):y0a M w w.drew:=⟨Nat.le_refl _,fun _ _ _=>rfl⟩
theorem q9a(w:World)(g o:Nat)(v:Value):y0a [g] w (w.setCell ⟨g,o,none⟩ v) :=
 ⟨by simp,fun b _ hm=>Below.heap_setCell w ⟨g,o,none⟩ v b (by simpa using hm)⟩
theorem y0a.mono{M':List Nat}(h:y0a M w w')(hs:∀g∈M,g∈M'):y0a M' w w':=⟨h.size,fun i hi hm=>h.same i hi fun hh=>hm (hs i hh)⟩
theorem D8a{w:World}{g t:Nat}{cs:List Value}(h:p0a w (g,t,cs))(o:Nat)(v:Value):p0a (w.setCell ⟨g,o,none⟩ v) (g,t,cs.set o v):=by
 unfold p0a at *;simp only[World.setCell,Array.getElem?_modify,h];simp
theorem V4b{l:List Nat}(h:l.Pairwise (·≠·)){i j a:Nat}(hi:l[i]?=some a)(hj:l[j]?=some a):i=j:=by
 induction l generalizing i j with
 | nil=>simp at hi
 | cons x xs ih =>
   obtain⟨hx,a0⟩:=List.pairwise_cons.1 h;cases i<;>cases j
   ·rfl
   ·simp at hi hj;subst hi;exact absurd rfl (hx _ (List.mem_of_getElem? hj))
   ·simp at hi hj;subst hj;exact absurd rfl (hx _ (List.mem_of_getElem? hi))
   ·simp at hi hj;rw[ih a0 hi hj]
theorem M0b{l:List Ent}(h:l.Pairwise fun b b'=>∀g,b.1=some g→b'.1≠some g){i j g:Nat}{a b:Ent}(hi:l[i]?=some a)(hj:l[j]?=some b)(ha:a.1=some g)(hb:b.1=some g):i=j:=by
 induction l generalizing i j with
 | nil=>simp at hi
 | cons x xs ih =>
   obtain⟨hx,a0⟩:=List.pairwise_cons.1 h;cases i<;>cases j
   ·rfl
   ·simp at hi hj;subst hi;exact absurd hb (hx _ (List.mem_of_getElem? hj) g ha)
   ·simp at hi hj;subst hj;exact absurd ha (hx _ (List.mem_of_getElem? hi) g hb)
   ·simp at hi hj;rw[ih a0 hi hj]
theorem St.replace(S:St M w0 w L)(k:Nat){x y:Ent}(hk:L[k]?=some x)(hb:F0a M w0 w')(f0:∀b,b<w.heap.size→x.1≠some b→w'.heap[b]?=w.heap[b]?)
 (hy:∀g,y.1=some g→(w0.heap.size≤g∨g∈M)∧p0a w' (g,y.2)∧(x.1=some g∨w.heap.size≤g)):St M w0 w' (L.set k y):=by
 have q0:k<L.length:=(List.getElem?_eq_some_iff.1 hk).1;have a0:∀(j:Nat) (b:Ent) (g:Nat),L[j]?=some b→j≠k→b.1=some g→x.1≠some g:=fun j b g hj j0 g0 hx=>j0 (M0b S.apart hj hk g0 hx);refine⟨hb,fun b hm g hg=>?_,?_⟩
 ·obtain⟨j,hj⟩:=List.getElem?_of_mem hm;rw[List.getElem?_set] at hj
  split at hj
  ·rename_i d0;subst d0;cases hj;exact⟨(hy g hg).1,(hy g hg).2.1⟩
  ·rename_i d0;have h0:=List.mem_of_getElem? hj;have ho:=S.own b h0 g hg;exact⟨ho.1,(f0 g ho.2.lt (a0 j b g hj (fun h=>d0 h.symm) hg)).trans ho.2⟩
 ·rw[List.pairwise_iff_getElem];intro i j hi hj p0 g e0 b0;simp only[List.length_set] at hi hj;have gi:L[i]?=some L[i]:=List.getElem?_eq_getElem hi;have gj:L[j]?=some L[j]:=List.getElem?_eq_getElem hj;have key:∀(m:Nat) (b:Ent),L[m]?=some b→m≠k→b.1=some g→y.1≠some g:=fun m b hm n0 g0 o0=>by
   rcases(hy g o0).2.2 with h|h
   ·exact a0 m b g hm n0 g0 h
   ·have:=(S.own b (List.mem_of_getElem? hm) g g0).2.lt;simp at this;omega
  rw[List.getElem_set] at e0 b0
  split at e0
  ·rename_i i0
   split at b0
   ·rename_i d0;omega
   ·rename_i d0;exact key j _ gj (fun h=>d0 h.symm) b0 e0
  ·rename_i i0
   split at b0
   ·exact key i _ gi (fun h=>i0 h.symm) e0 b0
   ·have:=M0b S.apart gi gj e0 b0;omega
theorem St.changed{G:List Nat}{L':List Ent}(S:St M w0 w L)(hb:F0a G w w')(hG:∀g∈G,w0.heap.size≤g∨g∈M)(a0:L'.map (·.1)=L.map (·.1))(b0:∀b∈L',∀g,b.1=some g→p0a w' (g,b.2)):St M w0 w' L':=by
 refine⟨⟨hb.os.trans S.below.os,hb.tape.trans S.below.tape,hb.output.trans S.below.output,Nat.le_trans S.size hb.size,fun k hk hm=>?_⟩,fun b hm g hg=>⟨?_,b0 b hm g hg⟩,?_⟩
 ·refine(hb.block k (Nat.lt_of_lt_of_le hk S.size) fun h=>?_).trans (S.below.block k hk hm);rcases hG k h with h'|h'
  ·omega
  ·exact hm h'
 ·obtain⟨i,hi⟩:=List.getElem?_of_mem hm;have h1:(L'.map (·.1))[i]?=some (some g):=by simp[hi,hg]
  rw[a0] at h1;simp only[List.getElem?_map,Option.map_eq_some_iff] at h1;obtain⟨c,hc,d0⟩:=h1;exact(S.own c (List.mem_of_getElem? hc) g d0).1
 ·have key:∀(X:List Ent),(X.Pairwise fun b b'=>∀g,b.1=some g→b'.1≠some g)↔((X.map (·.1)).Pairwise fun x y=>∀g,x=some g→y≠some g):=fun X=>by rw[List.pairwise_map]
  rw[key,a0,←key];exact S.apart
theorem St.changed1{g t t':Nat}{cs b0:List Value}(S:St M w0 w L)(i:Nat)(hi:L[i]?=some (some g,t,cs))(hb:F0a [g] w w')(h1:p0a w' (g,t',b0)):St M w0 w' (L.set i (some g,t',b0)):=by
 have e0:i<L.length:=(List.getElem?_eq_some_iff.1 hi).1;refine S.changed hb (fun x hx=>?_) ?_ (fun b hm x hx=>?_)
 ·simp at hx;subst hx;exact S.new i hi
 ·apply List.ext_getElem?;intro m;simp only[List.getElem?_map,List.getElem?_set]
  split
  ·rename_i h;subst h;rw[hi];rfl
  ·rfl
 ·obtain⟨m,a0⟩:=List.getElem?_of_mem hm;rw[List.getElem?_set] at a0
  split at a0
  ·rename_i h;subst h;cases a0;cases hx;exact h1
  ·rename_i d0;have ho:=S.own b (List.mem_of_getElem? a0) x hx;exact(hb.block x ho.2.lt (fun hh=>by simp at hh;subst hh;exact d0 (M0b S.apart hi a0 rfl hx))).trans ho.2
theorem St.changed2{g g' t t':Nat}{cs d0 ds e0:List Value}(S:St M w0 w L)(i j:Nat)(hi:L[i]?=some (some g,t,cs))(hj:L[j]?=some (some g',t',ds))(hb:F0a [g,g'] w w')
 (h1:p0a w' (g,t,d0)) (h2:p0a w' (g',t',e0)):St M w0 w' ((L.set i (some g,t,d0)).set j (some g',t',e0)):=by
 have g0:i<L.length:=(List.getElem?_eq_some_iff.1 hi).1;have h0:j<L.length:=(List.getElem?_eq_some_iff.1 hj).1;refine S.changed hb (fun x hx=>?_) ?_ (fun b hm x hx=>?_)
 ·simp at hx;rcases hx with rfl|rfl
  ·exact S.new i hi
  ·exact S.new j hj
 ·apply List.ext_getElem?;intro m;simp only[List.getElem?_map,List.getElem?_set,List.length_set]
  split
  ·rename_i h;subst h;rw[hj];rfl
  ·split
   ·rename_i h;subst h;rw[hi];rfl
   ·rfl
 ·obtain⟨m,a0⟩:=List.getElem?_of_mem hm;rw[List.getElem?_set] at a0
  split at a0
  ·rename_i h;subst h
   split at a0
   ·cases a0;cases hx;exact h2
   ·cases a0
  ·rename_i f0;rw[List.getElem?_set] at a0
   split at a0
   ·rename_i h;subst h;cases a0;cases hx;exact h1
   ·rename_i b0;have ho:=S.own b (List.mem_of_getElem? a0) x hx;exact(hb.block x ho.2.lt (fun hh=>by
     simp at hh;rcases hh with rfl|rfl
     ·exact b0 (M0b S.apart hi a0 rfl hx)
     ·exact f0 (M0b S.apart hj a0 rfl hx))).trans ho.2
theorem St.set(S:St M w0 w L)(k:Nat){g t:Nat}{cs:List Value}(hk:L[k]?=some (some g,t,cs))(o:Nat)(v:Value):
 St M w0 (w.setCell ⟨g,o,none⟩ v) (L.set k (some g,t,cs.set o v)):=by
 have hg:=S.own _ (List.mem_of_getElem? hk) g rfl;refine S.replace k hk (S.below.setCell o v hg.1) (fun b _ b0=>Below.heap_setCell w ⟨g,o,none⟩ v b (fun h=>b0 (by rw[h]))) (fun g' a0=>?_);cases a0;exact⟨hg.1,D8a hg.2 o v,.inl rfl⟩
end
section
variable {P:Program} {r:Option Nat} {N:Nat} {D:List Deferred} {e:Env} {w w0:World} {ops:Array Oper} {rest:List Oper} {K:List Deferred→Env→World→Prop} {L:List Ent} {M:List Nat}
variable {d:Nat} {t:TypeId} {p:String} {af:Array Edge}
theorem Z0a{x:Operand}{v:Value}(hv:ev e x=v)(hd:Nat.ble (d+1) N=true)(h:WL P r N ops rest K D (upd e d v) w):WL P r N ops (⟨some d,.move x,t,p,af,none⟩::rest) K D e w :=
 k1a rfl rfl hd (by simp) (by simp only[execOp,hv,Sem.run_pure]) h
theorem P0a{x:Operand}{v:Value}(hv:ev e x=v)(hd:Nat.ble (d+1) N=true)(h:WL P r N ops rest K D (upd e d v) w):WL P r N ops (⟨some d,.assign x,t,p,af,none⟩::rest) K D e w :=
 k1a rfl rfl hd (by simp) (by simp only[execOp,hv,Sem.run_pure]) h
theorem h0d{el:TypeId}{x:Operand}{v:Value}{cs:List Value}(S:St M w0 w L)(hv:ev e x=v)(a0:v.cells.toList=cs)(hd:Nat.ble (d+1) N=true)
 (h:∀g w1,St M w0 w1 ((some g,el,cs)::L)→y0a [] w w1→w.heap.size≤g→WL P r N ops rest K D (upd e d (.pointer (some ⟨g,0,none⟩))) w1) :
 WL P r N ops (⟨some d,.box el x,t,p,af,none⟩::rest) K D e w:=by
 refine k1a (v:=.pointer (some ⟨w.heap.size,0,none⟩)) (w':=w.alloc (.cells cs.toArray el)) rfl rfl hd (by simp) ?_ (h _ _ (S.alloc el cs) (T2a _ _ _) (Nat.le_refl _));subst a0;simp[execOp,Instr.box,newVar,newRow,hv]
theorem h0a{el:TypeId}{x:Operand}{cs:List Value}(S:St M w0 w L)(hv:ev e x=.agg cs.toArray)(hd:Nat.ble (d+1) N=true)
 (h:∀g w1,St M w0 w1 ((some g,el,cs)::L)→y0a [] w w1→w.heap.size≤g→WL P r N ops rest K D (upd e d (.pointer (some ⟨g,0,none⟩))) w1) :
 WL P r N ops (⟨some d,.box el x,t,p,af,none⟩::rest) K D e w:=h0d S hv (by simp[Value.cells]) hd h
theorem Z6a{el:TypeId}{x:Operand}{v:Value}(S:St M w0 w L)(hv:ev e x=v)(a0:v.cells.toList=[v])(hd:Nat.ble (d+1) N=true)
 (h:∀g w1,St M w0 w1 ((some g,el,[v])::L)→y0a [] w w1→w.heap.size≤g→WL P r N ops rest K D (upd e d (.pointer (some ⟨g,0,none⟩))) w1) :
 WL P r N ops (⟨some d,.box el x,t,p,af,none⟩::rest) K D e w:=h0d S hv a0 hd h
theorem m0a{el:TypeId}{z:Value}{cs:List Value}(S:St M w0 w L)(hz:∀w,(zeroValue el).run P w=.ok z w)(a0:z.cells.toList=cs)(hd:Nat.ble (d+1) N=true)
 (h:∀g w1,St M w0 w1 ((some g,el,cs)::L)→y0a [] w w1→w.heap.size≤g→WL P r N ops rest K D (upd e d (.pointer (some ⟨g,0,none⟩))) w1) :
 WL P r N ops (⟨some d,.alloc el,t,p,af,none⟩::rest) K D e w:=by
 refine k1a (v:=.pointer (some ⟨w.heap.size,0,none⟩)) (w':=w.alloc (.cells cs.toArray el)) rfl rfl hd (by simp) ?_ (h _ _ (S.alloc el cs) (T2a _ _ _) (Nat.le_refl _));subst a0;simp[execOp,Instr.alloc,newVar,newRow,hz]
def FA(P:Program)(s f off:Nat):Prop:=∀(w:World) (a:Addr),(Instr.fieldAt s (.pointer (some a)) f).run P w=.ok (.pointer (some (a.add off))) w
theorem A1a{s f d0 n:Nat}{fs:Array Field}{b0:Field}(hu:P.underlying s=some (.struct fs))(hf:fs[f]?=some b0)(ho:b0.offset=d0)
 (hi:(P.info? b0.type).map (·.size)=some (n+1)):FA P s f d0:=by
 intro w a;cases a0:P.info? b0.type with
 | none=>rw[a0] at hi;cases hi
 | some i =>
   rw[a0] at hi;have e0:i.size=n+1:=by simpa using hi
   simp[Instr.fieldAt,run_underlying hu,hf,Instr.sureAddr,fieldPlace,sizeOf,typeInfo,a0,e0,ho]
theorem P3a{s f a0 b o:Nat}{x:Operand}(hF:FA P s f a0)(hx:ev e x=.pointer (some ⟨b,o,none⟩))(hd:Nat.ble (d+1) N=true)
 (h:WL P r N ops rest K D (upd e d (.pointer (some ⟨b,o+a0,none⟩))) w):WL P r N ops (⟨some d,.fieldAddr s x f,t,p,af,none⟩::rest) K D e w :=
 k1a rfl rfl hd (by simp) (by simp[execOp,hx,hF w,Addr.add_lit]) h
def One(P:Program)(t:TypeId):Prop:=∀(w:World) (a:Addr),(loadVar t a).run P w=(load a).run P w
theorem H2a{t:TypeId}{ds:TypeDesc}(hu:P.underlying t=some ds)(h1:∀fs,ds≠.struct fs)(h2:∀n e,ds≠.array n e):One P t:=by
 intro w a;have:(isAgg t).run P w=.ok false w:=by
  simp only[isAgg,Sem.run_bind,run_underlying hu,Result.andThen_ok];cases ds<;>rfl
 simp only[loadVar,Sem.run_bind,this,Result.andThen_ok];rfl
theorem s0a{ty b o:Nat}{x:Operand}{v:Value}(h1:One P ty)(hx:ev e x=.pointer (some ⟨b,o,none⟩))(hc:w.cell? ⟨b,o,none⟩=some v)(hd:Nat.ble (d+1) N=true)
 (h:WL P r N ops rest K D (upd e d v) w):WL P r N ops (⟨some d,.load ty x,t,p,af,none⟩::rest) K D e w :=
 k1a rfl rfl hd (by simp) (by simp[execOp,hx,Instr.loadAt,Instr.sureAddr,h1 w,hc]) h
def t1a(w:World)(b o:Nat)(cs:List Value):Prop:=∀j v,cs[j]?=some v→w.cell? ⟨b,o+j,none⟩=some v
theorem St.cells(S:St M w0 w L)(k:Nat){g t:Nat}{cs:List Value}(hk:L[k]?=some (some g,t,cs)):t1a w g 0 cs :=
 fun j v hj=>by rw[Nat.zero_add];exact S.cell k hk hj
def F7a(P:Program)(t:TypeId)(n:Nat):Prop:=∀(w:World) (a:Addr),(loadVar t a).run P w=((loadCells a n).run P w).andThen fun cs w=>.ok (.agg cs) w
theorem u2a{t:TypeId}{n:Nat}(h1:(P.underlying t).elim False (fun ds=>(∃fs,ds=.struct fs)∨∃k el,ds=.array k el))(hn:(P.info? t).map (·.size)=some n):F7a P t n:=by
 intro w a;cases hu:P.underlying t with
 | none=>rw[hu] at h1;exact h1.elim
 | some ds =>
   rw[hu] at h1;have a0:(isAgg t).run P w=.ok true w:=by
    simp only[isAgg,Sem.run_bind,run_underlying hu,Result.andThen_ok];rcases h1 with⟨fs,rfl⟩|⟨k,el,rfl⟩<;>rfl
   have b0:(sizeOf t).run P w=.ok n w:=by
    cases hi:P.info? t with
    | none=>rw[hi] at hn;cases hn
    | some i=>rw[hi] at hn;simp at hn;simp[sizeOf,typeInfo,hi,hn]
   simp only[loadVar,Sem.run_bind,a0,Result.andThen_ok,if_true,b0];rfl
theorem w1a{ty n b o:Nat}{x:Operand}{cs:List Value}(hM:F7a P ty n)(hx:ev e x=.pointer (some ⟨b,o,none⟩))(hc:t1a w b o cs)(hn:cs.length=n)(hd:Nat.ble (d+1) N=true)
 (h:WL P r N ops rest K D (upd e d (.agg cs.toArray)) w):WL P r N ops (⟨some d,.load ty x,t,p,af,none⟩::rest) K D e w :=
 k1a rfl rfl hd (by simp) (by
  subst hn;have:=run_loadCells_list (P:=P) w ⟨b,o,none⟩ cs (fun j v hj=>by rw[Addr.add_lit];exact hc j v hj);simp[execOp,hx,Instr.loadAt,Instr.sureAddr,hM w,this]) h
def i64(n:Int):Prop:=-9223372036854775808≤n∧n≤9223372036854775807
theorem F4a{n:Int}(h:i64 n):IntKind.i64.wrap n=n:=by
 rw[IntKind.wrap_i64];unfold i64 at h;omega
variable {x y:Operand} {a b:Int} {xt yt:TypeId} {kd:IntKind}
theorem Q0d(hx:ev e x=.int kd a)(hy:ev e y=.int kd b)(hd:Nat.ble (d+1) N=true)(h1:a=b→WL P r N ops rest K D (upd e d (.bool true)) w)(h2:a≠b→WL P r N ops rest K D (upd e d (.bool false)) w):
 WL P r N ops (⟨some d,.binOp .eql xt x y yt,t,p,af,none⟩::rest) K D e w:=by
 by_cases a0:a=b
 ·exact k1a rfl rfl hd (by simp) (by simp[execOp,hx,hy,eqGuard_at_int,binOp_eql,a0]) (h1 a0)
 ·exact k1a rfl rfl hd (by simp) (by simp[execOp,hx,hy,eqGuard_at_int,binOp_eql,a0]) (h2 a0)
def SlT(P:Program)(ty size:Nat):Prop:=∃el,P.underlying ty=some (.slice el)∧(P.info? el).map (·.size)=some size
theorem O5a{ty size:Nat}(h:SlT P ty size):∃el,P.underlying ty=some (.slice el)∧∀w,(sizeOf el).run P w=.ok size w:=by
 obtain⟨el,hu,hi⟩:=h;refine⟨el,hu,fun w=>?_⟩;cases hh:P.info? el with
 | none=>rw[hh] at hi;cases hi
 | some i=>rw[hh] at hi;simp at hi;simp[sizeOf,typeInfo,hh,hi]
theorem N7c{ty size:Nat}{A:Option Addr}{n c:Nat}(hT:SlT P ty size)(hx:ev e x=.slice A n c)(hd:Nat.ble (d+1) N=true)(h:WL P r N ops rest K D (upd e d (.int .i64 n)) w):
 WL P r N ops (⟨some d,.call { callee:=.builtin .len,args:=#[x],argTypes:=#[ty] },t,p,af,none⟩::rest) K D e w:=by
 obtain⟨_,hu,_⟩:=hT;exact k1a rfl rfl hd (by simp) (by simp[execOp,resolve,invoke,builtin,Builtin.len_,hx,run_underlying hu,goInt]) h
theorem w0a{ty size b o n c:Nat}{A:Option Addr}(hT:SlT P ty size)(hx:ev e x=.slice A n c)(hA:A=some ⟨b,o,none⟩)(hy:ev e y=.int kd a)(h0:0≤a)(h1:a<n)(hd:Nat.ble (d+1) N=true)
 (h:WL P r N ops rest K D (upd e d (.pointer (some ⟨b,o+a.toNat*size,none⟩))) w):WL P r N ops (⟨some d,.indexAddr ty x y,t,p,af,none⟩::rest) K D e w:=by
 obtain⟨_,hu,a0⟩:=O5a hT;subst hA;exact k1a rfl rfl hd (by simp) (by simp[execOp,Instr.indexAt,hx,hy,asIntOf,run_underlying hu,h0,h1,a0,Addr.add_lit]) h
theorem m1c{f:FuncId}{args:Array Value}{fn:Func}(hf:P.funcs[f]?=some fn)(hn:(fn.name== "runtime.NumGoroutine")=false)(hb:fn.body.isNone=false)(w:World):
 (callFunc f args).run P w=.ok (.enter f args) w:=by
 simp only[callFunc,Sem.run_bind,run_program,Result.andThen_ok,hf,hn,hb,Bool.false_eq_true,if_false];rfl
def Has(P:Program)(f:FuncId):Prop:=∀(args:Array Value) (w:World),(callFunc f args).run P w=.ok (.enter f args) w
theorem i0a{f:FuncId}{fn:Func}(hf:P.funcs[f]?=some fn)(hn:(fn.name== "runtime.NumGoroutine")=false)(hb:fn.body.isNone=false):Has P f:=fun _ w=>m1c hf hn hb w
theorem c2a{f:FuncId}{args:Array Operand}{at_:Array TypeId}{vs:List Value}{R:Value→World→Prop}(hH:Has P f)(a0:args.toList.map (ev e)=vs)(hd:Nat.ble (d+1) N=true)
 (hc:M0a P f vs.toArray w R) (h:∀v w',R v w'→WL P r N ops rest K D (upd e d v) w') :
 WL P r N ops (⟨some d,.call { callee:=.value (.func f),args:=args,argTypes:=at_ },t,p,af,none⟩::rest) K D e w:=by
 refine D5b rfl rfl hd (by simp) ?_ hc h;subst a0;have:(args.map (ev e))=(args.toList.map (ev e)).toArray:=by apply Array.ext';simp
 simp[execOp,resolve,Deferred.ofValue,invoke,ev,hH _ w,this]
theorem r2b{f:FuncId}{g:Operand}{caps:Array Value}{args:Array Operand}{at_:Array TypeId}{vs:List Value}{R:Value→World→Prop}(hH:Has P f)(hg:ev e g=.func (.func f) #[] caps)
 (a0:args.toList.map (ev e)++caps.toList=vs) (hd:Nat.ble (d+1) N=true)
 (hc:M0a P f vs.toArray w R) (h:∀v w',R v w'→WL P r N ops rest K D (upd e d v) w') :
 WL P r N ops (⟨some d,.call { callee:=.value g,args:=args,argTypes:=at_ },t,p,af,none⟩::rest) K D e w:=by
 refine D5b rfl rfl hd (by simp) ?_ hc h;subst a0;have:(args.map (ev e)++caps)=(args.toList.map (ev e)++caps.toList).toArray:=by apply Array.ext';simp
 simp[execOp,resolve,Deferred.ofValue,invoke,hg,hH _ w,this]
theorem N1a{fn:Fn}{a0:Array Operand}{vs:List Value}(b0:a0.toList.map (ev e)=vs)(hd:Nat.ble (d+1) N=true)(h:WL P r N ops rest K D (upd e d (.func fn #[] vs.toArray)) w):
 WL P r N ops (⟨some d,.makeFunc fn #[] a0,t,p,af,none⟩::rest) K D e w:=by
 have hc:(a0.map (ev e))=vs.toArray:=by subst b0;apply Array.ext';simp
 exact k1a rfl rfl hd (by simp) (by simp[execOp,Instr.makeFunc,hc]) h
def Z7a(z:List Value)(off:Nat)(cs:List Value):List Value:=z.take off++cs++z.drop (off+cs.length)
def Fld(P:Program)(s f off:Nat):Prop:=∀(w:World) (cs:Array Value) (v:Value),cs[off]?=some v→(Instr.field s (.agg cs) f).run P w=.ok v w
theorem S8c{s f d0:Nat}{fs:Array Field}{a0:Field}(hu:P.underlying s=some (.struct fs))(hf:fs[f]?=some a0)(ho:a0.offset=d0){ds:TypeDesc}(hd:P.underlying a0.type=some ds)
 (h1:∀fs,ds≠.struct fs) (h2:∀n e,ds≠.array n e):Fld P s f d0:=by
 intro w cs v hv;have b0:(isAgg a0.type).run P w=.ok false w:=by
  simp only[isAgg,Sem.run_bind,run_underlying hd,Result.andThen_ok];cases ds<;>rfl
 simp[Instr.field,run_underlying hu,hf,asAgg,part,b0,ho,hv]
def Bld(P:Program)(ty:Nat)(z:List Value)(pl:List (Nat×Nat)):Prop :=
 ∀(w:World) (parts:List (Nat×Value)) (cs:Array Value),Instr.fill (fun i=>pl[i]?) z.toArray parts=some cs→(Instr.build ty parts.toArray).run P w=.ok (.agg cs) w
theorem Y3a{ty:Nat}{z:List Value}{pl:List (Nat×Nat)}{fs:Array Field}(hu:P.underlying ty=some (.struct fs))(hz:∀w,(zeroValue ty).run P w=.ok (.agg z.toArray) w)
 (hp:∀w,(fs.mapM fun f=>do pure (f.offset,←sizeOf f.type):Sem (Array (Nat×Nat))).run P w=.ok pl.toArray w):Bld P ty z pl:=by
 intro w a0 cs hf;have b0:=hp w;simp only[Instr.build,Sem.run_bind,hz,Result.andThen_ok,run_underlying hu,Value.cells];rw[b0];simp only[Result.andThen_ok,List.getElem?_toArray,hf];rfl
def X8b(pl:List (Nat×Nat)):List Value→List (Nat×Value)→List Value
 | z,[]=>z
 | z,(i,v)::rest=>X8b pl (Z7a z ((pl[i]?).getD (0,0)).1 v.cells.toList) rest
def I3b(pl:List (Nat×Nat))(n:Nat):List (Nat×Value)→Bool
 | []=>true
 | (i,v)::rest=>(match pl[i]? with
   | none=>false
   | some (off,size)=>v.cells.size==size&&Nat.ble (off+size) n)&&I3b pl n rest
theorem p1b(vs z:List Value)(a0:Nat)(h:a0+vs.length≤z.length):
 (vs.toArray.zipIdx.foldl (fun cs (c,j)=>cs.setIfInBounds (a0+j) c) z.toArray)=(Z7a z a0 vs).toArray:=by
 have key:∀(vs:List Value) (k:Nat) (z:List Value),a0+k+vs.length≤z.length →
  ((vs.zipIdx k).foldl (fun cs (c,j)=>Array.setIfInBounds cs (a0+j) c) z.toArray)=(Z7a z (a0+k) vs).toArray:=by
  intro vs
  induction vs with
  | nil=>intro k z h;simp[Z7a]
  | cons v vs ih =>
    intro k z h;simp only[List.length_cons] at h;simp only[List.zipIdx_cons,List.foldl_cons,List.setIfInBounds_toArray];rw[ih (k+1) (z.set (a0+k) v) (by simp;omega)]
    congr 1
    unfold Z7a;have h1:(z.set (a0+k) v).take (a0+(k+1))=z.take (a0+k)++[v]:=by
     rw[←Nat.add_assoc,List.take_add_one,List.take_set_of_le (Nat.le_refl _)];simp[show a0+k<z.length by omega]
    have h2:(z.set (a0+k) v).drop (a0+(k+1)+vs.length)=z.drop (a0+k+(v::vs).length):=by
     rw[List.drop_set_of_lt (by omega)]
     congr 1
     simp only[List.length_cons];omega
    rw[h1,h2];simp
 have:=key vs 0 z (by simpa using h);simpa[←Array.foldl_toList] using this
theorem J2b{z:List Value}{a0:Nat}{vs:List Value}(h:a0+vs.length≤z.length):(Z7a z a0 vs).length=z.length:=by
 simp[Z7a];omega
theorem B3b(pl:List (Nat×Nat)):∀(a0:List (Nat×Value)) (z:List Value),I3b pl z.length a0=true→Instr.fill (fun i=>pl[i]?) z.toArray a0=some (X8b pl z a0).toArray:=by
 intro a0
 induction a0 with
 | nil=>intro z _;rfl
 | cons x rest ih =>
   intro z h;obtain⟨i,v⟩:=x;simp only[I3b,Bool.and_eq_true] at h;obtain⟨h1,h2⟩:=h;cases hp:pl[i]? with
   | none=>rw[hp] at h1;cases h1
   | some q =>
     obtain⟨b0,size⟩:=q;rw[hp] at h1;simp only[Bool.and_eq_true,beq_iff_eq] at h1;obtain⟨h3,h4⟩:=h1;have h4:=Nat.le_of_ble_eq_true h4;have hv:v.cells=v.cells.toList.toArray:=by simp
     have d0:v.cells.toList.length=size:=by simpa using h3
     simp only[Instr.fill,hp,X8b,Option.getD_some];have hc:(v.cells.size≠size||b0+v.cells.size>z.toArray.size)=false:=by
      simp[h3];omega
     simp only[hc,Bool.false_eq_true,if_false];have:=p1b v.cells.toList z b0 (by omega);rw[←hv] at this;rw[this];exact ih _ (by rw[J2b (by omega)];exact h2)
theorem f1a{ty:Nat}{a0:Array (Nat×Operand)}{z:List Value}{pl:List (Nat×Nat)}{vs:List (Nat×Value)}{cs:List Value}(hB:Bld P ty z pl)(e0:a0.toList.map (fun q=>(q.1,ev e q.2))=vs)
 (d0:I3b pl z.length vs=true) (b0:X8b pl z vs=cs) (hd:Nat.ble (d+1) N=true) (h:WL P r N ops rest K D (upd e d (.agg cs.toArray)) w) :
 WL P r N ops (⟨some d,.build ty a0,t,p,af,none⟩::rest) K D e w:=by
 have hp:(a0.map fun(i,x)=>(i,ev e x))=vs.toArray:=by subst e0;apply Array.ext';simp
 subst b0;exact k1a rfl rfl hd (by simp) (by simp[execOp,hp,hB w vs _ (B3b pl vs z d0)]) h
structure SlZ (P:Program) (ty el size:Nat) (z:Value) (bytes:Nat):Prop where
 und:P.underlying ty=some (.slice el)
 info:(P.info? el).map (fun i=>(i.zero,i.size,i.bytes))=some (some z,size,bytes)
 zs:z.cells.size=size
 pos:0<size
theorem SlZ.slT{ty el size a0:Nat}{z:Value}(h:SlZ P ty el size z a0):SlT P ty size:=by
 refine⟨el,h.und,?_⟩;have:=h.info;cases hi:P.info? el with
 | none=>rw[hi] at this;cases this
 | some i=>rw[hi] at this;simp at this ⊢;exact this.2.1
theorem SlZ.parts{ty el size a0:Nat}{z:Value}(h:SlZ P ty el size z a0):∃i,P.info? el=some i∧i.zero=some z∧i.size=size∧i.bytes=a0:=by
 have:=h.info;cases hi:P.info? el with
 | none=>rw[hi] at this;cases this
 | some i=>rw[hi] at this;simp at this;exact⟨i,rfl,this⟩
theorem V2c(size:Nat):∀(vs:List Value) (k:Nat) (a0 rest:List Value),a0.length=k*size→rest.length=vs.length*size→(∀v∈vs,v.cells.size=size) →
 Instr.fill (fun i=>some (i*size,size)) (a0++rest).toArray ((vs.zipIdx k).map fun q=>(q.2,q.1))=some (a0++vs.flatMap (·.cells.toList)).toArray:=by
 intro vs
 induction vs with
 | nil=>intro k a0 rest hd hr _;simp at hr;subst hr;simp[Instr.fill]
 | cons v vs ih =>
   intro k a0 rest hd hr hv;have d0:v.cells.size=size:=hv v (by simp);have b0:v.cells.toList.length=size:=by simpa using d0
   simp only[List.length_cons,Nat.add_mul,Nat.one_mul] at hr;simp only[List.zipIdx_cons,List.map_cons,Instr.fill];have hc:(v.cells.size≠size||k*size+v.cells.size>(a0++rest).toArray.size)=false:=by
    simp[d0];omega
   simp only[hc,Bool.false_eq_true,if_false];have e0:v.cells=v.cells.toList.toArray:=by simp
   have hz:=p1b v.cells.toList (a0++rest) (k*size) (by simp;omega);rw[←e0] at hz;rw[hz];have hs:Z7a (a0++rest) (k*size) v.cells.toList=(a0++v.cells.toList)++rest.drop size:=by
    unfold Z7a;rw[←hd,List.take_left',b0,←List.drop_drop,List.drop_left']
    ·simp
    ·rfl
   rw[hs,ih (k+1) (a0++v.cells.toList) (rest.drop size) (by simp[hd,Nat.add_mul,d0]) (by simp;omega) (fun u hu=>hv u (by simp[hu]))];simp
theorem U4a{ty el size b0 n:Nat}{z:Value}(hS:SlZ P ty el size z b0){vs:List Value}(hn:vs.length=n)(h0:0<n)(g0:n*size≤16777216)(hv:∀v∈vs,v.cells.size=size)(w:World):
 (Instr.buildSlice ty n ((vs.zipIdx 0).map fun q=>(q.2,q.1)).toArray).run P w=.ok (.slice (some ⟨w.heap.size,0,none⟩) n n) (w.alloc (.cells (vs.flatMap (·.cells.toList)).toArray el)):=by
 obtain⟨_,hi,hz,j0,_⟩:=hS.parts;have e0:=hS.pos;have i0:¬(n*size=0):=by
  have:=Nat.mul_pos h0 e0;omega
 have f0:(sizeOf el).run P w=.ok size w:=by simp[sizeOf,typeInfo,hi,j0]
 have n0:(zeroValue el).run P w=.ok z w:=by simp[zeroValue,typeInfo,hi,hz]
 have d0:¬(n*size>2 ^ 24):=by omega
 have a0:=V2c size vs 0 [] ((Array.range (n*size)).map (z.cells[· % z.cells.size]!)).toList (by simp) (by simp[hn]) hv;simp only[List.nil_append,Array.toArray_toList] at a0;simp only[Instr.buildSlice,Sem.run_bind,run_underlying hS.und,Result.andThen_ok,f0,d0,i0,if_false,n0,Sem.run_pure,a0,newRow,run_newObj];rfl
theorem u0a{ty el size b0 n:Nat}{z:Value}{a0:Array (Nat×Operand)}{vs:List Value}{cs:List Value}(S:St M w0 w L)(hS:SlZ P ty el size z b0)
 (i0:a0.toList.map (fun q=>(q.1,ev e q.2))=(vs.zipIdx 0).map fun q=>(q.2,q.1)) (hn:vs.length=n) (h0:Nat.ble 1 n=true) (d0:Nat.ble (n*size) 16777216=true) (hv:vs.map (·.cells.size)=List.replicate n size)
 (f0:vs.flatMap (·.cells.toList)=cs) (hd:Nat.ble (d+1) N=true)
 (h:∀g w1,St M w0 w1 ((some g,el,cs)::L)→y0a [] w w1→w.heap.size≤g→WL P r N ops rest K D (upd e d (.slice (some ⟨g,0,none⟩) n n)) w1) :
 WL P r N ops (⟨some d,.buildSlice ty n a0,t,p,af,none⟩::rest) K D e w:=by
 have hp:(a0.map fun(i,x)=>(i,ev e x))=((vs.zipIdx 0).map fun q=>(q.2,q.1)).toArray:=by rw[←i0];apply Array.ext';simp
 have g0:∀v∈vs,v.cells.size=size:=fun v hm=>by
  have:v.cells.size∈vs.map (·.cells.size):=List.mem_map.2 ⟨v,hm,rfl⟩;rw[hv] at this;exact(List.mem_replicate.1 this).2
 have e0:=U4a hS hn (Nat.le_of_ble_eq_true h0) (Nat.le_of_ble_eq_true d0) g0 w;subst f0;refine k1a (v:=.slice (some ⟨w.heap.size,0,none⟩) n n) (w':=w.alloc (.cells (vs.flatMap (·.cells.toList)).toArray el)) rfl rfl hd (by simp) ?_ (h _ _ (S.alloc el _) (T2a _ _ _) (Nat.le_refl _));simp only[execOp,hp,Sem.run_bind,e0,Result.andThen_ok,Sem.run_pure]
def Sz(P:Program)(ty n:Nat):Prop:=∀w:World,(sizeOf ty).run P w=.ok n w
theorem H3a{ty n:Nat}(h:(P.info? ty).map (·.size)=some n):Sz P ty n:=by
 intro w;cases hi:P.info? ty with
 | none=>rw[hi] at h;cases h
 | some i=>rw[hi] at h;simp at h;simp[sizeOf,typeInfo,hi,h]
def h7c:Value→Bool
 | .agg _=>false
 | .tuple _=>false
 | _=>true
theorem I7b{ty g o tb:Nat}{cs:List Value}{v:Value}(hz:Sz P ty 1)(hb:p0a w (g,tb,cs))(a0:o<cs.length)(h1:h7c v=true):
 (Instr.storeAt ty (.pointer (some ⟨g,o,none⟩)) v).run P w=.ok () (w.setCell ⟨g,o,none⟩ v):=by
 have hc:w.cell? ⟨g,o,none⟩=some cs[o]:=hb.cell (List.getElem?_eq_getElem a0);have hf:=hb.frozen o;have d0:v.cells=#[v]:=by cases v<;>first|rfl|cases h1
 have b0:(store ⟨g,o,none⟩ v).run P w=.ok () (w.setCell ⟨g,o,none⟩ v):=by
  cases v<;>first|(cases h1;done)|simp[store,Sem.run,hc,hf]
 simp only[Instr.storeAt,Instr.sureAddr,Sem.run_bind,Sem.run_pure,Result.andThen_ok,storeVar,d0,hz w];simp[storeCells,Addr.add_zero',b0]
theorem B0a{ty g o tb kk:Nat}{cs:List Value}{v:Value}(S:St M w0 w L)(hz:Sz P ty 1)(hx:ev e x=.pointer (some ⟨g,o,none⟩))(hy:ev e y=v)(h1:h7c v=true)(hk:L[kk]?=some (some g,tb,cs))(ho:o<cs.length)
 (h:∀w1,St M w0 w1 (L.set kk (some g,tb,cs.set o v))→y0a [g] w w1→WL P r N ops rest K D e w1) :
 WL P r N ops (⟨none,.store ty x y,t,p,af,none⟩::rest) K D e w :=
 G5b rfl rfl (by simp) (by simp only[execOp,hx,hy,Sem.run_bind,I7b hz (S.blk kk hk) ho h1,Result.andThen_ok,Sem.run_pure]) (h _ (S.set kk hk o v) (q9a w g o v))
theorem c3b{ty size lo hi c n o b:Nat}{xl xh:Option Operand}(hT:SlT P ty size)(hx:ev e x=.slice (some ⟨b,o,none⟩) n c)(hl:(xl.map (ev e)=none∧lo=0)∨xl.map (ev e)=some (.int kd (lo:Int)))
 (hh:(xh.map (ev e)=none∧hi=n)∨xh.map (ev e)=some (.int kd (hi:Int))) (h1:lo≤hi) (h2:hi≤c) (h3:n≤c) (hd:Nat.ble (d+1) N=true)
 (h:WL P r N ops rest K D (upd e d (.slice (some (if c=lo then⟨b,o,none⟩ else⟨b,o+lo*size,none⟩)) (hi-lo) (c-lo))) w) :
 WL P r N ops (⟨some d,.slice ty x xl xh none,t,p,af,none⟩::rest) K D e w:=by
 obtain⟨_,hu,b0⟩:=O5a hT;have e1:(0:Int)≤(lo:Int)∧(lo:Int)≤(hi:Int):=by omega
 have e2:(0:Int)≤(hi:Int)∧(hi:Int)≤(c:Int):=by omega
 refine k1a rfl rfl hd (by simp) ?_ h;have a0:(Instr.slice ty (.slice (some ⟨b,o,none⟩) n c) (xl.map (ev e)) (xh.map (ev e)) none).run P w=.ok (.slice (some (if c=lo then⟨b,o,none⟩ else⟨b,o+lo*size,none⟩)) (hi-lo) (c-lo)) w:=by
  rcases hl with⟨hl,rfl⟩|hl<;>rcases hh with⟨hh,rfl⟩|hh<;>rw[hl,hh] <;>
   simp[Instr.slice,Instr.sliceBounds,Instr.sliceBound,asIntOf,run_underlying hu,b0,e1,e2,h1,h2,Addr.add_lit] <;>
   (split<;>rfl)
 simp only[execOp,Instr.sliceAt,Sem.run_bind,run_underlying hu,Result.andThen_ok,hx,Option.map_none,a0,Sem.run_pure]
def ArT(P:Program)(ty len size:Nat):Prop:=∃el,P.underlying ty=some (.array len el)∧(∀w:World,(sizeOf el).run P w=.ok size w)∧(size=1→∀w:World,(isAgg el).run P w=.ok false w)
theorem r7b{ty len el size:Nat}(hu:P.underlying ty=some (.array len el))(hz:(P.info? el).map (·.size)=some size)(ha:size=1→∀w:World,(isAgg el).run P w=.ok false w):ArT P ty len size :=
 ⟨el,hu,fun w=>by
  cases hi:P.info? el with
  | none=>rw[hi] at hz;cases hz
  | some i=>rw[hi] at hz;simp at hz;simp[sizeOf,typeInfo,hi,hz],ha⟩
theorem J6a{ty len size b o:Nat}(hT:ArT P ty len size)(hx:ev e x=.pointer (some ⟨b,o,none⟩))(hy:ev e y=.int kd a)(h0:0≤a)(h1:a<len)(hd:Nat.ble (d+1) N=true)
 (h:WL P r N ops rest K D (upd e d (.pointer (some ⟨b,o+a.toNat*size,none⟩))) w):WL P r N ops (⟨some d,.indexAddr ty x y,t,p,af,none⟩::rest) K D e w:=by
 obtain⟨_,hu,a0,_⟩:=hT;exact k1a rfl rfl hd (by simp) (by simp[execOp,Instr.indexAt,Instr.sureAddr,hx,hy,asIntOf,run_underlying hu,h0,h1,a0,Addr.add_lit]) h
theorem w6b{ty len:Nat}{cs:Array Value}{v:Value}(hT:ArT P ty len 1)(hx:ev e x=.agg cs)(hy:ev e y=.int kd a)(h0:0≤a)(h1:a<len)(hv:cs[a.toNat]?=some v)(hd:Nat.ble (d+1) N=true)
 (h:WL P r N ops rest K D (upd e d v) w):WL P r N ops (⟨some d,.index ty x y,t,p,af,none⟩::rest) K D e w:=by
 obtain⟨_,hu,a0,ha⟩:=hT;exact k1a rfl rfl hd (by simp) (by simp[execOp,Instr.index,hx,hy,asIntOf,run_underlying hu,h0,h1,a0,part,ha rfl,hv]) h
def s0b(a b:Int):Int:=bits .and .i64 a b
def bor(a b:Int):Int:=bits .or .i64 a b
def j0c(a b:Int):Int:=bits .xor .i64 a b
def wr(a:Int):Int:=IntKind.i64.wrap a
theorem U4c(hx:ev e x=.int .i64 a)(hy:ev e y=.int .i64 b)(hd:Nat.ble (d+1) N=true)(h:WL P r N ops rest K D (upd e d (.int .i64 (wr (a+b)))) w):
 WL P r N ops (⟨some d,.binOp .add xt x y yt,t,p,af,none⟩::rest) K D e w :=
 k1a rfl rfl hd (by simp) (by simp[execOp,hx,hy,eqGuard_add,binOp_add,Op.intArith,wr]) h
theorem U8c(hx:ev e x=.int .i64 a)(hy:ev e y=.int .i64 b)(hd:Nat.ble (d+1) N=true)(h:WL P r N ops rest K D (upd e d (.int .i64 (wr (a*b)))) w):
 WL P r N ops (⟨some d,.binOp .mul xt x y yt,t,p,af,none⟩::rest) K D e w :=
 k1a rfl rfl hd (by simp) (by simp[execOp,hx,hy,eqGuard_mul,binOp_mul,Op.intArith,wr]) h
theorem I8c(hx:ev e x=.int .i64 a)(hd:Nat.ble (d+1) N=true)(h:WL P r N ops rest K D (upd e d (.int .i64 (wr (0-a)))) w):
 WL P r N ops (⟨some d,.unOp .neg xt x,t,p,af,none⟩::rest) K D e w :=
 k1a rfl rfl hd (by simp) (by simp only[execOp,hx,Op.unary,Op.intArith,Sem.run_bind,Sem.run_pure,Result.andThen_ok,wr]) h
theorem w4c{n:Nat}(hx:ev e x=.int .i64 1)(hy:ev e y=.int .i64 (n:Int))(hn:n≤62)(hd:Nat.ble (d+1) N=true)(h:WL P r N ops rest K D (upd e d (.int .i64 ((2 ^ n:Nat):Int))) w):
 WL P r N ops (⟨some d,.binOp .shl xt x y yt,t,p,af,none⟩::rest) K D e w :=
 k1a rfl rfl hd (by simp) (by
  have h2:(2:Nat) ^ n≤2 ^ 62:=Nat.pow_le_pow_right (by omega) hn;have h3:min n IntKind.i64.bits=n:=by simp[IntKind.bits];omega
  have h4:((1:Int)*2 ^ n)=((2 ^ n:Nat):Int):=by simp
  have h5:IntKind.i64.wrap ((2 ^ n:Nat):Int)=((2 ^ n:Nat):Int):=by
   generalize (2:Nat) ^ n=q at h2;exact F4a ⟨by omega,by omega⟩
  have h6:¬((n:Int)<0):=by omega
  simp only[execOp,hx,hy,eqGuard_shl,binOp_shl,Op.shift,h6,if_false,Int.toNat_natCast,h3,h4,h5,Sem.run_bind,Sem.run_pure,Result.andThen_ok]) h
def k0a(cs:List Value)(o:Nat):List Value→List Value
 | []=>cs
 | v::vs=>k0a (cs.set o v) (o+1) vs
theorem St.setN{g tb kk o:Nat}:∀(vs:List Value) (i:Nat) (cs:List Value) (w:World) (L:List Ent),L[kk]?=some (some g,tb,cs)→St M w0 w L→o+i+vs.length≤cs.length→(∀v∈vs,h7c v=true) →
 ∃w1,(storeCells ⟨g,o,none⟩ vs i).run P w=.ok () w1∧St M w0 w1 (L.set kk (some g,tb,k0a cs (o+i) vs))∧y0a [g] w w1:=by
 intro vs
 induction vs with
 | nil =>
   intro i cs w L hk S _ _;refine⟨w,rfl,?_,y0a.refl _ _⟩;obtain⟨b0,he⟩:=List.getElem?_eq_some_iff.1 hk;have:L.set kk (some g,tb,cs)=L:=by rw[←he];exact List.set_getElem_self b0
   simp only[k0a,this];exact S
 | cons v vs ih =>
   intro i cs w L hk S a0 h1;simp only[List.length_cons] at a0;have hb:=S.blk kk hk;have b0:o+i<cs.length:=by omega
   have hc:w.cell? ⟨g,o+i,none⟩=some cs[o+i]:=hb.cell (List.getElem?_eq_getElem b0);have hf:=hb.frozen (o+i);have f0:h7c v=true:=h1 v (by simp);have e0:(store ⟨g,o+i,none⟩ v).run P w=.ok () (w.setCell ⟨g,o+i,none⟩ v):=by
    cases v<;>first|(cases f0;done)|simp[store,Sem.run,hc,hf]
   have S1:=S.set kk hk (o+i) v;have d0:kk<L.length:=(List.getElem?_eq_some_iff.1 hk).1;obtain⟨w1,h2,h3,h4⟩:=ih (i+1) (cs.set (o+i) v) (w.setCell ⟨g,o+i,none⟩ v) (L.set kk (some g,tb,cs.set (o+i) v)) (by simp[d0]) S1 (by simp;omega) (fun u hu=>h1 u (by simp[hu]));refine⟨w1,?_,?_,(q9a w g (o+i) v).trans h4⟩
   ·simp only[storeCells,Addr.add_lit,Sem.run_bind,e0,Result.andThen_ok,h2]
   ·rw[List.set_set] at h3;simpa only[k0a,Nat.add_assoc] using h3
theorem e0a{ty g o tb kk n:Nat}{cs vs:List Value}{av:Array Value}(S:St M w0 w L)(hz:Sz P ty n)(hx:ev e x=.pointer (some ⟨g,o,none⟩))(hy:ev e y=.agg av)(a0:av.toList=vs)(hn:vs.length=n)(h1:vs.all h7c=true)(hk:L[kk]?=some (some g,tb,cs))(ho:Nat.ble (o+n) cs.length=true)
 (h:∀w1,St M w0 w1 (L.set kk (some g,tb,k0a cs o vs))→y0a [g] w w1→WL P r N ops rest K D e w1) :
 WL P r N ops (⟨none,.store ty x y,t,p,af,none⟩::rest) K D e w:=by
 have d0:=Nat.le_of_ble_eq_true ho;obtain⟨w1,h2,h3,h4⟩:=St.setN (P:=P) (o:=o) vs 0 cs w L hk S (by omega) (fun v hv=>List.all_eq_true.1 h1 v hv);refine G5b rfl rfl (by simp) ?_ (h w1 h3 h4);have b0:av.size=n:=by rw[←hn,←a0];simp
 simp only[execOp,hx,hy,Instr.storeAt,Instr.sureAddr,Sem.run_bind,Sem.run_pure,Result.andThen_ok,storeVar,Value.cells,hz w,b0,ne_eq,not_true,if_false,a0,h2]
theorem St.push_more{w1:World}{L1:List Ent}(S:St M w0 w1 (L1++L))(Sw:St M w0 w L){g t:Nat}{cs:List Value}(hg:p0a w1 (g,t,cs))(a0:w.heap.size≤g)(hn:∀b∈L1,b.1≠some g):St M w0 w1 ((some g,t,cs)::(L1++L)) :=
 S.push hg (.inl (Nat.le_trans Sw.size a0)) (fun b hb=>by
  rcases List.mem_append.1 hb with h|h
  ·exact hn b h
  ·intro hh;have:=(Sw.own b h g hh).2.lt;simp at this;omega)
end
def X7c(o:Oper):List Nat:=(o.after.toList.filter (Region.binds .any ·)).map (·.on)
def m1a(l:List Oper)(i:Nat):List Nat:=((l[i]?).map X7c).getD []
def L2b(l:List Oper):Nat→List Nat→List Nat
 | 0,m=>m
 | f+1,m=>L2b l f ((m++m.flatMap (m1a l)).eraseDups)
def Lst(listed:Array Bool)(i:Nat):Prop:=listed.getD i false=true
def C7b(l:List Oper)(listed:Array Bool):Prop:=∀i,Lst listed i→∀j∈m1a l i,Lst listed j
theorem c7a{l:List Oper}{listed:Array Bool}(hc:C7b l listed):∀(f:Nat) (m:List Nat),(∀i∈m,Lst listed i)→∀i∈L2b l f m,Lst listed i:=by
 intro f
 induction f with
 | zero=>exact fun m h=>h
 | succ f ih =>
   intro m h;refine ih _ fun i hi=>?_;rw[List.mem_eraseDups,List.mem_append] at hi;rcases hi with hi|hi
   ·exact h i hi
   ·obtain⟨j,hj,a0⟩:=List.mem_flatMap.1 hi;exact hc j (h j hj) i a0
def j4a(l:List Oper)(i:Nat):List Nat:=L2b l l.length (m1a l i)
theorem q4b{l:List Oper}{listed:Array Bool}(hc:C7b l listed){i:Nat}(h:Lst listed i):∀j∈j4a l i,Lst listed j:=c7a hc _ _ (hc i h)
theorem y7a{l:List Oper}{listed:Array Bool}(hc:C7b l listed){i:Nat}(h:∀j∈m1a l i,Lst listed j):∀j∈j4a l i,Lst listed j:=c7a hc _ _ h
def U1a(l:List Oper)(i:Nat):Option Nat:=(l[i]?).bind (·.dst)
def looksAt(l:List Oper)(i:Nat):List Nat:=((l[i]?).map (Oper.looksAt l.toArray)).getD []
def Op.isSelect:Op→Bool
 | .select _ _=>true
 | _=>false
def Op.isDefer:Op→Bool
 | .defer _=>true
 | _=>false
def ready(l:List Oper)(listed:List Nat):List Nat :=
 (List.range l.length).filter fun i=>!listed.contains i&&(m1a l i).all (listed.contains ·)
def L1b(l:List Oper):List Nat→List Nat→Bool
 | listed,[]=>ready l listed==[]
 | listed,t::ts=>ready l listed==[t]&&L1b l (t::listed) ts
def q9b(l:List Oper)(A B T:List Nat):Bool :=
 ((List.range l.length).all fun i=>(A++B++T).contains i)&&((A++B++T).all fun i=>decide (i<l.length))&&decide ((A++B++T).Pairwise (·≠·)) &&
 ((A++B).all fun i=>(U1a l i).isSome)&&decide (((A++B).map (U1a l)).Pairwise (·≠·)) &&
 (l.all fun o=>!Op.isSelect o.op&&!Op.isDefer o.op)&&((List.range l.length).all fun i=>(m1a l i).all fun j=>decide (j<i)) &&
 ((List.range A.length).all fun p=>(List.range A.length).all fun q =>
   let i:=A.getD p 0;let j:=A.getD q 0
   !((U1a l j).any fun s=>(looksAt l i).contains s)||(if q<p then(j4a l i).contains j else if p<q then(j4a l j).contains i else false)) &&
 (A.all fun i=>B.all fun j=>!((U1a l j).any fun s=>(looksAt l i).contains s)) &&
 (B.all fun i=>A.all fun j=>!((U1a l j).any fun s=>(looksAt l i).contains s)||(j4a l i).contains j) &&
 (B.all fun i=>B.all fun j=>!((U1a l j).any fun s=>(looksAt l i).contains s)) &&
 (T.all fun t=>(A++B).all fun i=>(j4a l t).contains i) &&
 L1b l (A++B) T
def R3a(e:Env):List (Nat×Value)→Env
 | []=>e
 | (d,v)::r=>R3a (upd e d v) r
theorem t5a:∀(l:List (Nat×Value)) (e:Env) (s:Nat),s∉l.map (·.1)→R3a e l s=e s
 | [],_,_,_=>rfl
 | (d,v)::r,e,s,h=>by
   have h1:s≠d:=fun hh=>h (by simp[hh]);rw[R3a,t5a r _ s (fun hh=>h (by simp[hh])),F1a _ _ h1]
theorem n6a:∀(l:List (Nat×Value)) (e:Env) (k d:Nat) (v:Value),(l.map (·.1)).Pairwise (·≠·)→l[k]?=some (d,v)→R3a e l d=v
 | [],_,_,_,_,_,h=>by simp at h
 | (d',v')::r,e,0,d,v,hp,h=>by
   simp only[List.getElem?_cons_zero,Option.some.injEq,Prod.mk.injEq] at h;obtain⟨rfl,rfl⟩:=h;simp only[List.map_cons,List.pairwise_cons] at hp;rw[R3a,t5a r _ _ (fun hm=>(hp.1 _ hm) rfl),j3a]
 | (d',v')::r,e,k+1,d,v,hp,h=>by
   simp only[List.map_cons,List.pairwise_cons] at hp;exact n6a r _ k d v hp.2 (by simpa using h)
def g1a(ops:Array Oper)(e:Env)(o:Oper):Bool :=
 match o.guard with
 | none=>true
 | some (j,want)=>((ops[j]?).bind (·.dst)).any fun s=>isB want (e s)
theorem s1a{ops:Array Oper}{a:Act}(o:Oper):Region.wanted o (yielded ops a.tmps)=g1a ops (W0a a) o:=by
 unfold Region.wanted g1a;cases hg:o.guard with
 | none=>rfl
 | some jw =>
   obtain⟨j,_⟩:=jw;simp only[yielded,W0a,Array.getD_eq_getD_getElem?];cases hd:(ops[j]?).bind (·.dst) with
   | none=>simp
   | some s =>
     simp only[Option.bind_some,Option.any_some];cases hs:a.tmps[s]? with
     | none=>rfl
     | some v=>cases v<;>simp[isB]
def c8c(P:Program)(ops:Array Oper)(C:World→Prop)(o:Oper)(e:Env)(v:Value):Prop :=
 (g1a ops e o=true∧∀w,C w→(execOp (ev e) o).run P w=.ok (.value v) w ∨
   ∃f args,(execOp (ev e) o).run P w=.ok (.enter f args) w∧M0a P f args w (fun v' w'=>v'=v∧C w'∧y0a [] w w')) ∨
 (g1a ops e o=false∧v=undef)
@[irreducible] def QL(P:Program)(N:Nat)(ops:Array Oper)(C:World→Prop)(l:List Oper)(K:Env→Prop)(e:Env):Prop :=
 ∃pa:List (Nat×Value),pa.length=l.length∧(∀p o,l[p]?=some o→∃d v,pa[p]?=some (d,v)∧o.dst=some d∧d<N∧c8c P ops C o (R3a e (pa.take p)) v)∧K (R3a e pa)
section
variable {P:Program} {N:Nat} {ops:Array Oper} {C:World→Prop} {rest:List Oper} {K:Env→Prop} {e:Env}
theorem d0a(h:K e):QL P N ops C [] K e:=by
 unfold QL;exact⟨[],rfl,by simp,h⟩
theorem o5b{o:Oper}{d:Nat}{v:Value}(hd:o.dst=some d)(hN:Nat.ble (d+1) N=true)(hq:c8c P ops C o e v)(h:QL P N ops C rest K (upd e d v)):QL P N ops C (o::rest) K e:=by
 unfold QL at *;obtain⟨pa,hl,hp,hK⟩:=h;refine⟨(d,v)::pa,by simp[hl],?_,hK⟩;intro p o' a0;cases p with
 | zero =>
   simp only[List.getElem?_cons_zero,Option.some.injEq] at a0;subst a0;exact⟨d,v,rfl,hd,Nat.le_of_ble_eq_true hN,hq⟩
 | succ p =>
   simp only[List.getElem?_cons_succ] at a0;obtain⟨d',v',h1,h2,h3,h4⟩:=hp p o' a0;exact⟨d',v',by simpa using h1,h2,h3,by simpa[R3a] using h4⟩
theorem C3a{o:Oper}{d:Nat}{v:Value}(hg:o.guard=none)(hd:o.dst=some d)(hN:Nat.ble (d+1) N=true)(a0:∀w,C w→(execOp (ev e) o).run P w=.ok (.value v) w)
 (h:QL P N ops C rest K (upd e d v)):QL P N ops C (o::rest) K e :=
 o5b hd hN (.inl ⟨by simp[g1a,hg],fun w hw=>.inl (a0 w hw)⟩) h
theorem m7c{o:Oper}{d:Nat}{v:Value}{f:FuncId}{args:Array Value}(hg:o.guard=none)(hd:o.dst=some d)(hN:Nat.ble (d+1) N=true)
 (a0:∀w,(execOp (ev e) o).run P w=.ok (.enter f args) w) (hc:∀w,C w→M0a P f args w (fun v' w'=>v'=v∧C w'∧y0a [] w w')) (h:QL P N ops C rest K (upd e d v)):QL P N ops C (o::rest) K e :=
 o5b hd hN (.inl ⟨by simp[g1a,hg],fun w hw=>.inr ⟨f,args,a0 w,hc w hw⟩⟩) h
theorem J8a{d:Option Nat}{op:Op}{t:TypeId}{p:String}{af:Array Edge}{j s:Nat}{a0:Bool}(hs:(ops[j]?).bind (·.dst)=some s)(hb:isB a0 (e s)=true)
 (h:QL P N ops C (⟨d,op,t,p,af,none⟩::rest) K e):QL P N ops C (⟨d,op,t,p,af,some (j,a0)⟩::rest) K e:=by
 unfold QL at *;obtain⟨pa,hl,hp,hK⟩:=h;refine⟨pa,hl,fun q o hq=>?_,hK⟩;cases q with
 | zero =>
   simp only[List.getElem?_cons_zero,Option.some.injEq] at hq;subst hq;obtain⟨d',v',h1,h2,h3,h4⟩:=hp 0 _ rfl;refine⟨d',v',h1,h2,h3,.inl ⟨by simp[g1a,hs,R3a,hb],fun w hw=>?_⟩⟩;rcases h4 with⟨_,h4⟩|⟨h4,_⟩
   ·exact h4 w hw
   ·simp[g1a] at h4
 | succ q=>exact hp (q+1) o hq
end
abbrev g5a:=Option (Value→World→Prop)
def O0b(φ:Value→World→Prop):Prop:=∀v w w',φ v w→y0a [] w w'→φ v w'
def d5a:Value→Option Nat
 | .slice (some a) _ _=>some a.block
 | .pointer (some a)=>some a.block
 | _=>none
def B0d(P:Program)(C:World→Prop)(o:Oper)(e:Env)(φ:Value→World→Prop):Prop :=
 (∀v w g,φ v w→d5a v=some g→g<w.heap.size) ∧
   ∀w,C w→∃v w',(execOp (ev e) o).run P w=.ok (.value v) w'∧C w'∧y0a [] w w'∧φ v w'∧∀g,d5a v=some g→w.heap.size≤g
def BOk(P:Program)(ops:Array Oper)(C:World→Prop)(o:Oper)(e:Env):g5a→Prop
 | none=>g1a ops e o=false
 | some φ=>g1a ops e o=true∧O0b φ∧(B0d P C o e φ∨∀w,C w→(∃v w',(execOp (ev e) o).run P w=.ok (.value v) w'∧C w'∧y0a [] w w'∧φ v w') ∨
  ∃f args,(execOp (ev e) o).run P w=.ok (.enter f args) w∧M0a P f args w (fun v w'=>C w'∧y0a [] w w'∧φ v w'))
def X1c(w:World)(s:g5a)(v:Value):Prop:=match s with
 | none=>v=undef
 | some φ=>φ v w
def Nw(P:Program)(l:List Oper)(C:World→Prop)(B:List Nat)(sp:List g5a)(e:Env)(q:Nat):Prop :=
 ∃φ b o,sp[q]?=some (some φ)∧B[q]?=some b∧l[b]?=some o∧B0d P C o e φ
def BK(P:Program)(r:Option Nat)(N:Nat)(l:List Oper)(C:World→Prop)(B T:List Nat)(k:List Deferred→Env→World→Prop)(D:List Deferred)(e:Env):Prop :=
 ∃sp:List g5a,sp.length=B.length∧(∀(q b:Nat) (o:Oper) (s:g5a),B[q]?=some b→l[b]?=some o→sp[q]?=some s→BOk P l.toArray C o e s) ∧
  ∀(w:World) (V:Nat→Value),C w→(∀(q:Nat) (s:g5a),sp[q]?=some s→X1c w s (V q)) →
   (∀q q' g,q≠q'→Nw P l C B sp e q→Nw P l C B sp e q'→d5a (V q)=some g→d5a (V q')=some g→False) →
   WL P r N l.toArray (T.filterMap (l[·]?)) k D (R3a e ((List.range B.length).map fun q=>((U1a l (B.getD q 0)).getD 0,V q))) w
section
variable {P:Program} {r:Option Nat} {N:Nat} {l:List Oper} {Q:Exit→Act→World→Prop}
theorem a9a(h:((List.range l.length).all fun i=>(m1a l i).all fun j=>decide (j<i))=true){i j:Nat}(hj:j∈m1a l i):j<i:=by
 have hi:i<l.length:=by
  rcases Nat.lt_or_ge i l.length with h'|h'
  ·exact h'
  ·simp[m1a,List.getElem?_eq_none h'] at hj
 simpa using List.all_eq_true.1 (List.all_eq_true.1 h i (List.mem_range.2 hi)) j hj
theorem L4a{listed:Array Bool}{i:Nat}(b0:listed.size=l.length):i∈Region.ready .any l.toArray listed↔(i<l.length∧¬Lst listed i∧∀j∈m1a l i,Lst listed j):=by
 rw[mem_ready];constructor
 ·rintro⟨h1,o,ho,h2⟩;have a0:l[i]?=some o:=by simpa using ho
  have hi:i<l.length:=(List.getElem?_eq_some_iff.1 a0).1;refine⟨hi,?_,fun j hj=>?_⟩
  ·unfold Lst;have:i<listed.size:=by omega
   simp[this] at h1 ⊢;exact h1
  ·simp only[m1a,a0,Option.map_some,Option.getD_some,X7c,List.mem_map,List.mem_filter] at hj;obtain⟨ed,⟨he,hb⟩,rfl⟩:=hj;exact h2 ed (by simpa using he) hb
 ·rintro⟨hi,h1,h2⟩;refine⟨?_,l[i],by simp[hi],fun ed he hb=>h2 _ ?_⟩
  ·unfold Lst at h1;have:i<listed.size:=by omega
   simp[this] at h1 ⊢;exact h1
  ·simp only[m1a,List.getElem?_eq_getElem hi,Option.map_some,Option.getD_some,X7c,List.mem_map,List.mem_filter];exact⟨ed,⟨by simpa using he,hb⟩,rfl⟩
theorem E2a{listed:Array Bool}{i j:Nat}(hi:i<listed.size):Lst (listed.setIfInBounds i true) j↔j=i∨Lst listed j:=by
 unfold Lst;by_cases h:i=j
 ·subst h;simp[hi]
 ·have h':j≠i:=fun e=>h e.symm;simp[Array.getElem?_setIfInBounds_ne h,h']
theorem B7b:∀(T a0:List Nat) (listed:Array Bool) (fuel:Nat) (a:Act) (w:World),L1b l a0 T=true→listed.size=l.length→(∀i,Lst listed i↔i∈a0)→T.length≤fuel →
 wpListIn (fc r) 0 P l.toArray Q (T.filterMap (l[·]?)) a w→wpAnyIn (fc r) 0 P .any l.toArray Q fuel listed a w:=by
 have e0:∀(a0:List Nat) (listed:Array Bool),listed.size=l.length→(∀i,Lst listed i↔i∈a0)→∀i,i∈Region.ready .any l.toArray listed↔i∈ready l a0:=by
  intro a0 listed b0 hd i;rw[L4a b0];unfold ready;simp only[List.mem_filter,List.mem_range,Bool.and_eq_true,Bool.not_eq_true',List.all_eq_true,List.contains_eq_mem,decide_eq_true_eq,decide_eq_false_iff_not,hd]
 intro T
 induction T with
 | nil =>
   intro a0 listed fuel a w hf b0 hd _ h;simp only[L1b,beq_iff_eq] at hf;have h0:Region.ready .any l.toArray listed=[]:=by
    apply List.eq_nil_iff_forall_not_mem.2;intro i hi;rw[e0 a0 listed b0 hd,hf] at hi;cases hi
   cases fuel with
   | zero=>exact⟨h0,h⟩
   | succ f=>exact⟨fun _=>h,fun i hi=>by rw[h0] at hi;cases hi⟩
 | cons t ts ih =>
   intro a0 listed fuel a w hf b0 hd f0 h;simp only[L1b,Bool.and_eq_true,beq_iff_eq] at hf;obtain⟨hr,hf⟩:=hf;cases fuel with
   | zero=>simp at f0
   | succ f =>
     have ht:t∈Region.ready .any l.toArray listed:=by rw[e0 a0 listed b0 hd,hr];simp
     have g0:t<l.length:=((L4a b0).1 ht).1;refine⟨fun h0=>(by rw[h0] at ht;cases ht),fun i hi=>?_⟩;have i0:i=t:=by rw[e0 a0 listed b0 hd,hr] at hi;simpa using hi
     subst i0;have d0:l[i]?=some l[i]:=List.getElem?_eq_getElem g0;simp only[List.filterMap_cons,d0] at h;unfold wpOpIn;have:(l.toArray)[i]?=some l[i]:=by simp[g0]
     simp only[this];simp only[wpListIn] at h;have step:∀a w,wpListIn (fc r) 0 P l.toArray Q (ts.filterMap (l[·]?)) a w→wpAnyIn (fc r) 0 P .any l.toArray Q f (listed.setIfInBounds i true) a w:=fun a w h =>
      ih (i::a0) _ f a w hf (by simp[b0]) (fun j=>by rw[E2a (by omega),hd];simp) (by simpa using f0) h
     split
     ·rename_i hw;simp only[hw,if_true] at h;exact Oper.wpIn_mono step h
     ·rename_i hw;simp only[hw] at h;exact⟨h.1,step _ _ h.2⟩
structure i4a (l:List Oper) (A B T:List Nat):Prop where
 bound:∀i∈A++B++T,i<l.length
 nodup:(A++B++T).Pairwise (·≠·)
 all_:∀i,i<l.length→i∈A++B++T
 some_:∀i∈A++B,(U1a l i).isSome=true
 dst:((A++B).map (U1a l)).Pairwise (·≠·)
 plain:∀o∈l,Op.isSelect o.op=false∧Op.isDefer o.op=false
 back:((List.range l.length).all fun i=>(m1a l i).all fun j=>decide (j<i))=true
 AA:∀(p q i j s:Nat),A[p]?=some i→A[q]?=some j→U1a l j=some s→s∈looksAt l i→(q<p∧j∈j4a l i)∨(p<q∧i∈j4a l j)
 AB:∀i∈A,∀j∈B,∀s,U1a l j=some s→s∉looksAt l i
 BA:∀i∈B,∀j∈A,∀s,U1a l j=some s→s∈looksAt l i→j∈j4a l i
 BB:∀i∈B,∀j∈B,∀s,U1a l j=some s→s∉looksAt l i
 TT:∀t∈T,∀i∈A++B,i∈j4a l t
 force:L1b l (A++B) T=true
theorem F5b{A B T:List Nat}(h:q9b l A B T=true):i4a l A B T:=by
 unfold q9b at h;simp only[Bool.and_eq_true] at h;obtain⟨⟨⟨⟨⟨⟨⟨⟨⟨⟨⟨⟨h1,h2⟩,h3⟩,h4⟩,h5⟩,h6⟩,h7⟩,h8⟩,h9⟩,b0⟩,d0⟩,e0⟩,f0⟩:=h;refine⟨fun i hi=>?_,of_decide_eq_true h3,fun i hi=>by simpa using List.all_eq_true.1 h1 i (List.mem_range.2 hi),fun i hi=>List.all_eq_true.1 h4 i hi,of_decide_eq_true h5,fun o ho=>?_,h7,?_,?_,?_,?_,fun t ht i hi=>?_,f0⟩
 ·simpa using List.all_eq_true.1 h2 i hi
 ·have:=List.all_eq_true.1 h6 o ho;simp only[Bool.and_eq_true,Bool.not_eq_true'] at this;exact this
 ·intro p q i j s hp hq hd hs;have g0:p<A.length:=(List.getElem?_eq_some_iff.1 hp).1;have h0:q<A.length:=(List.getElem?_eq_some_iff.1 hq).1;have:=List.all_eq_true.1 (List.all_eq_true.1 h8 p (List.mem_range.2 g0)) q (List.mem_range.2 h0);simp only[List.getD_eq_getElem?_getD,hp,hq,Option.getD_some,hd,Option.any_some,Bool.or_eq_true,Bool.not_eq_true',List.contains_eq_mem,decide_eq_false_iff_not] at this;rcases this with h|h
  ·exact absurd hs h
  ·split at h
   ·rename_i a0;exact .inl ⟨a0,by simpa using h⟩
   ·split at h
    ·rename_i a0;exact .inr ⟨a0,by simpa using h⟩
    ·cases h
 ·intro i hi j hj s hd hs;have:=List.all_eq_true.1 (List.all_eq_true.1 h9 i hi) j hj;simp[hd,hs] at this
 ·intro i hi j hj s hd hs;have:=List.all_eq_true.1 (List.all_eq_true.1 b0 i hi) j hj;simpa[hd,hs] using this
 ·intro i hi j hj s hd hs;have:=List.all_eq_true.1 (List.all_eq_true.1 d0 i hi) j hj;simp[hd,hs] at this
 ·have:=List.all_eq_true.1 (List.all_eq_true.1 e0 t ht) i hi;simpa using this
theorem L2c{e e':Env}{o:Oper}(h:∀s∈Oper.looksAt l.toArray o,e s=e' s):∀x∈o.op.operands,ev e x=ev e' x:=by
 intro x hx;cases x with
 | tmp t =>
   refine h t (List.mem_append_left _ (List.mem_filterMap.2 ⟨.tmp t,by simpa using hx,rfl⟩))
 | _=>rfl
theorem V0a{e e':Env}{o:Oper}(h:∀s∈Oper.looksAt l.toArray o,e s=e' s):g1a l.toArray e o=g1a l.toArray e' o:=by
 unfold g1a;cases hg:o.guard with
 | none=>rfl
 | some jw =>
   obtain⟨j,a0⟩:=jw;show Option.any (fun s=>isB a0 (e s)) _=Option.any (fun s=>isB a0 (e' s)) _;cases hd:(l.toArray[j]?).bind (·.dst) with
   | none=>simp only[Option.any_none]
   | some s =>
     have hm:s∈Oper.looksAt l.toArray o:=List.mem_append_right _ (by simp only[hg,hd];simp);simp only[Option.any_some,h s hm]
theorem v1a{e e':Env}{o:Oper}(hs:Op.isSelect o.op=false)(h:∀s∈Oper.looksAt l.toArray o,e s=e' s):execOp (ev e) o=execOp (ev e') o :=
 execOp_congr o (fun cs b hh=>by rw[hh] at hs;cases hs) (L2c h)
structure Inv (l:List Oper) (A B T:List Nat) (C:World→Prop) (N:Nat) (D:List Deferred) (e:Env) (pa:List (Nat×Value)) (sp:List g5a) (nw:Nat→Prop) (listed:Array Bool) (a:Act) (w:World):Prop where
 lsz:listed.size=l.length
 asz:a.tmps.size=N
 adf:a.defers=D
 inC:C w
 clo:C7b l listed
 noT:∀t∈T,¬Lst listed t
 hA:∀(p i d:Nat) (v:Value),A[p]?=some i→Lst listed i→pa[p]?=some (d,v)→W0a a d=v
 hB:∀(q b:Nat) (s:g5a),B[q]?=some b→Lst listed b→sp[q]?=some s→∀d,U1a l b=some d→X1c w s (W0a a d)
 rest:∀s,(∀i∈A++B,Lst listed i→U1a l i≠some s)→W0a a s=e s
 apart:∀(q q' b b' d d' g:Nat),q≠q'→nw q→nw q'→B[q]?=some b→B[q']?=some b'→Lst listed b→Lst listed b'→U1a l b=some d→U1a l b'=some d'→d5a (W0a a d)=some g→d5a (W0a a d')=some g→False
theorem k5a{X:List Nat}(h:X.Pairwise (·≠·)){p q i:Nat}(hp:X[p]?=some i)(hq:X[q]?=some i):p=q:=V4b h hp hq
theorem W9b{X:List (Option Nat)}(h:X.Pairwise (·≠·)){i j:Nat}{a:Option Nat}(hi:X[i]?=some a)(hj:X[j]?=some a):i=j:=by
 induction X generalizing i j with
 | nil=>simp at hi
 | cons x xs ih =>
   obtain⟨hx,a0⟩:=List.pairwise_cons.1 h;cases i<;>cases j
   ·rfl
   ·simp at hi hj;subst hi;exact absurd rfl (hx _ (List.mem_of_getElem? hj))
   ·simp at hi hj;subst hj;exact absurd rfl (hx _ (List.mem_of_getElem? hi))
   ·simp at hi hj;rw[ih a0 hi hj]
theorem i4a.same{A B T:List Nat}(ok:i4a l A B T){i j s:Nat}(hi:i∈A++B)(hj:j∈A++B)(hs:U1a l i=some s)(a0:U1a l j=some s):i=j:=by
 obtain⟨p,hp⟩:=List.getElem?_of_mem hi;obtain⟨q,hq⟩:=List.getElem?_of_mem hj;have h1:((A++B).map (U1a l))[p]?=some (some s):=by simp only[List.getElem?_map,hp,Option.map_some,hs]
 have h2:((A++B).map (U1a l))[q]?=some (some s):=by simp only[List.getElem?_map,hq,Option.map_some,a0]
 have:=W9b ok.dst h1 h2;subst this;rw[hp] at hq;exact Option.some.inj hq
theorem S3a{w w':World}(h:y0a [] w w'){b:Blk}(hb:p0a w b):p0a w' b:=(h.same b.1 hb.lt (by simp)).trans hb
theorem X1c.keep{w w':World}(h:y0a [] w w'){s:g5a}{v:Value}(hs:∀φ,s=some φ→O0b φ)(hb:X1c w s v):X1c w' s v:=by
 cases s with
 | none=>exact hb
 | some φ=>exact hs φ rfl v w w' hb h
section
variable {A B T:List Nat} {C:World→Prop} {D:List Deferred} {e:Env} {pa:List (Nat×Value)} {sp:List g5a} {nw:Nat→Prop} {listed:Array Bool} {a:Act} {w w':World}
theorem i4a.disj{A B T:List Nat}(ok:i4a l A B T){i:Nat}(hi:i∈A)(hj:i∈B):False:=by
 have:=ok.nodup;rw[List.append_assoc,List.pairwise_append] at this;exact this.2.2 i hi i (List.mem_append_left _ hj) rfl
theorem i4a.disjT{A B T:List Nat}(ok:i4a l A B T){i:Nat}(hi:i∈A++B)(hj:i∈T):False:=by
 have:=ok.nodup;rw[List.pairwise_append] at this;exact this.2.2 i hi i hj rfl
theorem i4a.nodA{A B T:List Nat}(ok:i4a l A B T):A.Pairwise (·≠·):=by
 have:=ok.nodup;rw[List.append_assoc,List.pairwise_append] at this;exact this.1
theorem i4a.nodB{A B T:List Nat}(ok:i4a l A B T):B.Pairwise (·≠·):=by
 have:=ok.nodup;rw[List.append_assoc,List.pairwise_append] at this;have:=this.2.1;rw[List.pairwise_append] at this;exact this.1
theorem Inv.stepA(I:Inv l A B T C N D e pa sp nw listed a w)(ok:i4a l A B T)(t0:∀(p i d:Nat) (v:Value),A[p]?=some i→pa[p]?=some (d,v)→U1a l i=some d)
 {p i d:Nat} {v:Value} (hp:A[p]?=some i) (s0:pa[p]?=some (d,v)) (v0:d<N)
 (o0:∀j∈m1a l i,Lst listed j) (z0:∀(q:Nat) (φ:Value→World→Prop),sp[q]?=some (some φ)→O0b φ) (hC:C w') (hk:y0a [] w w'):Inv l A B T C N D e pa sp nw (listed.setIfInBounds i true) (a.put (some d) v) w':=by
 have hd:=t0 p i d v hp s0;have b0:i∈A:=List.mem_of_getElem? hp;have f0:i∈A++B:=List.mem_append_left _ b0;have e0:i<listed.size:=by rw[I.lsz];exact ok.bound i (List.mem_append_left _ f0)
 have a0:W0a (a.put (some d) v)=upd (W0a a) d v:=e1a v (by rw[I.asz];exact v0);refine⟨by simp[I.lsz],by simp[Act.put,I.asz],by simp[Act.put,I.adf],hC,?_,?_,?_,?_,?_,?_⟩
 ·intro j hj m hm;rw[E2a e0] at hj ⊢;rcases hj with rfl|hj
  ·exact .inr (o0 m hm)
  ·exact .inr (I.clo j hj m hm)
 ·intro t ht hl;rw[E2a e0] at hl;rcases hl with rfl|hl
  ·exact ok.disjT f0 ht
  ·exact I.noT t ht hl
 ·intro p' i' d' v' i0 hl d0;rw[a0];rw[E2a e0] at hl;by_cases j0:i'=i
  ·subst j0;have:=k5a ok.nodA hp i0;subst this;rw[s0] at d0;obtain⟨rfl,rfl⟩:=Prod.mk.inj (Option.some.inj d0);rw[j3a]
  ·rcases hl with hl|hl
   ·exact absurd hl j0
   ·by_cases h0:d'=d
    ·subst h0;exact absurd (ok.same (List.mem_append_left _ (List.mem_of_getElem? i0)) f0 (t0 p' i' d' v' i0 d0) hd) j0
    ·rw[F1a _ _ h0];exact I.hA p' i' d' v' i0 hl d0
 ·intro q b s hq hl hs d' g0;have n0:Lst listed b:=by
   rw[E2a e0] at hl;rcases hl with rfl|hl
   ·exact(ok.disj b0 (List.mem_of_getElem? hq)).elim
   ·exact hl
  have h0:d'≠d:=by
   rintro rfl;have:=ok.same (List.mem_append_right _ (List.mem_of_getElem? hq)) f0 g0 hd;subst this;exact ok.disj b0 (List.mem_of_getElem? hq)
  rw[a0,F1a _ _ h0];exact(I.hB q b s hq n0 hs d' g0).keep hk (fun φ hφ=>z0 q φ (by rw[hs,hφ]))
 ·intro s hs;have y0:s≠d:=by
   rintro rfl;exact hs i f0 ((E2a e0).2 (.inl rfl)) hd
  rw[a0,F1a _ _ y0];exact I.rest s fun j hj hl=>hs j hj ((E2a e0).2 (.inr hl))
 ·intro q q' b b' d1 d2 g x0 n1 n2 hq u0 hl n0 p0 q0;have key:∀(q b d':Nat),B[q]?=some b→Lst (listed.setIfInBounds i true) b→U1a l b=some d'→Lst listed b∧W0a (a.put (some d) v) d'=W0a a d':=by
   intro q b d' hq hl g0;have r0:b≠i:=by rintro rfl;exact ok.disj b0 (List.mem_of_getElem? hq)
   refine⟨?_,?_⟩
   ·rw[E2a e0] at hl;rcases hl with hl|hl
    ·exact absurd hl r0
    ·exact hl
   ·rw[a0,F1a];rintro rfl;exact r0 (ok.same (List.mem_append_right _ (List.mem_of_getElem? hq)) f0 g0 hd)
  obtain⟨k1,k2⟩:=key q b d1 hq hl p0;obtain⟨k3,k4⟩:=key q' b' d2 u0 n0 q0;rw[k2,k4];exact I.apart q q' b b' d1 d2 g x0 n1 n2 hq u0 k1 k3 p0 q0
theorem Inv.stepB(I:Inv l A B T C N D e pa sp nw listed a w)(ok:i4a l A B T)(H0:∀(p i d:Nat) (v:Value),A[p]?=some i→pa[p]?=some (d,v)→U1a l i=some d)
 {q i d:Nat} {s:g5a} {v:Value} (hq:B[q]?=some i) (J0:sp[q]?=some s) (hd:U1a l i=some d) (D0:d<N)
 (v0:∀j∈m1a l i,Lst listed j) (K0:∀(q:Nat) (φ:Value→World→Prop),sp[q]?=some (some φ)→O0b φ) (G0:∀q,nw q→∃φ,sp[q]?=some (some φ)∧∀v w g,φ v w→d5a v=some g→g<w.heap.size) (B0:nw q→∀g,d5a v=some g→w.heap.size≤g) (hC:C w') (hk:y0a [] w w') (hs:X1c w' s v) :
 Inv l A B T C N D e pa sp nw (listed.setIfInBounds i true) (a.put (some d) v) w':=by
 have x0:i∈B:=List.mem_of_getElem? hq;have g0:i∈A++B:=List.mem_append_right _ x0;have e0:i<listed.size:=by rw[I.lsz];exact ok.bound i (List.mem_append_left _ g0)
 have a0:W0a (a.put (some d) v)=upd (W0a a) d v:=e1a _ (by rw[I.asz];exact D0);refine⟨by simp[I.lsz],by simp[Act.put,I.asz],by simp[Act.put,I.adf],hC,?_,?_,?_,?_,?_,?_⟩
 ·intro j hj m hm;rw[E2a e0] at hj ⊢;rcases hj with rfl|hj
  ·exact .inr (v0 m hm)
  ·exact .inr (I.clo j hj m hm)
 ·intro t ht hl;rw[E2a e0] at hl;rcases hl with rfl|hl
  ·exact ok.disjT g0 ht
  ·exact I.noT t ht hl
 ·intro p' i' d' v' r0 hl j0;rw[a0];rw[E2a e0] at hl;have y0:i'≠i:=by rintro rfl;exact ok.disj (List.mem_of_getElem? r0) x0
  rcases hl with hl|hl
  ·exact absurd hl y0
  ·by_cases q0:d'=d
   ·subst q0;exact absurd (ok.same (List.mem_append_left _ (List.mem_of_getElem? r0)) g0 (H0 p' i' d' v' r0 j0) hd) y0
   ·rw[F1a _ _ q0];exact I.hA p' i' d' v' r0 hl j0
 ·intro q' b s' d0 hl f0 d' b0;by_cases h0:q'=q
  ·subst h0;rw[hq] at d0;obtain rfl:=Option.some.inj d0;rw[J0] at f0;obtain rfl:=Option.some.inj f0;rw[hd] at b0;obtain rfl:=Option.some.inj b0;rw[a0,j3a];exact hs
  ·have E0:Lst listed b:=by
    rw[E2a e0] at hl;rcases hl with rfl|hl
    ·exact absurd (k5a ok.nodB d0 hq) h0
    ·exact hl
   have q0:d'≠d:=by
    rintro rfl;have C0:=ok.same (List.mem_append_right _ (List.mem_of_getElem? d0)) g0 b0 hd;subst C0;exact h0 (k5a ok.nodB d0 hq)
   rw[a0,F1a _ _ q0];exact(I.hB q' b s' d0 E0 f0 d' b0).keep hk (fun φ hφ=>K0 q' φ (by rw[f0,hφ]))
 ·intro s' f0;have I0:s'≠d:=by
   rintro rfl;exact f0 i g0 ((E2a e0).2 (.inl rfl)) hd
  rw[a0,F1a _ _ I0];exact I.rest s' fun j hj hl=>f0 j hj ((E2a e0).2 (.inr hl))
 ·intro q1 q2 b1 b2 d1 d2 g h0 n1 n2 s0 n0 F0 z0 p0 i0;have key:∀(q' b d':Nat),q'≠q→B[q']?=some b→Lst (listed.setIfInBounds i true) b→U1a l b=some d'→Lst listed b∧W0a (a.put (some d) v) d'=W0a a d':=by
   intro q' b d' t0 d0 hl b0;have A0:b≠i:=by rintro rfl;exact t0 (k5a ok.nodB d0 hq)
   refine⟨?_,?_⟩
   ·rw[E2a e0] at hl;rcases hl with hl|hl
    ·exact absurd hl A0
    ·exact hl
   ·rw[a0,F1a];rintro rfl;exact A0 (ok.same (List.mem_append_right _ (List.mem_of_getElem? d0)) g0 b0 hd)
  have old:∀(q' b d' g:Nat),nw q'→B[q']?=some b→Lst listed b→U1a l b=some d'→d5a (W0a a d')=some g→g<w.heap.size:=by
   intro q' b d' g hn d0 hl b0 hg;obtain⟨φ,h1,h2⟩:=G0 q' hn;exact h2 _ _ g (I.hB q' b _ d0 hl h1 d' b0) hg
  have o0:∀(b d':Nat),B[q]?=some b→U1a l b=some d'→W0a (a.put (some d) v) d'=v:=by
   intro b d' hb b0;rw[hq] at hb;obtain rfl:=Option.some.inj hb;rw[hd] at b0;obtain rfl:=Option.some.inj b0;rw[a0,j3a]
  by_cases e1:q1=q
  ·have u0:q2≠q:=fun h=>h0 (e1.trans h.symm);obtain⟨k3,k4⟩:=key q2 b2 d2 u0 n0 z0 i0;subst e1;rw[o0 b1 d1 s0 p0,k4];intro h1 h2;have:=B0 n1 g h1;have:=old q2 b2 d2 g n2 n0 k3 i0 h2;omega
  ·obtain⟨k1,k2⟩:=key q1 b1 d1 e1 s0 F0 p0;by_cases e2:q2=q
   ·subst e2;rw[o0 b2 d2 n0 i0,k2];intro h1 h2;have:=B0 n2 g h2;have:=old q1 b1 d1 g n1 s0 k1 p0 h1;omega
   ·obtain⟨k3,k4⟩:=key q2 b2 d2 e2 n0 z0 i0;rw[k2,k4];exact I.apart q1 q2 b1 b2 d1 d2 g h0 n1 n2 s0 n0 k1 k3 p0 i0
theorem S2b(ok:i4a l A B T)(d0:pa.length=A.length)(b0:∀(p i d:Nat) (v:Value),A[p]?=some i→pa[p]?=some (d,v)→U1a l i=some d):(pa.map (·.1)).Pairwise (·≠·):=by
 rw[List.pairwise_iff_getElem];intro p p' h1 h2 e0 a0;simp only[List.length_map] at h1 h2;simp only[List.getElem_map] at a0;have g1:A[p]?=some A[p]:=List.getElem?_eq_getElem (by omega);have g2:A[p']?=some A[p']:=List.getElem?_eq_getElem (by omega);have k1:=b0 p _ pa[p].1 pa[p].2 g1 (List.getElem?_eq_getElem h1);have k2:=b0 p' _ pa[p'].1 pa[p'].2 g2 (List.getElem?_eq_getElem h2);rw[←a0] at k2;have:=ok.same (List.mem_append_left _ (List.mem_of_getElem? g1)) (List.mem_append_left _ (List.mem_of_getElem? g2)) k1 k2;have:=k5a ok.nodA g1 (by rw[g2,this]);omega
theorem Inv.final(I:Inv l A B T C N D e pa sp nw listed a w)(ok:i4a l A B T)(d0:pa.length=A.length)
 (e0:∀(p i d:Nat) (v:Value),A[p]?=some i→pa[p]?=some (d,v)→U1a l i=some d) (b0:∀i∈A++B,Lst listed i)
 : W0a a=R3a (R3a e pa) ((List.range B.length).map fun q=>((U1a l (B.getD q 0)).getD 0,W0a a ((U1a l (B.getD q 0)).getD 0))):=by
 have a0:∀q b:Nat,B[q]?=some b→∃d,U1a l b=some d:=fun q b hq=>by
  have:=ok.some_ b (List.mem_append_right _ (List.mem_of_getElem? hq));exact Option.isSome_iff_exists.1 this
 have o0:(((List.range B.length).map fun q=>((U1a l (B.getD q 0)).getD 0,W0a a ((U1a l (B.getD q 0)).getD 0))).map (·.1)).Pairwise (·≠·):=by
  rw[List.map_map,List.pairwise_map];refine List.Pairwise.imp_of_mem ?_ (List.nodup_range (n:=B.length));intro q q' hq g0 s0 q0;obtain hq:=List.mem_range.1 hq;obtain g0:=List.mem_range.1 g0;have g1:B[q]?=some B[q]:=List.getElem?_eq_getElem hq;have g2:B[q']?=some B[q']:=List.getElem?_eq_getElem g0;obtain⟨d,hd⟩:=a0 q _ g1;obtain⟨_,p0⟩:=a0 q' _ g2;simp only[Function.comp,List.getD_eq_getElem?_getD,g1,g2,Option.getD_some,hd,p0] at q0;subst q0;have:=ok.same (List.mem_append_right _ (List.mem_of_getElem? g1)) (List.mem_append_right _ (List.mem_of_getElem? g2)) hd p0;exact s0 (k5a ok.nodB g1 (by rw[g2,this]))
 have n0:=S2b ok d0 e0
 funext s
 by_cases j0:∃q b:Nat,B[q]?=some b∧U1a l b=some s
 ·obtain⟨q,b,hq,hs⟩:=j0;have h0:q<B.length:=(List.getElem?_eq_some_iff.1 hq).1
  symm
  refine n6a _ _ q s _ o0 ?_;simp only[List.getElem?_map,List.getElem?_range h0,Option.map_some,List.getD_eq_getElem?_getD,hq,Option.getD_some,hs]
 ·rw[t5a _ _ s ?_]
  ·by_cases i0:∃p i:Nat,A[p]?=some i∧U1a l i=some s
   ·obtain⟨p,i,hp,hs⟩:=i0;have t0:p<A.length:=(List.getElem?_eq_some_iff.1 hp).1;have f0:pa[p]?=some pa[p]:=List.getElem?_eq_getElem (by omega);have hd:=e0 p i pa[p].1 pa[p].2 hp f0;rw[hs] at hd;have r0:s=pa[p].1:=Option.some.inj hd;rw[r0,I.hA p i pa[p].1 pa[p].2 hp (b0 i (List.mem_append_left _ (List.mem_of_getElem? hp))) f0];exact(n6a _ _ p _ _ n0 f0).symm
   ·rw[t5a _ _ s ?_]
    ·refine I.rest s fun i hi _ hs=>?_;rcases List.mem_append.1 hi with hi|hi
     ·obtain⟨p,hp⟩:=List.getElem?_of_mem hi;exact i0 ⟨p,i,hp,hs⟩
     ·obtain⟨p,hp⟩:=List.getElem?_of_mem hi;exact j0 ⟨p,i,hp,hs⟩
    ·intro hm;obtain⟨x,hx,rfl⟩:=List.mem_map.1 hm;obtain⟨p,hp⟩:=List.getElem?_of_mem hx;have t0:p<pa.length:=(List.getElem?_eq_some_iff.1 hp).1;have g1:A[p]?=some A[p]:=List.getElem?_eq_getElem (by omega);exact i0 ⟨p,_,g1,e0 p _ x.1 x.2 g1 hp⟩
  ·intro hm;obtain⟨x,hx,rfl⟩:=List.mem_map.1 hm;obtain⟨q,hq,rfl⟩:=List.mem_map.1 hx;have h0:=List.mem_range.1 hq;have g1:B[q]?=some B[q]:=List.getElem?_eq_getElem h0;obtain⟨d,hd⟩:=a0 q _ g1;refine j0 ⟨q,_,g1,?_⟩;simp only[List.getD_eq_getElem?_getD,g1,Option.getD_some,hd]
theorem c1c{i:Nat}{o:Oper}(ho:l[i]?=some o):looksAt l i=Oper.looksAt l.toArray o:=by simp[looksAt,ho]
theorem T3b{X:List Nat}{p q:Nat→Bool}(a0:∀x,q x=true→p x=true){i:Nat}(hi:i∈X)(hp:p i=true)(hq:q i=false):(X.filter q).length<(X.filter p).length:=by
 induction X with
 | nil=>cases hi
 | cons x xs ih =>
   have b0:(xs.filter q).length≤(xs.filter p).length:=by
    clear ih hi
    induction xs with
    | nil=>simp
    | cons y ys ih =>
      simp only[List.filter_cons];by_cases h1:q y=true
      ·simp[h1,a0 y h1,ih]
      ·by_cases h2:p y=true
       ·simp[h1,h2];omega
       ·simp[h1,h2,ih]
   simp only[List.filter_cons];rcases List.mem_cons.1 hi with rfl|hi
   ·simp[hp,hq];omega
   ·have:=ih hi;by_cases h1:q x=true
    ·simp[h1,a0 x h1,this]
    ·by_cases h2:p x=true
     ·simp[h1,h2];omega
     ·simp[h1,h2,this]
theorem b7a{n:Nat}(h:∃i,i<n∧¬Lst listed i):∃i,i<n∧¬Lst listed i∧∀j,j<i→Lst listed j:=by
 obtain⟨i,⟨h1,h2⟩,a0⟩:=u6a h;exact⟨i,h1,h2,fun j hj=>Classical.byContradiction fun hn=>by have:=a0 j ⟨by omega,hn⟩;omega⟩
theorem J3c(ok:i4a l A B T)(v0:pa.length=A.length)(y1:sp.length=B.length)
 (hQ:∀(p i:Nat) (o:Oper),A[p]?=some i→l[i]?=some o→∃d v,pa[p]?=some (d,v)∧o.dst=some d∧d<N∧c8c P l.toArray C o (R3a e (pa.take p)) v)
 (s1:∀(q b d:Nat),B[q]?=some b→U1a l b=some d→d<N)
 (d1:∀(q b:Nat) (o:Oper) (s:g5a),B[q]?=some b→l[b]?=some o→sp[q]?=some s→BOk P l.toArray C o (R3a e pa) s)
 (hT:∀(w:World) (V:Nat→Value) (a:Act),C w→a.tmps.size=N→a.defers=D→(∀(q:Nat) (s:g5a),sp[q]?=some s→X1c w s (V q)) →
   (∀q q' g,q≠q'→Nw P l C B sp (R3a e pa) q→Nw P l C B sp (R3a e pa) q'→d5a (V q)=some g→d5a (V q')=some g→False) →
   W0a a=R3a (R3a e pa) ((List.range B.length).map fun q=>((U1a l (B.getD q 0)).getD 0,V q)) →
   wpListIn (fc r) 0 P l.toArray Q (T.filterMap (l[·]?)) a w) :
 ∀(fuel:Nat) (listed:Array Bool) (a:Act) (w:World),Inv l A B T C N D e pa sp (Nw P l C B sp (R3a e pa)) listed a w→((A++B).filter fun i=>!listed.getD i false).length+T.length≤fuel →
  wpAnyIn (fc r) 0 P .any l.toArray Q fuel listed a w:=by
 have n0:∀(p i d:Nat) (v:Value),A[p]?=some i→pa[p]?=some (d,v)→U1a l i=some d:=by
  intro p i d v hp O0;have hi:i<l.length:=ok.bound i (List.mem_append_left _ (List.mem_append_left _ (List.mem_of_getElem? hp)));obtain⟨d',v',h1,h2,_⟩:=hQ p i l[i] hp (List.getElem?_eq_getElem hi);rw[O0] at h1;obtain⟨rfl,rfl⟩:=Prod.mk.inj (Option.some.inj h1);simp[U1a,List.getElem?_eq_getElem hi,h2]
 have s0:∀(listed:Array Bool) (a:Act) (w:World),Inv l A B T C N D e pa sp (Nw P l C B sp (R3a e pa)) listed a w→∀i,Lst listed i→i∈A++B:=by
  intro listed a w I i hl;have hi:i<l.length:=by
   rw[←I.lsz];rcases Nat.lt_or_ge i listed.size with h'|h'
   ·exact h'
   ·unfold Lst at hl;simp[Array.getElem?_eq_none h'] at hl
  rcases List.mem_append.1 (ok.all_ i hi) with h|h
  ·exact h
  ·exact absurd hl (I.noT i h)
 have H0:∀(q:Nat) (φ:Value→World→Prop),sp[q]?=some (some φ)→O0b φ:=by
  intro q φ hs;have hq:q<B.length:=by have:=(List.getElem?_eq_some_iff.1 hs).1;omega
  have g1:B[q]?=some B[q]:=List.getElem?_eq_getElem hq;have hb:B[q]<l.length:=ok.bound _ (List.mem_append_left _ (List.mem_append_right _ (List.mem_of_getElem? g1)));exact(d1 q _ _ _ g1 (List.getElem?_eq_getElem hb) hs).2.1
 have J0:∀(listed:Array Bool) (a:Act) (w:World),Inv l A B T C N D e pa sp (Nw P l C B sp (R3a e pa)) listed a w→(∀i∈A++B,Lst listed i)→∀(q:Nat) (s:g5a),sp[q]?=some s→X1c w s (W0a a ((U1a l (B.getD q 0)).getD 0)):=by
  intro listed a w I a0 q s hs;have hq:q<B.length:=by have:=(List.getElem?_eq_some_iff.1 hs).1;omega
  have g1:B[q]?=some B[q]:=List.getElem?_eq_getElem hq;have hm:=List.mem_append_right A (List.mem_of_getElem? g1);obtain⟨d,hd⟩:=Option.isSome_iff_exists.1 (ok.some_ _ hm);simp only[List.getD_eq_getElem?_getD,g1,Option.getD_some,hd];exact I.hB q _ s g1 (a0 _ hm) hs d hd
 have Q0:∀q,Nw P l C B sp (R3a e pa) q→∃φ,sp[q]?=some (some φ)∧∀v w g,φ v w→d5a v=some g→g<w.heap.size:=by
  rintro q ⟨φ,b,o,h1,h2,h3,h4⟩;exact⟨φ,h1,h4.1⟩
 have K0:∀(listed:Array Bool) (a:Act) (w:World),Inv l A B T C N D e pa sp (Nw P l C B sp (R3a e pa)) listed a w→(∀i∈A++B,Lst listed i)→∀q q' g,q≠q'→Nw P l C B sp (R3a e pa) q→Nw P l C B sp (R3a e pa) q' →
  d5a (W0a a ((U1a l (B.getD q 0)).getD 0))=some g→d5a (W0a a ((U1a l (B.getD q' 0)).getD 0))=some g→False:=by
  intro listed a w I a0 q q' g w1 n1 n2;obtain⟨_,b,_,_,g1,_⟩:=id n1;obtain⟨_,b',_,_,T0,_⟩:=id n2;have hm:=List.mem_append_right A (List.mem_of_getElem? g1);have m1:=List.mem_append_right A (List.mem_of_getElem? T0);obtain⟨d,hd⟩:=Option.isSome_iff_exists.1 (ok.some_ _ hm);obtain⟨d',f1⟩:=Option.isSome_iff_exists.1 (ok.some_ _ m1);simp only[List.getD_eq_getElem?_getD,g1,T0,Option.getD_some,hd,f1];exact I.apart q q' b b' d d' g w1 n1 n2 g1 T0 (a0 _ hm) (a0 _ m1) hd f1
 intro fuel
 induction fuel with
 | zero =>
   intro listed a w I hf;have a0:∀i∈A++B,Lst listed i:=by
    intro i hi;by_cases hl:Lst listed i
    ·exact hl
    ·exfalso;have:i∈(A++B).filter fun i=>!listed.getD i false:=List.mem_filter.2 ⟨hi,by unfold Lst at hl;simpa using hl⟩;have:=List.length_pos_of_mem this;omega
   exact B7b T (A++B) listed 0 a w ok.force I.lsz (fun i=>⟨s0 listed a w I i,a0 i⟩) (by omega) (hT w (fun q=>W0a a ((U1a l (B.getD q 0)).getD 0)) a I.inC I.asz I.adf (J0 listed a w I a0) (K0 listed a w I a0) (I.final ok v0 n0 a0))
 | succ f ih =>
   intro listed a w I hf;by_cases a0:∀i∈A++B,Lst listed i
   ·exact B7b T (A++B) listed (f+1) a w ok.force I.lsz (fun i=>⟨s0 listed a w I i,a0 i⟩) (by omega) (hT w (fun q=>W0a a ((U1a l (B.getD q 0)).getD 0)) a I.inC I.asz I.adf (J0 listed a w I a0) (K0 listed a w I a0) (I.final ok v0 n0 a0))
   ·have u0:∃i,i<l.length∧¬Lst listed i:=Classical.byContradiction fun hn=>a0 fun i hi=>Classical.byContradiction fun hl=>hn ⟨i,ok.bound i (List.mem_append_left _ hi),hl⟩;obtain⟨i0,h0,h1,h2⟩:=b7a u0;have r1:i0∈Region.ready .any l.toArray listed:=(L4a I.lsz).2 ⟨h0,h1,fun j hj=>h2 j (a9a ok.back hj)⟩;refine⟨fun hn=>(by rw[hn] at r1;cases r1),fun i hi=>?_⟩;obtain⟨L0,Y0,f0⟩:=(L4a I.lsz).1 hi;have N0:i<listed.size:=by rw[I.lsz];exact L0
    have ho:l[i]?=some l[i]:=List.getElem?_eq_getElem L0;have p1:l.toArray[i]?=some l[i]:=by simp[L0]
    have g0:=ok.plain l[i] (List.getElem_mem L0);have e0:i∈A++B→((A++B).filter fun j=>!(listed.setIfInBounds i true).getD j false).length+T.length≤f:=fun hm=>by
     have:=T3b (X:=A++B) (p:=fun j=>!listed.getD j false) (q:=fun j=>!(listed.setIfInBounds i true).getD j false) (fun x hx=>by
      by_cases Z0:Lst listed x
      ·have:Lst (listed.setIfInBounds i true) x:=(E2a N0).2 (.inr Z0);unfold Lst at this;rw[this] at hx;cases hx
      ·unfold Lst at Z0;simpa using Z0) hm (by unfold Lst at Y0;simpa using Y0) (by
      have:Lst (listed.setIfInBounds i true) i:=(E2a N0).2 (.inl rfl);unfold Lst at this;rw[this];rfl)
     omega
    rcases List.mem_append.1 (ok.all_ i L0) with t0|u1
    ·rcases List.mem_append.1 t0 with i1|V0
     ·obtain⟨p,hp⟩:=List.getElem?_of_mem i1;obtain⟨d,v,O0,j0,y0,hq⟩:=hQ p i l[i] hp ho;have d0:∀s∈Oper.looksAt l.toArray l[i],W0a a s=R3a e (pa.take p) s:=by
       intro s hs;rw[←c1c ho] at hs;by_cases u0:∃(q:Nat) (v':Value),q<p∧pa[q]?=some (s,v')
       ·obtain⟨q,v',v1,F0⟩:=u0;have q1:q<A.length:=by have:=(List.getElem?_eq_some_iff.1 F0).1;omega
        have U0:A[q]?=some A[q]:=List.getElem?_eq_getElem q1;rcases ok.AA p q i A[q] s hp U0 (n0 q _ s v' U0 F0) hs with⟨_,hw⟩|⟨P0,_⟩
        ·rw[I.hA q _ s v' U0 (y7a I.clo f0 _ hw) F0];refine(n6a _ _ q s v' ?_ ?_).symm
         ·rw[List.map_take];exact(S2b ok v0 n0).sublist (List.take_sublist _ _)
         ·rw[List.getElem?_take,if_pos v1];exact F0
        ·omega
       ·rw[t5a]
        ·refine I.rest s fun i' q0 j1 I0=>?_;rcases List.mem_append.1 q0 with q0|q0
         ·obtain⟨q,z0⟩:=List.getElem?_of_mem q0;have q1:q<A.length:=(List.getElem?_eq_some_iff.1 z0).1;have F0:pa[q]?=some pa[q]:=List.getElem?_eq_getElem (by omega);have hk:=n0 q i' pa[q].1 pa[q].2 z0 F0;rw[I0] at hk;have W0:s=pa[q].1:=Option.some.inj hk;rcases ok.AA p q i i' s hp z0 I0 hs with⟨P0,_⟩|⟨_,hw⟩
          ·exact u0 ⟨q,pa[q].2,P0,by rw[W0];exact F0⟩
          ·exact Y0 (q4b I.clo j1 _ hw)
         ·exact ok.AB i i1 i' q0 s I0 hs
        ·intro hm;obtain⟨x,hx,a1⟩:=List.mem_map.1 hm;obtain⟨q,z0⟩:=List.getElem?_of_mem hx;rw[List.getElem?_take] at z0
         split at z0
         ·rename_i P0;exact u0 ⟨q,x.2,P0,by rw[z0,←a1]⟩
         ·cases z0
      have p0:execOp (ev (W0a a)) l[i]=execOp (ev (R3a e (pa.take p))) l[i]:=v1a g0.1 d0;have r0:Region.wanted l[i] (yielded l.toArray a.tmps)=g1a l.toArray (R3a e (pa.take p)) l[i]:=by rw[s1a];exact V0a d0
      have G0:Oper.semAt (fc r).round a.eval l[i]=execOp (ev (R3a e (pa.take p))) l[i]:=by
       rw[Oper.semAt_eq _ _ _ (fun c hc=>by have:=g0.2;rw[hc] at this;cases this),v2a,p0]
      unfold wpOpIn;simp only[p1,r0];rcases hq with⟨hw,b0⟩|⟨hw,hv⟩
      ·simp only[hw,if_true];refine⟨D0a _ _ _,?_⟩;rw[G0];rcases b0 w I.inC with b0|⟨fn,args,b0,o0⟩
       ·rw[b0,Oper.uponIn_value,j0];exact ih _ _ _ (I.stepA ok n0 hp O0 y0 f0 H0 I.inC (y0a.refl _ _)) (e0 t0)
       ·rw[b0,Oper.uponIn_enter];refine⟨fun hh=>by simp[fc,Fence.wide] at hh,u5a (Calls.mono o0 ?_)⟩;rintro en w' ⟨v',rfl,rfl,B0,C0⟩;rw[j0];exact ih _ _ _ (I.stepA ok n0 hp O0 y0 f0 H0 B0 C0) (e0 t0)
      ·simp only[hw];refine⟨D0a _ _ _,?_⟩;rw[j0,←hv];exact ih _ _ _ (I.stepA ok n0 hp O0 y0 f0 H0 I.inC (y0a.refl _ _)) (e0 t0)
     ·obtain⟨q,hq⟩:=List.getElem?_of_mem V0;have x1:q<B.length:=(List.getElem?_eq_some_iff.1 hq).1;have x0:sp[q]?=some sp[q]:=List.getElem?_eq_getElem (by omega);obtain⟨d,hd⟩:=Option.isSome_iff_exists.1 (ok.some_ i t0);have j0:l[i].dst=some d:=by simpa[U1a,ho] using hd
      have R0:=d1 q i l[i] sp[q] hq ho x0;have d0:∀s∈Oper.looksAt l.toArray l[i],W0a a s=R3a e pa s:=by
       intro s hs;rw[←c1c ho] at hs;by_cases u0:∃(p:Nat) (v':Value),pa[p]?=some (s,v')
       ·obtain⟨p,v',E0⟩:=u0;have X0:p<A.length:=by have:=(List.getElem?_eq_some_iff.1 E0).1;omega
        have b1:A[p]?=some A[p]:=List.getElem?_eq_getElem X0;have hw:=ok.BA i V0 A[p] (List.getElem_mem X0) s (n0 p _ s v' b1 E0) hs;rw[I.hA p _ s v' b1 (y7a I.clo f0 _ hw) E0];exact(n6a _ _ p s v' (S2b ok v0 n0) E0).symm
       ·rw[t5a]
        ·refine I.rest s fun i' q0 j1 I0=>?_;rcases List.mem_append.1 q0 with q0|q0
         ·obtain⟨p,S0⟩:=List.getElem?_of_mem q0;have X0:p<A.length:=(List.getElem?_eq_some_iff.1 S0).1;have E0:pa[p]?=some pa[p]:=List.getElem?_eq_getElem (by omega);have hk:=n0 p i' pa[p].1 pa[p].2 S0 E0;rw[I0] at hk;have W0:s=pa[p].1:=Option.some.inj hk;exact u0 ⟨p,pa[p].2,by rw[W0];exact E0⟩
         ·exact ok.BB i V0 i' q0 s I0 hs
        ·intro hm;obtain⟨x,hx,a1⟩:=List.mem_map.1 hm;obtain⟨p,S0⟩:=List.getElem?_of_mem hx;exact u0 ⟨p,x.2,by rw[S0,←a1]⟩
      have p0:execOp (ev (W0a a)) l[i]=execOp (ev (R3a e pa)) l[i]:=v1a g0.1 d0;have r0:Region.wanted l[i] (yielded l.toArray a.tmps)=g1a l.toArray (R3a e pa) l[i]:=by rw[s1a];exact V0a d0
      have G0:Oper.semAt (fc r).round a.eval l[i]=execOp (ev (R3a e pa)) l[i]:=by
       rw[Oper.semAt_eq _ _ _ (fun c hc=>by have:=g0.2;rw[hc] at this;cases this),v2a,p0]
      have y0:=s1 q i d hq hd;unfold wpOpIn;simp only[p1,r0];cases A0:sp[q] with
      | none =>
        rw[A0] at R0 x0;have hw:g1a l.toArray (R3a e pa) l[i]=false:=R0;simp only[hw];refine⟨D0a _ _ _,?_⟩;rw[j0];refine ih _ _ _ (I.stepB ok n0 hq x0 hd y0 f0 H0 Q0 ?_ I.inC (y0a.refl _ _) rfl) (e0 t0);rintro⟨φ,b,o,h1,_⟩;rw[x0] at h1;cases h1
      | some φ =>
        rw[A0] at R0 x0;obtain⟨hw,_,b0⟩:=R0;simp only[hw,if_true];refine⟨D0a _ _ _,?_⟩;rw[G0];by_cases D0:B0d P C l[i] (R3a e pa) φ
        ·obtain⟨v,w',b0,B0,C0,hφ,t1⟩:=D0.2 w I.inC;rw[b0,Oper.uponIn_value,j0];exact ih _ _ _ (I.stepB ok n0 hq x0 hd y0 f0 H0 Q0 (fun _=>t1) B0 C0 hφ) (e0 t0)
        ·have o1:¬Nw P l C B sp (R3a e pa) q:=by
          rintro⟨_,b,o,h1,h2,h3,h4⟩;rw[x0] at h1;cases h1;rw[hq] at h2;cases h2;rw[ho] at h3;cases h3;exact D0 h4
         rcases(b0.resolve_left D0) w I.inC with⟨v,w',b0,B0,C0,hφ⟩|⟨fn,args,b0,o0⟩
         ·rw[b0,Oper.uponIn_value,j0];exact ih _ _ _ (I.stepB ok n0 hq x0 hd y0 f0 H0 Q0 (fun h=>absurd h o1) B0 C0 hφ) (e0 t0)
         ·rw[b0,Oper.uponIn_enter];refine⟨fun hh=>by simp[fc,Fence.wide] at hh,u5a (Calls.mono o0 ?_)⟩;rintro en w' ⟨v',rfl,B0,C0,hφ⟩;rw[j0];exact ih _ _ _ (I.stepB ok n0 hq x0 hd y0 f0 H0 Q0 (fun h=>absurd h o1) B0 C0 hφ) (e0 t0)
    ·exact absurd (fun j hj=>y7a I.clo f0 j (ok.TT i u1 j hj)) a0
end
theorem a3b{A:List Nat}(h:∀i∈A,i<l.length):∀(p i:Nat) (o:Oper),A[p]?=some i→l[i]?=some o→(A.filterMap (l[·]?))[p]?=some o:=by
 induction A with
 | nil=>intro p i o hp;simp at hp
 | cons x xs ih =>
   intro p i o hp ho;have a0:x<l.length:=h x (by simp);have hx:l[x]?=some l[x]:=List.getElem?_eq_getElem a0;simp only[List.filterMap_cons,hx];cases p with
   | zero=>simp at hp;subst hp;rw[hx] at ho;simpa using ho
   | succ p=>simpa using ih (fun i hi=>h i (by simp[hi])) p i o (by simpa using hp) ho
theorem m2b{A:List Nat}(h:∀i∈A,i<l.length):(A.filterMap (l[·]?)).length=A.length:=by
 induction A with
 | nil=>rfl
 | cons x xs ih =>
   have a0:x<l.length:=h x (by simp);have hx:l[x]?=some l[x]:=List.getElem?_eq_getElem a0;simp only[List.filterMap_cons,hx,List.length_cons,ih (fun i hi=>h i (by simp[hi]))]
theorem v0a{id:Nat}{n t:List Deferred→Env→World→Prop}{b:Nat→List Deferred→Env→World→Prop}{D:List Deferred}{e:Env}{w:World}(hm:P.follows .mixedOrders=true)(A B T:List Nat)
 (n0:q9b l A B T=true) (f0:(B.all fun i=>(U1a l i).all fun d=>Nat.ble (d+1) N)=true) (C:World→Prop) (hC:C w.drew)
 (h:QL P N l.toArray C (A.filterMap (l[·]?)) (BK P r N l C B T n D) e):W P r N (.region id l.toArray true) ⟨n,b,t⟩ D e w:=by
 have ok:=F5b n0;have e0:∀i∈A,i<l.length:=fun i hi=>ok.bound i (List.mem_append_left _ (List.mem_append_left _ hi));unfold QL at h;obtain⟨pa,a0,hQ,sp,p0,g0,hT⟩:=h;rw[m2b e0] at a0;unfold W;intro a hs hd he;subst hd he;refine wpIn_region_any hm (J3c (N:=N) (C:=C) (pa:=pa) (sp:=sp) (D:=a.defers) (e:=W0a a) ok a0 p0 (fun p i o hp ho=>?_) (fun q b d hq j0=>?_) g0 ?_ _ _ _ _ ?_ ?_)
 ·exact hQ p o (a3b e0 p i o hp ho)
 ·have:=List.all_eq_true.1 f0 b (List.mem_of_getElem? hq);rw[j0] at this;exact Nat.le_of_ble_eq_true (by simpa using this)
 ·intro w' V a' h0 o0 i0 hG hP b0;have hh:=hT w' V h0 hG hP;unfold WL at hh;exact hh a' _ o0 i0 b0 (fun q0 r0 h1 h2=>⟨h1,h2⟩)
 ·exact {
   lsz:=by simp
   asz:=hs
   adf:=rfl
   inC:=hC
   clo:=fun i hi=>by unfold Lst at hi;simp[Array.getElem?_replicate] at hi;split at hi<;>simp_all
   noT:=fun t _ hi=>by unfold Lst at hi;simp[Array.getElem?_replicate] at hi;split at hi<;>simp_all
   hA:=fun p i d v _ hi=>by unfold Lst at hi;simp[Array.getElem?_replicate] at hi;split at hi<;>simp_all
   hB:=fun q b s _ hi=>by unfold Lst at hi;simp[Array.getElem?_replicate] at hi;split at hi<;>simp_all
   rest:=fun s _=>rfl
   apart:=fun q q' b b' d d' g _ _ _ _ _ hi=>by unfold Lst at hi;simp[Array.getElem?_replicate] at hi;split at hi<;>simp_all }
 ·have h1:((A++B).filter fun i=>!(Array.replicate l.toArray.size false).getD i false).length≤(A++B).length:=List.length_filter_le _ _;have h2:(A++B++T).length≤l.length:=by
   have d0:∀(X:List Nat) (m:Nat),X.Pairwise (·≠·)→(∀i∈X,i<m)→X.length≤m:=by
    intro X m hX hb;have:=List.Nodup.length_le_of_subset (l₁:=X) (l₂:=List.range m) hX (fun i hi=>List.mem_range.2 (hb i hi));simpa using this
   exact d0 _ _ ok.nodup ok.bound
  simp only[List.length_append] at h1 h2 ⊢;simp only[List.size_toArray];simp only[List.size_toArray] at h1;omega
end
section
variable {P:Program} {N:Nat} {e:Env} {w:World} {ops:Array Oper} {rest:List Oper} {C:World→Prop} {K:Env→Prop}
variable {d:Nat} {t:TypeId} {p:String} {af:Array Edge} {x y:Operand} {a b:Int} {xt yt:TypeId} {kd:IntKind}
theorem h1a{x:Operand}{v:Value}(hv:ev e x=v)(hd:Nat.ble (d+1) N=true)(h:QL P N ops C rest K (upd e d v)):QL P N ops C (⟨some d,.move x,t,p,af,none⟩::rest) K e :=
 C3a rfl rfl hd (fun w _=>by simp only[execOp,hv,Sem.run_pure]) h
theorem z3a{x:Operand}{v:Value}(hv:ev e x=v)(hd:Nat.ble (d+1) N=true)(h:QL P N ops C rest K (upd e d v)):QL P N ops C (⟨some d,.assign x,t,p,af,none⟩::rest) K e :=
 C3a rfl rfl hd (fun w _=>by simp only[execOp,hv,Sem.run_pure]) h
theorem o3a{x:Operand}{a:Addr}(hx:ev e x=.pointer (some a))(hd:Nat.ble (d+1) N=true)(h:QL P N ops C rest K (upd e d (.pointer (some a)))):
 QL P N ops C (⟨some d,.nilCheck x,t,p,af,none⟩::rest) K e :=
 C3a rfl rfl hd (fun w _=>by simp[execOp,hx]) h
theorem z0a{s f a0 b o:Nat}{x:Operand}(hF:FA P s f a0)(hx:ev e x=.pointer (some ⟨b,o,none⟩))(hd:Nat.ble (d+1) N=true)
 (h:QL P N ops C rest K (upd e d (.pointer (some ⟨b,o+a0,none⟩)))):QL P N ops C (⟨some d,.fieldAddr s x f,t,p,af,none⟩::rest) K e :=
 C3a rfl rfl hd (fun w _=>by simp[execOp,hx,hF w,Addr.add_lit]) h
theorem j0a{ty b o:Nat}{x:Operand}{v:Value}(h1:One P ty)(hx:ev e x=.pointer (some ⟨b,o,none⟩))(hc:∀w,C w→w.cell? ⟨b,o,none⟩=some v)(hd:Nat.ble (d+1) N=true)
 (h:QL P N ops C rest K (upd e d v)):QL P N ops C (⟨some d,.load ty x,t,p,af,none⟩::rest) K e :=
 C3a rfl rfl hd (fun w hw=>by simp[execOp,hx,Instr.loadAt,Instr.sureAddr,h1 w,hc w hw]) h
theorem J1a{ty n b o:Nat}{x:Operand}{cs:List Value}(hM:F7a P ty n)(hx:ev e x=.pointer (some ⟨b,o,none⟩))(hc:∀w,C w→t1a w b o cs)(hn:cs.length=n)(hd:Nat.ble (d+1) N=true)
 (h:QL P N ops C rest K (upd e d (.agg cs.toArray))):QL P N ops C (⟨some d,.load ty x,t,p,af,none⟩::rest) K e :=
 C3a rfl rfl hd (fun w hw=>by
  subst hn;have:=run_loadCells_list (P:=P) w ⟨b,o,none⟩ cs (fun j v hj=>by rw[Addr.add_lit];exact hc w hw j v hj);simp[execOp,hx,Instr.loadAt,Instr.sureAddr,hM w,this]) h
theorem g1d(hx:ev e x=.int .i64 a)(hy:ev e y=.int .i64 b)(hr:i64 (a+b))(hd:Nat.ble (d+1) N=true)(h:QL P N ops C rest K (upd e d (.int .i64 (a+b)))):
 QL P N ops C (⟨some d,.binOp .add xt x y yt,t,p,af,none⟩::rest) K e :=
 C3a rfl rfl hd (fun w _=>by simp[execOp,hx,hy,eqGuard_add,binOp_add,Op.intArith,F4a hr]) h
theorem n0a{ty size b o n c:Nat}{A:Option Addr}(hT:SlT P ty size)(hx:ev e x=.slice A n c)(hA:A=some ⟨b,o,none⟩)(hy:ev e y=.int kd a)(h0:0≤a)(h1:a<n)(hd:Nat.ble (d+1) N=true)
 (h:QL P N ops C rest K (upd e d (.pointer (some ⟨b,o+a.toNat*size,none⟩)))):QL P N ops C (⟨some d,.indexAddr ty x y,t,p,af,none⟩::rest) K e:=by
 obtain⟨_,hu,a0⟩:=O5a hT;subst hA;exact C3a rfl rfl hd (fun w _=>by simp[execOp,Instr.indexAt,hx,hy,asIntOf,run_underlying hu,h0,h1,a0,Addr.add_lit]) h
theorem B2a{vs:Array Value}{ix:Nat}{v:Value}(hx:ev e x=.tuple vs)(hv:vs[ix]?=some v)(hd:Nat.ble (d+1) N=true)(h:QL P N ops C rest K (upd e d v)):
 QL P N ops C (⟨some d,.extract x ix,t,p,af,none⟩::rest) K e :=
 C3a rfl rfl hd (fun w _=>by simp[execOp,hx,Instr.extract,hv]) h
theorem t2a{ty:Nat}{a0:Array (Nat×Operand)}{z:List Value}{pl:List (Nat×Nat)}{vs:List (Nat×Value)}{cs:List Value}(hB:Bld P ty z pl)(e0:a0.toList.map (fun q=>(q.1,ev e q.2))=vs)
 (d0:I3b pl z.length vs=true) (b0:X8b pl z vs=cs) (hd:Nat.ble (d+1) N=true) (h:QL P N ops C rest K (upd e d (.agg cs.toArray))) :
 QL P N ops C (⟨some d,.build ty a0,t,p,af,none⟩::rest) K e:=by
 have hp:(a0.map fun(i,x)=>(i,ev e x))=vs.toArray:=by subst e0;apply Array.ext';simp
 subst b0;exact C3a rfl rfl hd (fun w _=>by simp[execOp,hp,hB w vs _ (B3b pl vs z d0)]) h
theorem q6b{ty size lo hi c n o b:Nat}{xl xh:Option Operand}(hT:SlT P ty size)(hx:ev e x=.slice (some ⟨b,o,none⟩) n c)(hl:(xl.map (ev e)=none∧lo=0)∨xl.map (ev e)=some (.int kd (lo:Int)))
 (hh:(xh.map (ev e)=none∧hi=n)∨xh.map (ev e)=some (.int kd (hi:Int))) (h1:lo≤hi) (h2:hi≤c) (h3:n≤c) (hd:Nat.ble (d+1) N=true)
 (h:QL P N ops C rest K (upd e d (.slice (some (if c=lo then⟨b,o,none⟩ else⟨b,o+lo*size,none⟩)) (hi-lo) (c-lo)))) :
 QL P N ops C (⟨some d,.slice ty x xl xh none,t,p,af,none⟩::rest) K e:=by
 obtain⟨_,hu,b0⟩:=O5a hT;have e1:(0:Int)≤(lo:Int)∧(lo:Int)≤(hi:Int):=by omega
 have e2:(0:Int)≤(hi:Int)∧(hi:Int)≤(c:Int):=by omega
 refine C3a rfl rfl hd (fun w _=>?_) h;have a0:(Instr.slice ty (.slice (some ⟨b,o,none⟩) n c) (xl.map (ev e)) (xh.map (ev e)) none).run P w=.ok (.slice (some (if c=lo then⟨b,o,none⟩ else⟨b,o+lo*size,none⟩)) (hi-lo) (c-lo)) w:=by
  rcases hl with⟨hl,rfl⟩|hl<;>rcases hh with⟨hh,rfl⟩|hh<;>rw[hl,hh] <;>
   simp[Instr.slice,Instr.sliceBounds,Instr.sliceBound,asIntOf,run_underlying hu,b0,e1,e2,h1,h2,Addr.add_lit] <;>
   (split<;>rfl)
 simp only[execOp,Instr.sliceAt,Sem.run_bind,run_underlying hu,Result.andThen_ok,hx,Option.map_none,a0,Sem.run_pure]
theorem r4a{ty len size b o:Nat}(hT:ArT P ty len size)(hx:ev e x=.pointer (some ⟨b,o,none⟩))(hy:ev e y=.int kd a)(h0:0≤a)(h1:a<len)(hd:Nat.ble (d+1) N=true)
 (h:QL P N ops C rest K (upd e d (.pointer (some ⟨b,o+a.toNat*size,none⟩)))):QL P N ops C (⟨some d,.indexAddr ty x y,t,p,af,none⟩::rest) K e:=by
 obtain⟨_,hu,a0,_⟩:=hT;exact C3a rfl rfl hd (fun w _=>by simp[execOp,Instr.indexAt,Instr.sureAddr,hx,hy,asIntOf,run_underlying hu,h0,h1,a0,Addr.add_lit]) h
theorem T4c{n:Nat}(hx:ev e x=.int .i64 1)(hy:ev e y=.int .i64 (n:Int))(hn:n≤62)(hd:Nat.ble (d+1) N=true)(h:QL P N ops C rest K (upd e d (.int .i64 ((2 ^ n:Nat):Int)))):
 QL P N ops C (⟨some d,.binOp .shl xt x y yt,t,p,af,none⟩::rest) K e :=
 C3a rfl rfl hd (fun w _=>by
  have h2:(2:Nat) ^ n≤2 ^ 62:=Nat.pow_le_pow_right (by omega) hn;have h3:min n IntKind.i64.bits=n:=by simp[IntKind.bits];omega
  have h4:((1:Int)*2 ^ n)=((2 ^ n:Nat):Int):=by simp
  have h5:IntKind.i64.wrap ((2 ^ n:Nat):Int)=((2 ^ n:Nat):Int):=by
   generalize (2:Nat) ^ n=q at h2;exact F4a ⟨by omega,by omega⟩
  have h6:¬((n:Int)<0):=by omega
  simp only[execOp,hx,hy,eqGuard_shl,binOp_shl,Op.shift,h6,if_false,Int.toNat_natCast,h3,h4,h5,Sem.run_bind,Sem.run_pure,Result.andThen_ok]) h
theorem g9c{f:FuncId}{args:Array Operand}{at_:Array TypeId}{vs:List Value}{v:Value}(hH:Has P f)(a0:args.toList.map (ev e)=vs)(hd:Nat.ble (d+1) N=true)
 (hc:∀w,C w→M0a P f vs.toArray w fun v' w'=>v'=v∧C w'∧y0a [] w w') (h:QL P N ops C rest K (upd e d v)) :
 QL P N ops C (⟨some d,.call { callee:=.value (.func f),args:=args,argTypes:=at_ },t,p,af,none⟩::rest) K e:=by
 refine m7c rfl rfl hd (fun w=>?_) hc h;subst a0;have:(args.map (ev e))=(args.toList.map (ev e)).toArray:=by apply Array.ext';simp
 simp[execOp,resolve,Deferred.ofValue,invoke,ev,hH _ w,this]
def Cl(M:List Nat)(w0 w:World)(L:List Ent)(w':World):Prop:=St M w0 w' L∧y0a [] w w'
theorem Cl.start{M:List Nat}{w0 w:World}{L:List Ent}(S:St M w0 w L):Cl M w0 w L w.drew:=⟨S.drew,s2a _ _⟩
theorem Cl.alloc{M:List Nat}{w0 w:World}{L:List Ent}(w':World)(o:Obj)(h:Cl M w0 w L w'):Cl M w0 w L (w'.alloc o) :=
 ⟨h.1.keeps (h.1.below.alloc _) fun b hm g hg=>Below.heap_alloc w' _ g (h.1.own b hm g hg).2.lt,h.2.trans (T2a _ _ _)⟩
theorem Cl.later{M:List Nat}{w0 w w' a0:World}{L:List Ent}(h:Cl M w0 w L w')(hb:Below w'.heap.size w' a0):Cl M w0 w L a0∧y0a [] w' a0 :=
 ⟨⟨h.1.later hb,h.2.trans (y0a.of_below hb)⟩,y0a.of_below hb⟩
theorem K7c{M:List Nat}{w0 w w':World}{L:List Ent}{f:FuncId}{args:Array Value}{v:Value}{R:Value→World→Prop}(h:Cl M w0 w L w')(hc:M0a P f args w' R)(hR:∀v' a0,R v' a0→v'=v∧Below w'.heap.size w' a0):
 M0a P f args w' fun v' a0=>v'=v∧Cl M w0 w L a0∧y0a [] w' a0 :=
 hc.mono fun v' a0 hr=>⟨(hR v' a0 hr).1,h.later (hR v' a0 hr).2⟩
end
section
variable {P:Program} {l:List Oper} {C:World→Prop} {e:Env} {B:List Nat} {G:List (Nat×Value)→List Nat→World→Prop}
def BKL(P:Program)(l:List Oper)(C:World→Prop)(e:Env)(B:List Nat)(G:List (Nat×Value)→List Nat→World→Prop):Prop :=
 ∃sp:List g5a,sp.length=B.length∧(∀(q b:Nat) (o:Oper) (s:g5a),B[q]?=some b→l[b]?=some o→sp[q]?=some s→BOk P l.toArray C o e s) ∧
  ∀(w:World) (V:Nat→Value),C w→(∀(q:Nat) (s:g5a),sp[q]?=some s→X1c w s (V q)) →
   (∀q q' g,q≠q'→Nw P l C B sp e q→Nw P l C B sp e q'→d5a (V q)=some g→d5a (V q')=some g→False) →
   ∃gs:List Nat,(∀g∈gs,∃q,Nw P l C B sp e q∧d5a (V q)=some g)∧G ((List.range B.length).map fun q=>((U1a l (B.getD q 0)).getD 0,V q)) gs w
theorem V3a{r:Option Nat}{N:Nat}{T:List Nat}{k:List Deferred→Env→World→Prop}{D:List Deferred}
 (h:BKL P l C e B fun us _ w=>WL P r N l.toArray (T.filterMap (l[·]?)) k D (R3a e us) w):BK P r N l C B T k D e:=by
 obtain⟨sp,hl,a0,hT⟩:=h;exact⟨sp,hl,a0,fun w V hC hV hA=>let ⟨_,_,hh⟩:=hT w V hC hV hA;hh⟩
theorem R1a(h:∀w,C w→G [] [] w):BKL P l C e [] G :=
 ⟨[],rfl,fun q b o s hq=>by simp at hq,fun w V hC _ _=>⟨[],fun g hg=>by simp at hg,h w hC⟩⟩
theorem Nw.up{b:Nat}{s:g5a}{sp:List g5a}{q:Nat}(h:Nw P l C B sp e q):Nw P l C (b::B) (s::sp) e (q+1):=by
 obtain⟨φ,b',o,h1,h2,h3,h4⟩:=h;exact⟨φ,b',o,by simpa using h1,by simpa using h2,h3,h4⟩
theorem H1c{b d:Nat}{o:Oper}(s:g5a)(ho:l[b]?=some o)(hd:o.dst=some d)(d0:BOk P l.toArray C o e s)(G':List (Nat×Value)→List Nat→World→Prop)
 (hG:∀(sp:List g5a) (V:Nat→Value) (us:List (Nat×Value)) (gs:List Nat) (w:World),G' us gs w→X1c w s (V 0) →
   (∀g∈gs,Nw P l C (b::B) (s::sp) e 0→d5a (V 0)=some g→False)→(∃a0,(∀g∈a0,g∈gs∨(Nw P l C (b::B) (s::sp) e 0∧d5a (V 0)=some g))∧G ((d,V 0)::us) a0 w))
 (h:BKL P l C e B G'):BKL P l C e (b::B) G:=by
 obtain⟨sp,hl,g0,hT⟩:=h;refine⟨s::sp,by simp[hl],fun q b' o' s' hq b0 hs=>?_,fun w V hC hV hA=>?_⟩
 ·cases q with
  | zero =>
    simp at hq hs;subst hq;subst hs;rw[ho] at b0;obtain rfl:=Option.some.inj b0;exact d0
  | succ q=>exact g0 q b' o' s' (by simpa using hq) b0 (by simpa using hs)
 ·obtain⟨gs,e0,hh⟩:=hT w (fun q=>V (q+1)) hC (fun q s hs=>hV (q+1) s (by simpa using hs)) (fun q q' g h0 h1 h2=>hA (q+1) (q'+1) g (by omega) h1.up h2.up);obtain⟨a0,h1,h2⟩:=hG sp V _ gs w hh (hV 0 _ rfl) (fun g hg hn hb=>by
   obtain⟨q,h3,h4⟩:=e0 g hg;exact hA 0 (q+1) g (by omega) hn h3.up hb h4)
  refine⟨a0,fun g hg=>?_,?_⟩
  ·rcases h1 g hg with h3|⟨h3,h4⟩
   ·obtain⟨q,h5,h6⟩:=e0 g h3;exact⟨q+1,h5.up,h6⟩
   ·exact⟨0,h3,h4⟩
  ·have f0:U1a l b=some d:=by simp[U1a,ho,hd]
   simpa[List.range_succ_eq_map,f0,Function.comp_def] using h2
theorem v3c{b d:Nat}{o:Oper}(φ:Value→World→Prop)(hφ:O0b φ)(ho:l[b]?=some o)(hd:o.dst=some d)(hw:g1a l.toArray e o=true)
 (a0:∀w,C w→(∃v w',(execOp (ev e) o).run P w=.ok (.value v) w'∧C w'∧y0a [] w w'∧φ v w') ∨
   ∃f args,(execOp (ev e) o).run P w=.ok (.enter f args) w∧M0a P f args w (fun v w'=>C w'∧y0a [] w w'∧φ v w'))
 (h:BKL P l C e B fun us gs w=>∀v,φ v w→G ((d,v)::us) gs w):BKL P l C e (b::B) G :=
 H1c (some φ) ho hd ⟨hw,hφ,.inr a0⟩ _ (fun _ _ _ gs _ hh hb _=>⟨gs,fun _ hg=>.inl hg,hh _ hb⟩) h
theorem P1c{b d t:Nat}{o:Oper}{mk:Nat→Value}{cs:List Value}{w w0:World}{L:List Ent}{M:List Nat}(d0:∀g,d5a (mk g)=some g)(ho:l[b]?=some o)(hd:o.dst=some d)(hw:g1a l.toArray e o=true)
 (e0:∀w1,Cl M w0 w L w1→(execOp (ev e) o).run P w1=.ok (.value (mk w1.heap.size)) (w1.alloc (.cells cs.toArray t (0,0))))
 (h:BKL P l (Cl M w0 w L) e B fun us gs w1=>∀g,p0a w1 (g,t,cs)→w.heap.size≤g→g∉gs→G ((d,mk g)::us) (g::gs) w1):BKL P l (Cl M w0 w L) e (b::B) G:=by
 have a0:B0d P (Cl M w0 w L) o e (fun v w1=>∃g,v=mk g∧p0a w1 (g,t,cs)∧w.heap.size≤g):=by
  refine⟨?_,fun w1 hC=>⟨_,_,e0 w1 hC,Cl.alloc _ _ hC,T2a _ _ _,⟨_,rfl,?_,hC.2.size⟩,?_⟩⟩
  ·rintro v w1 g ⟨g',rfl,hb,_⟩ hg;rw[d0] at hg;cases hg;exact hb.lt
  ·unfold p0a;show(w1.heap.push _)[w1.heap.size]?=_;simp
  ·intro g hg;rw[d0] at hg;cases hg;exact Nat.le_refl _
 refine H1c (some fun v w1=>∃g,v=mk g∧p0a w1 (g,t,cs)∧w.heap.size≤g) ho hd ⟨hw,?_,.inl a0⟩ _ (fun sp V us gs w1 hh hb ha=>?_) h
 ·rintro v w1 w2 ⟨g,rfl,hb,hg⟩ hk;exact⟨g,rfl,S3a hk hb,hg⟩
 ·obtain⟨g,hv,hb,hg⟩:=hb;have f0:d5a (V 0)=some g:=by rw[hv];exact d0 g
  have g0:Nw P l (Cl M w0 w L) (b::B) (some (fun v w1=>∃g,v=mk g∧p0a w1 (g,t,cs)∧w.heap.size≤g)::sp) e 0:=⟨_,b,o,rfl,rfl,ho,a0⟩;refine⟨g::gs,fun g' b0=>?_,?_⟩
  ·rcases List.mem_cons.1 b0 with rfl|b0
   ·exact .inr ⟨g0,f0⟩
   ·exact .inl b0
  ·rw[hv];exact hh g hb hg (fun hm=>ha g hm g0 f0)
end
section
variable {P:Program} {l:List Oper} {e:Env} {B:List Nat} {G:List (Nat×Value)→List Nat→World→Prop} {w w0:World} {L:List Ent} {M:List Nat}
theorem x3a{b d ty el size b0 n:Nat}{t:TypeId}{p:String}{af:Array Edge}{gd:Option (Nat×Bool)}{z:Value}{a0:Array (Nat×Operand)}{vs:List Value}{cs:List Value}
 (ho:l[b]?=some ⟨some d,.buildSlice ty n a0,t,p,af,gd⟩) (hw:g1a l.toArray e ⟨some d,.buildSlice ty n a0,t,p,af,gd⟩=true) (hS:SlZ P ty el size z b0)
 (i0:a0.toList.map (fun q=>(q.1,ev e q.2))=(vs.zipIdx 0).map fun q=>(q.2,q.1)) (hn:vs.length=n) (h0:Nat.ble 1 n=true) (d0:Nat.ble (n*size) 16777216=true) (hv:vs.map (·.cells.size)=List.replicate n size)
 (f0:vs.flatMap (·.cells.toList)=cs)
 (h:BKL P l (Cl M w0 w L) e B fun us gs w1=>∀g,p0a w1 (g,el,cs)→w.heap.size≤g→g∉gs→G ((d,.slice (some ⟨g,0,none⟩) n n)::us) (g::gs) w1) :
 BKL P l (Cl M w0 w L) e (b::B) G:=by
 have hp:(a0.map fun(i,x)=>(i,ev e x))=((vs.zipIdx 0).map fun q=>(q.2,q.1)).toArray:=by rw[←i0];apply Array.ext';simp
 have g0:∀v∈vs,v.cells.size=size:=fun v hm=>by
  have:v.cells.size∈vs.map (·.cells.size):=List.mem_map.2 ⟨v,hm,rfl⟩;rw[hv] at this;exact(List.mem_replicate.1 this).2
 refine P1c (mk:=fun g=>.slice (some ⟨g,0,none⟩) n n) (t:=el) (cs:=cs) (fun _=>rfl) ho rfl hw (fun w1 _=>?_) h;have e0:=U4a hS hn (Nat.le_of_ble_eq_true h0) (Nat.le_of_ble_eq_true d0) g0 w1;subst f0;simp only[execOp,hp,Sem.run_bind,e0,Result.andThen_ok,Sem.run_pure]
theorem b0b{b d el:Nat}{t:TypeId}{p:String}{af:Array Edge}{gd:Option (Nat×Bool)}{z:Value}{cs:List Value}
 (ho:l[b]?=some ⟨some d,.alloc el,t,p,af,gd⟩) (hw:g1a l.toArray e ⟨some d,.alloc el,t,p,af,gd⟩=true) (hz:∀w,(zeroValue el).run P w=.ok z w) (a0:z.cells.toList=cs)
 (h:BKL P l (Cl M w0 w L) e B fun us gs w1=>∀g,p0a w1 (g,el,cs)→w.heap.size≤g→g∉gs→G ((d,.pointer (some ⟨g,0,none⟩))::us) (g::gs) w1) :
 BKL P l (Cl M w0 w L) e (b::B) G:=by
 refine P1c (mk:=fun g=>.pointer (some ⟨g,0,none⟩)) (t:=el) (cs:=cs) (fun _=>rfl) ho rfl hw (fun w1 _=>?_) h;subst a0;simp[execOp,Instr.alloc,newVar,newRow,hz]
theorem o8a{b d:Nat}{t:TypeId}{p:String}{af:Array Edge}{gd:Option (Nat×Bool)}{f:FuncId}{args:Array Operand}{at_:Array TypeId}{vs:List Value}(φ:Value→World→Prop)
 (ho:l[b]?=some ⟨some d,.call { callee:=.value (.func f),args:=args,argTypes:=at_ },t,p,af,gd⟩) (hw:g1a l.toArray e ⟨some d,.call { callee:=.value (.func f),args:=args,argTypes:=at_ },t,p,af,gd⟩=true)
 (hH:Has P f) (a0:args.toList.map (ev e)=vs) (hφ:O0b φ)
 (hc:∀w1,St M w0 w1 L→y0a [] w w1→M0a P f vs.toArray w1 fun v w2=>φ v w2∧Below w1.heap.size w1 w2)
 (h:BKL P l (Cl M w0 w L) e B fun us gs w1=>∀v,φ v w1→G ((d,v)::us) gs w1):BKL P l (Cl M w0 w L) e (b::B) G:=by
 refine v3c φ hφ ho rfl hw (fun w1 hC=>.inr ⟨f,vs.toArray,?_,(hc w1 hC.1 hC.2).mono fun v w2 hr=>⟨(hC.later hr.2).1,(hC.later hr.2).2,hr.1⟩⟩) h;subst a0;have:(args.map (ev e))=(args.toList.map (ev e)).toArray:=by apply Array.ext';simp
 simp[execOp,resolve,Deferred.ofValue,invoke,ev,hH _ w1,this]
end
def d3a(G:Option Nat)(size n:Nat)(cs:List Value)(v:Value)(xs:List Value):Prop :=
 xs.length=n*size∧((G=none∧v=.slice none 0 0∧n=0) ∨
  ∃g cap,G=some g∧v=.slice (some ⟨g,0,none⟩) n cap∧n≤cap∧cap≤maxLen∧cs.length=cap*size∧cs.take (n*size)=xs)
theorem d3a.nil(size:Nat):d3a none size 0 [] (.slice none 0 0) []:=⟨by simp,.inl ⟨rfl,rfl,rfl⟩⟩
theorem d3a.own{M:List Nat}{w0 w:World}{L:List Ent}{k:Nat}{G:Option Nat}{el size n:Nat}{cs xs:List Value}{v:Value}(hR:d3a G size n cs v xs)(S:St M w0 w L)(hk:L[k]?=some (G,el,cs)):
 w.ownsRow 0 el size v n xs∧v.ownBlock=G:=by
 rcases hR with⟨hl,⟨rfl,rfl,rfl⟩|⟨g,a0,rfl,rfl,h1,h2,h3,h4⟩⟩
 ·exact⟨⟨hl,.inl ⟨rfl,rfl⟩⟩,rfl⟩
 ·refine⟨⟨hl,.inr ⟨g,a0,cs.toArray,rfl,Nat.zero_le _,S.blk k hk,h1,h2,by simpa using h3,by simpa using h4⟩⟩,rfl⟩
theorem E8a{w:World}{base el size n:Nat}{v:Value}{xs:List Value}(h:w.ownsRow base el size v n xs):
 ∃G cs,d3a G size n cs v xs∧v.ownBlock=G∧∀g,G=some g→base≤g∧p0a w (g,el,cs):=by
 obtain⟨hl,⟨rfl,rfl⟩|⟨g,a0,b0,rfl,hb,hh,h1,h2,h3,h4⟩⟩:=h
 ·exact⟨none,[],⟨hl,.inl ⟨rfl,rfl,rfl⟩⟩,rfl,fun g hg=>by cases hg⟩
 ·refine⟨some g,b0.toList,⟨hl,.inr ⟨g,a0,rfl,rfl,h1,h2,by simpa using h3,h4⟩⟩,rfl,fun g' hg=>?_⟩;cases hg;exact⟨hb,by unfold p0a;simpa using hh⟩
section
variable {P:Program} {r:Option Nat} {N:Nat} {D:List Deferred} {e:Env} {w w0:World} {ops:Array Oper} {rest:List Oper} {K:List Deferred→Env→World→Prop} {L:List Ent} {M:List Nat}
variable {d:Nat} {t:TypeId} {p:String} {af:Array Edge} {x y:Operand}
theorem o3b{ty el size b0 k n m c b o:Nat}{z v:Value}{G:Option Nat}{cs xs news:List Value}(S:St M w0 w L)(hS:SlZ P ty el size z b0)(hk:L[k]?=some (G,el,cs))(hR:d3a G size n cs v xs)
 (hx:ev e x=v) (hy:ev e y=.slice (some ⟨b,o,none⟩) m c) (g0:t1a w b o news) (hl:news.length=m*size) (h1:∀u∈news,u.oneCell'=true)
 (y0:n+m≤140737488355328) (f0:(n+m)*b0≤140737488355328) (hd:Nat.ble (d+1) N=true)
 (h:∀v' G' i0 w1,St M w0 w1 (L.set k (G',el,i0))→d3a G' size (n+m) i0 v' (xs++news)→y0a G.toList w w1→WL P r N ops rest K D (upd e d v') w1) :
 WL P r N ops (⟨some d,.call { callee:=.builtin .append,args:=#[x,y],argTypes:=#[ty,ty] },t,p,af,none⟩::rest) K D e w:=by
 obtain⟨i,hi,hz,x0,t0⟩:=hS.parts;obtain⟨o0,hG⟩:=hR.own S hk;obtain⟨v',w1,p0,h0,a0,_,j0⟩:=run_append_own_at (P:=P) w 0 ty t el i z size b0 hS.und hi hz x0 t0 hS.zs hS.pos v n xs o0 ⟨b,o,none⟩ m c news hl
  (fun j u hj=>by rw[Addr.add_lit];exact g0 j u hj) h1 (by unfold maxLen;omega) f0 (Nat.zero_le _)
 obtain⟨G',i0,s0,q0,n0⟩:=E8a h0;have d0:∀q,q<w.heap.size→G≠some q→w1.heap[q]?=w.heap[q]?:=fun q hq v0=>a0.block q hq (fun hh=>v0 (by rw[←hG,←hh]));have e0:F0a M w0 w1:=⟨a0.os.trans S.below.os,a0.tape.trans S.below.tape,a0.output.trans S.below.output,Nat.le_trans S.size a0.size,fun q hq hm =>
  (d0 q (Nat.lt_of_lt_of_le hq S.size) (fun hh=>by
    subst hh;rcases S.new k hk with h'|h'
    ·omega
    ·exact hm h')).trans (S.below.block q hq hm)⟩
 refine k1a (v:=v') (w':=w1) rfl rfl hd (by simp) ?_ (h v' G' i0 w1 (S.replace k hk e0 d0 (fun g hg=>?_)) s0 ⟨a0.size,fun q hq hm=>d0 q hq (fun hh=>hm (by rw[hh];simp))⟩)
 ·simp[execOp,resolve,invoke,builtin,hx,hy,p0]
 ·obtain⟨_,h3⟩:=n0 g hg;rcases j0 with hb|hb
  ·have r0:G=some g:=by rw[←hG,←hb,q0];exact hg
   subst r0;exact⟨S.new k hk,h3,.inl rfl⟩
  ·have u0:G'=some g:=hg;rw[q0,u0] at hb;cases hb;exact⟨.inl S.size,h3,.inr (Nat.le_refl _)⟩
theorem z1b{ty el a0 n c:Nat}{z:Value}{kl kc:IntKind}(S:St M w0 w L)(hS:SlZ P ty el 1 z a0)(hx:ev e x=.int kl (n:Int))(hy:ev e y=.int kc (c:Int))(g0:n≤c)(hb:a0*c≤140737488355328)(hc:c≤140737488355328)
 (f0:z.cells=#[z]) (hd:Nat.ble (d+1) N=true)
 (h:∀g w1,St M w0 w1 ((some g,el,List.replicate c z)::L)→y0a [] w w1→w.heap.size≤g→WL P r N ops rest K D (upd e d (.slice (some ⟨g,0,none⟩) n c)) w1) :
 WL P r N ops (⟨some d,.makeSlice ty x y,t,p,af,none⟩::rest) K D e w:=by
 obtain⟨i,hi,hz,e0,d0⟩:=hS.parts;have b0:(i.bytes:Int)*(c:Int)≤281474976710656:=by
  have:((a0*c:Nat):Int)≤281474976710656:=by omega
  rw[d0];rwa [Int.natCast_mul] at this
 have hr:=run_make (P:=P) w ty el i z hS.und hi hz kl kc n c (by omega) (by omega) b0 (by omega);have hm:madeCells z.cells (c*i.size)=(List.replicate c z).toArray:=by
  rw[f0,e0,Nat.mul_one];apply Array.ext
  ·simp[madeCells]
  ·intro j h1 h2;simp[madeCells,Nat.mod_one]
 simp only[Int.toNat_natCast,hm] at hr;refine k1a (v:=.slice (some ⟨w.heap.size,0,none⟩) n c) rfl rfl hd (by simp) ?_ (h _ _ (S.alloc el _) (T2a _ _ _) (Nat.le_refl _));simp only[execOp,hx,hy,Sem.run_bind,hr,Result.andThen_ok,Sem.run_pure]
end
section
variable {P:Program} {r:Option Nat} {N:Nat} {D:List Deferred} {e:Env} {w w0:World} {ops:Array Oper} {rest:List Oper} {K:List Deferred→Env→World→Prop} {L:List Ent} {M:List Nat}
variable {d:Nat} {t:TypeId} {p:String} {af:Array Edge} {f:FuncId} {args:Array Operand} {at_:Array TypeId} {vs:List Value}
theorem x0a{R:Value→World→Prop}(S:St M w0 w L)(hH:Has P f)(a0:args.toList.map (ev e)=vs)(hd:Nat.ble (d+1) N=true)
 (hc:M0a P f vs.toArray w fun v w'=>R v w'∧Below w.heap.size w w') (h:∀v w1,R v w1→St M w0 w1 L→y0a [] w w1→WL P r N ops rest K D (upd e d v) w1) :
 WL P r N ops (⟨some d,.call { callee:=.value (.func f),args:=args,argTypes:=at_ },t,p,af,none⟩::rest) K D e w :=
 c2a hH a0 hd hc fun v w1 hr=>h v w1 hr.1 (S.later hr.2) (y0a.of_below hr.2)
theorem g0a{V:Value}(S:St M w0 w L)(hH:Has P f)(a0:args.toList.map (ev e)=vs)(hd:Nat.ble (d+1) N=true)
 (hc:M0a P f vs.toArray w fun v w'=>v=V∧Below w.heap.size w w') (h:∀w1,St M w0 w1 L→y0a [] w w1→WL P r N ops rest K D (upd e d V) w1) :
 WL P r N ops (⟨some d,.call { callee:=.value (.func f),args:=args,argTypes:=at_ },t,p,af,none⟩::rest) K D e w :=
 x0a S hH a0 hd hc fun v w1 hr S1 X1=>by subst hr;exact h w1 S1 X1
theorem C0a{b:Bool}(S:St M w0 w L)(hH:Has P f)(a0:args.toList.map (ev e)=vs)(hd:Nat.ble (d+1) N=true)
 (hc:M0a P f vs.toArray w fun v w'=>v=.bool b∧Below w.heap.size w w') (h1:b=true→∀w1,St M w0 w1 L→y0a [] w w1→WL P r N ops rest K D (upd e d (.bool true)) w1)
 (h2:b=false→∀w1,St M w0 w1 L→y0a [] w w1→WL P r N ops rest K D (upd e d (.bool false)) w1) :
 WL P r N ops (⟨some d,.call { callee:=.value (.func f),args:=args,argTypes:=at_ },t,p,af,none⟩::rest) K D e w:=by
 cases b
 ·exact g0a S hH a0 hd hc (h2 rfl)
 ·exact g0a S hH a0 hd hc (h1 rfl)
variable {Kq:Env→Prop}
theorem r1a{V:Value}(hH:Has P f)(a0:args.toList.map (ev e)=vs)(hd:Nat.ble (d+1) N=true)
 (hc:∀w1,St M w0 w1 L→y0a [] w w1→M0a P f vs.toArray w1 fun v w'=>v=V∧Below w1.heap.size w1 w') (h:QL P N ops (Cl M w0 w L) rest Kq (upd e d V)) :
 QL P N ops (Cl M w0 w L) (⟨some d,.call { callee:=.value (.func f),args:=args,argTypes:=at_ },t,p,af,none⟩::rest) Kq e :=
 g9c hH a0 hd (fun w1 hw=>K7c hw (hc w1 hw.1 hw.2) fun _ _ h=>h) h
theorem Y1a{b:Bool}(hH:Has P f)(a0:args.toList.map (ev e)=vs)(hd:Nat.ble (d+1) N=true)
 (hc:∀w1,St M w0 w1 L→y0a [] w w1→M0a P f vs.toArray w1 fun v w'=>v=.bool b∧Below w1.heap.size w1 w') (h1:b=true→QL P N ops (Cl M w0 w L) rest Kq (upd e d (.bool true)))
 (h2:b=false→QL P N ops (Cl M w0 w L) rest Kq (upd e d (.bool false))) :
 QL P N ops (Cl M w0 w L) (⟨some d,.call { callee:=.value (.func f),args:=args,argTypes:=at_ },t,p,af,none⟩::rest) Kq e:=by
 cases b
 ·exact r1a hH a0 hd hc (h2 rfl)
 ·exact r1a hH a0 hd hc (h1 rfl)
end
section
variable {α:Type}
def RdS(M:List Nat)(w:World)(size:Nat)(R:List Value→α→Prop)(v:Value)(l:List α):Prop :=
 ∃A n c,v=.slice A n c∧n=l.length∧n≤c∧c≤maxLen∧n≤140737488355328 ∧
  (0<n→∃b o,A=some ⟨b,o,none⟩∧b∉M∧∀i x,l[i]?=some x→∃cs,cs.length=size∧t1a w b (o+i*size) cs∧R cs x)
theorem t1a.keep{M:List Nat}{w w':World}{b o:Nat}{cs:List Value}(h:t1a w b o cs)(hk:y0a M w w')(hb:b∉M):t1a w' b o cs :=
 fun j v hj=>hk.cell (a:=⟨b,o+j,none⟩) hb (h j v hj)
theorem RdS.keep{M:List Nat}{w w':World}{size:Nat}{R:List Value→α→Prop}{v:Value}{l:List α}(h:RdS M w size R v l)(hk:y0a M w w'):RdS M w' size R v l:=by
 obtain⟨A,n,c,h1,h2,h3,h4,d0,h5⟩:=h;refine⟨A,n,c,h1,h2,h3,h4,d0,fun hn=>?_⟩;obtain⟨b,o,h6,h7,h8⟩:=h5 hn;refine⟨b,o,h6,h7,fun i x hi=>?_⟩;obtain⟨cs,h9,a0,b0⟩:=h8 i x hi;exact⟨cs,h9,a0.keep hk h7,b0⟩
theorem RdS.mono{M:List Nat}{w:World}{size:Nat}{R R':List Value→α→Prop}{v:Value}{l:List α}(h:RdS M w size R v l)(hR:∀cs x,R cs x→R' cs x):RdS M w size R' v l:=by
 obtain⟨A,n,c,h1,h2,h3,h4,a0,h5⟩:=h;refine⟨A,n,c,h1,h2,h3,h4,a0,fun hn=>?_⟩;obtain⟨b,o,h6,h7,h8⟩:=h5 hn;exact⟨b,o,h6,h7,fun i x hi=>let ⟨cs,h9,h10,h11⟩:=h8 i x hi;⟨cs,h9,h10,hR _ _ h11⟩⟩
theorem RdS.less{M M':List Nat}{w:World}{size:Nat}{R:List Value→α→Prop}{v:Value}{l:List α}(h:RdS M w size R v l)(hM:∀g∈M',g∈M):RdS M' w size R v l:=by
 obtain⟨A,n,c,h1,h2,h3,h4,a0,h5⟩:=h;refine⟨A,n,c,h1,h2,h3,h4,a0,fun hn=>?_⟩;obtain⟨b,o,h6,h7,h8⟩:=h5 hn;exact⟨b,o,h6,fun hh=>h7 (hM b hh),h8⟩
def P2c(cs:List Value)(x:Int):Prop:=cs=[.int .i64 x]∧i64 x
abbrev RdI(M:List Nat)(w:World)(v:Value)(l:List Int):Prop:=RdS M w 1 P2c v l
theorem d3a.rd{M':List Nat}{w0 w:World}{L:List Ent}{k:Nat}{G:Option Nat}{el size n:Nat}{cs xs:List Value}{v:Value}{M:List Nat}{R:List Value→α→Prop}{l:List α}(hR:d3a G size n cs v xs)(S:St M' w0 w L)(hk:L[k]?=some (G,el,cs))
 (hM:∀g,G=some g→g∉M) (hn:n=l.length) (a0:n≤140737488355328) (hl:∀i x,l[i]?=some x→((xs.drop (i*size)).take size).length=size∧R ((xs.drop (i*size)).take size) x):RdS M w size R v l:=by
 rcases hR with⟨d0,⟨rfl,rfl,rfl⟩|⟨g,b0,rfl,rfl,h1,h2,h3,h4⟩⟩
 ·exact⟨none,0,0,rfl,hn,Nat.le_refl _,by unfold maxLen;omega,a0,fun h=>absurd h (by omega)⟩
 ·refine⟨_,n,b0,rfl,hn,h1,h2,a0,fun _=>⟨g,0,rfl,hM g rfl,fun i x hi=>⟨(xs.drop (i*size)).take size,(hl i x hi).1,fun j v hj=>?_,(hl i x hi).2⟩⟩⟩;refine S.cell k hk ?_;rw[List.getElem?_take] at hj
  split at hj
  ·rw[List.getElem?_drop,←h4,List.getElem?_take] at hj
   split at hj
   ·rw[Nat.zero_add];exact hj
   ·cases hj
  ·cases hj
theorem d3a.rdI{w0 w:World}{L:List Ent}{k:Nat}{G:Option Nat}{el n:Nat}{cs:List Value}{v:Value}{M:List Nat}{l:List Int}(hR:d3a G 1 n cs v (l.map (Value.int .i64)))(S:St [] w0 w L)(hk:L[k]?=some (G,el,cs))
 (hM:∀g∈M,g<w0.heap.size) (hl:∀x∈l,i64 x) (a0:l.length≤140737488355328):RdI M w v l:=by
 have hn:n=l.length:=by have:=hR.1;simp at this;omega
 subst hn;refine hR.rd S hk (fun g hg hm=>?_) rfl a0 (fun i x hi=>?_)
 ·subst hg;rcases S.new k hk with h|h
  ·have:=hM g hm;omega
  ·simp at h
 ·have b0:i<l.length:=(List.getElem?_eq_some_iff.1 hi).1;have hx:l[i]=x:=(List.getElem?_eq_some_iff.1 hi).2;have e1:((l.map (Value.int .i64)).drop (i*1)).take 1=[.int .i64 x]:=by
   rw[Nat.mul_one,List.drop_eq_getElem_cons (by simpa using b0)];simp[hx]
  rw[e1];exact⟨rfl,rfl,hl x (by rw[←hx];exact List.getElem_mem b0)⟩
theorem RdS.at{M:List Nat}{w:World}{size:Nat}{R:List Value→α→Prop}{A:Option Addr}{n c:Nat}{l:List α}(h:RdS M w size R (.slice A n c) l):n=l.length∧n≤c∧c≤maxLen∧n≤140737488355328 ∧
 (0<n→∃b o,A=some ⟨b,o,none⟩∧b∉M∧∀i x,l[i]?=some x→∃cs,cs.length=size∧t1a w b (o+i*size) cs∧R cs x):=by
 obtain⟨_,_,_,he,h1,h2,h3,h4,h5⟩:=h;cases he;exact⟨h1,h2,h3,h4,h5⟩
theorem RdS.form{M:List Nat}{w:World}{size:Nat}{R:List Value→α→Prop}{v:Value}{l:List α}(h:RdS M w size R v l):∃A n c,v=.slice A n c:=by
 obtain⟨_,_,_,he,_⟩:=h;exact⟨_,_,_,he⟩
theorem RdS.more{M M':List Nat}{w:World}{size:Nat}{R:List Value→α→Prop}{v:Value}{l:List α}(h:RdS M w size R v l)(hs:0<size)(hM:∀g∈M',g∈M∨w.heap.size≤g):RdS M' w size R v l:=by
 obtain⟨A,n,c,h1,h2,h3,h4,b0,h5⟩:=h;refine⟨A,n,c,h1,h2,h3,h4,b0,fun hn=>?_⟩;obtain⟨b,o,h6,h7,h8⟩:=h5 hn;refine⟨b,o,h6,fun hh=>?_,h8⟩;rcases hM b hh with h|h
 ·exact h7 h
 ·have hl:0<l.length:=by omega
  obtain⟨cs,_,a0,_⟩:=h8 0 l[0] (List.getElem?_eq_getElem hl);have:=World.block_lt_of_cell? w _ (a0 0 cs[0] (List.getElem?_eq_getElem (by omega)));simp at this;omega
theorem St.rd1{w0 w:World}{L:List Ent}{k:Nat}{g el n:Nat}{cs:List Value}{M M':List Nat}{R:List Value→α→Prop}{l:List α}(S:St M' w0 w L)(hk:L[k]?=some (some g,el,cs))(hM:g∉M)(hn:n=l.length)(a0:n≤140737488355328)
 (hl:∀(i:Nat) (x:α),l[i]?=some x→∃v,cs[i]?=some v∧R [v] x):RdS M w 1 R (.slice (some ⟨g,0,none⟩) n n) l:=by
 refine⟨_,n,n,rfl,hn,Nat.le_refl _,by unfold maxLen;omega,a0,fun _=>⟨g,0,rfl,hM,fun i x hi=>?_⟩⟩;obtain⟨v,hv,hr⟩:=hl i x hi;refine⟨[v],rfl,fun j u hj=>?_,hr⟩;cases j with
 | zero=>simp at hj;subst hj;simpa using S.cell k hk hv
 | succ j=>simp at hj
end
section
variable {P:Program} {r:Option Nat} {N:Nat} {D:List Deferred} {e:Env} {w w0:World} {ops:Array Oper} {rest:List Oper} {K:List Deferred→Env→World→Prop} {L:List Ent} {M:List Nat}
variable {d:Nat} {t:TypeId} {p:String} {af:Array Edge} {x y:Operand} {kd:IntKind}
theorem U4b{ty el size a0 n c m:Nat}{z:Value}{A B:Option Addr}(hS:SlZ P ty el size z a0)(hx:ev e x=.slice A n c)(e0:n≤c)(hy:ev e y=.slice B 0 m)(hd:Nat.ble (d+1) N=true)
 (h:WL P r N ops rest K D (upd e d (.slice A n c)) w) :
 WL P r N ops (⟨some d,.call { callee:=.builtin .append,args:=#[x,y],argTypes:=#[ty,ty] },t,p,af,none⟩::rest) K D e w:=by
 obtain⟨_,hi,_,g0,_⟩:=hS.parts;have hu:=hS.und;refine k1a rfl rfl hd (by simp) ?_ h;have f0:(sizeOf el).run P w=.ok size w:=by simp[sizeOf,typeInfo,hi,g0]
 have d0:(Builtin.firstCells size 0 (.slice B 0 m)).run P w=.ok #[] w:=by
  cases B<;>simp[Builtin.firstCells,loadCells,loadCellsFrom]
 have b0:(Builtin.append_ #[ty,ty] t #[.slice A n c,.slice B 0 m]).run P w=.ok (.slice A n c) w:=by
  simp[Builtin.append_,run_underlying hu,f0,Builtin.lenOf,e0,d0];cases A<;>simp[storeCells]
 simp[execOp,resolve,invoke,builtin,hx,hy,b0]
theorem B5c{ty size k c n o b:Nat}(hT:SlT P ty size)(hx:ev e x=.slice (some ⟨b,o,none⟩) n c)(hy:ev e y=.int kd (k:Int))(h2:k≤c)(h3:n≤c)(hd:Nat.ble (d+1) N=true)
 (h:WL P r N ops rest K D (upd e d (.slice (some ⟨b,o,none⟩) k c)) w) :
 WL P r N ops (⟨some d,.slice ty x none (some y) none,t,p,af,none⟩::rest) K D e w:=by
 refine c3b (lo:=0) (hi:=k) (kd:=kd) hT hx (.inl ⟨rfl,rfl⟩) (.inr (by rw[Option.map_some,hy])) (Nat.zero_le _) h2 h3 hd ?_;simpa using h
theorem RdI.cells{M':List Nat}{A:Option Addr}{m c:Nat}{l:List Int}(h:RdI M' w (.slice A m c) l)(hm:0<m):∃b o,A=some ⟨b,o,none⟩∧b∉M'∧t1a w b o (l.map (Value.int .i64)):=by
 obtain⟨_,_,_,_,h5⟩:=h.at;obtain⟨b,o,hA,hb,he⟩:=h5 hm;refine⟨b,o,hA,hb,fun j v hj=>?_⟩;rw[List.getElem?_map] at hj;cases hx:l[j]? with
 | none=>rw[hx] at hj;cases hj
 | some x =>
   rw[hx] at hj;obtain⟨_,_,h7,h8⟩:=he j x hx;have:=h7 0 (.int .i64 x) (by rw[h8.1];rfl);simp at hj this;rw[←hj];exact this
theorem o6a{ty el a0 k m c:Nat}{z v:Value}{G:Option Nat}{B:Option Addr}{cs:List Value}{xs l:List Int}{M':List Nat}(S:St M w0 w L)(hS:SlZ P ty el 1 z a0)(hk:L[k]?=some (G,el,cs))(hR:d3a G 1 xs.length cs v (xs.map (Value.int .i64)))
 (hx:ev e x=v) (hy:ev e y=.slice B m c) (hl:RdI M' w (.slice B m c) l) (i0:xs.length+l.length≤100000000) (b0:a0≤1000) (hd:Nat.ble (d+1) N=true)
 (h:∀v' G' d0 w1,St M w0 w1 (L.set k (G',el,d0))→d3a G' 1 (xs++l).length d0 v' ((xs++l).map (Value.int .i64))→y0a G.toList w w1→WL P r N ops rest K D (upd e d v') w1) :
 WL P r N ops (⟨some d,.call { callee:=.builtin .append,args:=#[x,y],argTypes:=#[ty,ty] },t,p,af,none⟩::rest) K D e w:=by
 obtain⟨hm,_⟩:=hl.at;by_cases h0:m=0
 ·obtain rfl:l=[]:=List.length_eq_zero_iff.1 (by omega);subst h0;have hv:∃A n c,v=.slice A n c∧n≤c:=by
   rcases hR with⟨_,⟨_,rfl,_⟩|⟨g,g0,_,rfl,h1,_⟩⟩
   ·exact⟨_,_,_,rfl,Nat.le_refl _⟩
   ·exact⟨_,_,_,rfl,h1⟩
  obtain⟨A,n,_,rfl,f0⟩:=hv;refine U4b hS hx f0 hy hd ?_;refine h _ G cs w ?_ (by simpa using hR) (y0a.refl _ _);obtain⟨e0,he⟩:=List.getElem?_eq_some_iff.1 hk;rw[←he,List.set_getElem_self e0];exact S
 ·obtain⟨_,_,rfl,_,hc⟩:=RdI.cells hl (by omega);refine o3b (n:=xs.length) (m:=m) (news:=l.map (Value.int .i64)) S hS hk hR hx hy hc (by simp;omega) (by simp[Value.oneCell']) (by omega) (Nat.le_trans (Nat.mul_le_mul (show xs.length+m≤100000000 by omega) b0) (by omega)) hd ?_;intro v' G' d0 w1 S1 R1 K1;refine h v' G' d0 w1 S1 ?_ K1;rw[List.length_append,←hm,List.map_append];exact R1
end
def x6a(el:Nat)(w0 w:World)(v:Value)(l:List Int):Prop :=
 ∃G cs,d3a G 1 l.length cs v (l.map (Value.int .i64))∧∀g,G=some g→w0.heap.size≤g∧p0a w (g,el,cs)
theorem x6a.open_{M:List Nat}{el:Nat}{w0 w w1:World}{L:List Ent}{v:Value}{l:List Int}(h:x6a el w w1 v l)(S:St M w0 w1 L)(Sw:St M w0 w L):
 ∃G cs,d3a G 1 l.length cs v (l.map (Value.int .i64))∧St M w0 w1 ((G,el,cs)::L):=by
 obtain⟨G,cs,h1,h2⟩:=h;refine⟨G,cs,h1,?_⟩;cases G with
 | none =>
   refine⟨S.below,fun b hm g hg=>?_,List.pairwise_cons.2 ⟨fun b hb g hg=>(by cases hg),S.apart⟩⟩;rcases List.mem_cons.1 hm with rfl|hm
   ·cases hg
   ·exact S.own b hm g hg
 | some g =>
   obtain⟨h3,h4⟩:=h2 g rfl;exact S.push_new Sw h4 h3
inductive Tr|l|n (k v:Nat) (a b:Tr)
def Tr.find(k:Nat):Tr→Option Nat
 | .l=>none
 | .n k' v a b=>bif Nat.beq k k' then some v else bif Nat.blt k k' then a.find k else b.find k
def Tr.All(p:Nat→Nat→Prop):Tr→Prop
 | .l=>True
 | .n k v a b=>p k v∧a.All p∧b.All p
theorem Tr.find_all{p:Nat→Nat→Prop}{k v:Nat}:∀{t:Tr},t.All p→t.find k=some v→p k v
 | .l,_,h=>by cases h
 | .n k' v' a b,h,hf=>by
   unfold Tr.find at hf;cases hb:Nat.beq k k' with
   | true=>rw[hb] at hf;cases hf;rw[Nat.eq_of_beq_eq_true hb];exact h.1
   | false =>
     rw[hb] at hf;simp only[cond_false] at hf;cases hl:Nat.blt k k' with
     | true=>rw[hl] at hf;exact Tr.find_all h.2.1 hf
     | false=>rw[hl] at hf;exact Tr.find_all h.2.2 hf
structure Tab where
 fa:Tr
 fl:Tr
 sl:Tr
 ld:Tr
 bo:Tr
def t4b(p:Nat→Nat→Nat→Prop)(k v:Nat):Prop:=∀s f,f<64→k=s*64+f→p s f v
theorem t4b.of{p:Nat→Nat→Nat→Prop}{k v s f:Nat}(h:p s f v)(hf:Nat.blt f 64=true)(hk:Nat.beq k (s*64+f)=true):t4b p k v:=by
 intro s' f' a0 b0;have h1:=Nat.eq_of_beq_eq_true hk;have h2:f<64:=Nat.le_of_ble_eq_true hf;have h3:s=s':=by omega
 have h4:f=f':=by omega
 subst h3 h4;exact h
def LdT(P:Program)(t:Nat):Nat→Prop
 | 0=>One P t
 | n+1=>F7a P t (n+1)
structure Tab.Ok (P:Program) (T:Tab):Prop where
 fa:T.fa.All (t4b (FA P))
 fl:T.fl.All (t4b (Fld P))
 sl:T.sl.All (SlT P)
 ld:T.ld.All (LdT P)
 bo:T.bo.All fun t _=>P.underlying t=some .bool
def Y6b(t:Tr)(s f:Nat):Option Nat:=bif Nat.blt f 64 then t.find (s*64+f) else none
theorem z4b{p:Nat→Nat→Nat→Prop}{t:Tr}{s f v:Nat}(h:t.All (t4b p))(hv:Y6b t s f=some v):p s f v:=by
 unfold Y6b at hv;cases hb:Nat.blt f 64 with
 | false=>rw[hb] at hv;cases hv
 | true=>rw[hb] at hv;exact Tr.find_all h hv s f (Nat.le_of_ble_eq_true hb) rfl
inductive P6a|o (k:Nat)|f (i j:Nat)|x (b o:Nat)|i|w (k:Nat)|v (i:Nat)
abbrev Row:=Nat×Nat×List Value
def nth{α:Type}:List α→Nat→Option α
 | [],_=>none
 | a::_,0=>some a
 | _::l,n+1=>nth l n
theorem X7a{α:Type}:∀(l:List α) (n:Nat),nth l n=l[n]?
 | [],_=>by simp[nth]
 | a::l,0=>by simp[nth]
 | _::l,n+1=>by simp[nth,X7a l n]
def sub{β:Type}(cs:List Value):Nat→Nat→(List Value→β)→β→β
 | 0,n,k,z=>go n cs k z
 | o+1,n,k,z=>match cs with
   | []=>z
   | _::cs=>sub cs o n k z
where go:Nat→List Value→(List Value→β)→β→β
 | 0,_,k,_=>k []
 | _+1,[],_,z=>z
 | n+1,v::cs,k,z=>go n cs (fun l=>k (v::l)) z
inductive Sr
 | val (v:Value)
 | need (p:Prop) (v:Value)
 | br (p p':Prop)
 | stop
def cmp(op:BinOp)(a b:Int):Sr:=match op with
 | .lss=>.br (a<b) (b≤a)
 | .leq=>.br (a≤b) (b<a)
 | .gtr=>.br (b<a) (a≤b)
 | .geq=>.br (b≤a) (a<b)
 | .eql=>.br (a=b) (a≠b)
 | .neq=>.br (a≠b) (a=b)
 | _=>.stop
def i9c(op:BinOp)(a b:Int):Sr:=match op with
 | .add=>.need (-9223372036854775808≤a+b∧a+b≤9223372036854775807) (.int .i64 (a+b))
 | .sub=>.need (-9223372036854775808≤a-b∧a-b≤9223372036854775807) (.int .i64 (a-b))
 | .mul=>.need (-9223372036854775808≤a*b∧a*b≤9223372036854775807) (.int .i64 (a*b))
 | .and=>.val (.int .i64 (s0b a b))
 | .or=>.val (.int .i64 (bor a b))
 | .xor=>.val (.int .i64 (j0c a b))
 | op=>cmp op a b
def Y0d(T:Tab)(op:BinOp)(xt:Nat)(x y:Value):Sr:=match x with
 | .int .i64 a=>(match y with | .int .i64 b=>i9c op a b|_=>.stop)
 | .int .u8 a=>(match y with | .int .u8 b=>cmp op a b|_=>.stop)
 | .bool a=>(match y with
   | .bool b=>(match T.bo.find xt with
     | some _=>(match op with | .eql=>.val (.bool (a==b)) | .neq=>.val (.bool (!(a==b)))|_=>.stop)
     | none=>.stop)
   | _=>.stop)
 | _=>.stop
def unS(op:UnOp)(x:Value):Sr:=match op with
 | .not=>(match x with | .bool b=>.val (.bool (!b))|_=>.stop)
 | .neg=>(match x with | .int .i64 a=>.need (-9223372036854775808≤-a∧-a≤9223372036854775807) (.int .i64 (-a))|_=>.stop)
 | .xor=>(match x with | .int .i64 a=>.val (.int .i64 (j0c (-1) a))|_=>.stop)
 | _=>.stop
def C1d(T:Tab)(b:Builtin)(l:List Operand)(ts:List Nat)(e:Env):Sr:=match l with
 | [x]=>(match ts with
   | [ty]=>(match ev e x with
     | .slice _ n c=>(match T.sl.find ty with
       | some _=>(match b with | .len=>.val (.int .i64 n) | .cap=>.val (.int .i64 c)|_=>.stop)
       | none=>.stop)
     | _=>.stop)
   | _=>.stop)
 | _=>.stop
def q8c(T:Tab)(c:Call)(e:Env):Sr:=match c with
 | ⟨.builtin b,args,ts⟩=>C1d T b args.toList ts.toList e
 | _=>.stop
def v0c(T:Tab)(hs:List P6a)(ty:Nat)(x y:Value):Sr:=match x with
 | .slice A n _=>(match y with
   | .int .i64 a=>(match T.sl.find ty with
     | some size=>(match hs with
       | .x b o::_=>.need (A=some ⟨b,o,none⟩∧0≤a∧a<n) (.pointer (some ⟨b,o+a.toNat*size,none⟩))
       | .i::_=>(match A with
         | some ⟨b,o,none⟩=>.need (0≤a∧a<n) (.pointer (some ⟨b,o+a.toNat*size,none⟩))
         | _=>.stop)
       | _=>.stop)
     | none=>.stop)
   | _=>.stop)
 | _=>.stop
def C0d(T:Tab)(ty:Nat)(cs:List Value)(j:Nat)(p:Prop):Sr:=match T.ld.find ty with
 | some 0=>(match nth cs j with|some v=>.need p v|none=>.stop)
 | some (n+1)=>sub cs j (n+1) (fun l=>.need p (.agg l.toArray)) .stop
 | none=>.stop
def ldW(T:Tab)(ty:Nat)(cs:List Value)(p:Prop):Sr:=match T.ld.find ty with
 | some (n+1)=>.need (p∧cs.length=n+1) (.agg cs.toArray)
 | _=>.stop
def ldS(T:Tab)(L:List Ent)(F:List Row)(hs:List P6a)(ty:Nat)(x:Value):Sr:=match x with
 | .pointer (some ⟨b,o,none⟩)=>(match hs with
   | .o k::_=>(match nth L k with
     | some (some g,_,cs)=>C0d T ty cs o (b=g)
     | _=>.stop)
   | .f i j::_=>(match nth F i with
     | some (b',o',cs)=>C0d T ty cs j ((b,o)=(b',o'+j))
     | none=>.stop)
   | .w k::_=>(match nth L k with
     | some (some g,_,cs)=>ldW T ty cs ((b,o)=(g,0))
     | _=>.stop)
   | .v i::_=>(match nth F i with
     | some (b',o',cs)=>ldW T ty cs ((b,o)=(b',o'))
     | none=>.stop)
   | _=>.stop)
 | _=>.stop
def a2c(T:Tab)(L:List Ent)(F:List Row)(hs:List P6a)(e:Env)(op:Op):Sr:=match op with
 | .move x=>.val (ev e x)
 | .assign x=>.val (ev e x)
 | .pick c a b=>(match ev e c with | .bool true=>.val (ev e a) | .bool false=>.val (ev e b)|_=>.stop)
 | .nilCheck x=>(match ev e x with | .pointer (some a)=>.val (.pointer (some a))|_=>.stop)
 | .fieldAddr s x f=>(match ev e x with
   | .pointer (some ⟨b,o,none⟩)=>(match Y6b T.fa s f with|some off=>.val (.pointer (some ⟨b,o+off,none⟩))|none=>.stop)
   | _=>.stop)
 | .field s x f=>(match ev e x with
   | .agg cs=>(match Y6b T.fl s f with|some off=>(match nth cs.toList off with|some v=>.val v|none=>.stop)|none=>.stop)
   | _=>.stop)
 | .extract x i=>(match ev e x with | .tuple vs=>(match nth vs.toList i with|some v=>.val v|none=>.stop)|_=>.stop)
 | .binOp op xt x y _=>Y0d T op xt (ev e x) (ev e y)
 | .unOp op _ x=>unS op (ev e x)
 | .indexAddr ty x y=>v0c T hs ty (ev e x) (ev e y)
 | .call c=>q8c T c e
 | .load ty x=>ldS T L F hs ty (ev e x)
 | _=>.stop
def n1b(P:Program)(C:World→Prop)(e:Env)(op:Op)(v:Value):Prop :=
 ∀d t p af g w,C w→(execOp (ev e) ⟨d,op,t,p,af,g⟩).run P w=.ok (.value v) w
def Sr.ok(P:Program)(C:World→Prop)(e:Env)(op:Op):Sr→Prop
 | .val v=>n1b P C e op v
 | .need p v=>p→n1b P C e op v
 | .br p p'=>(p→n1b P C e op (.bool true))∧(p'→n1b P C e op (.bool false))∧(p∨p')
 | .stop=>True
structure Kn (C:World→Prop) (L:List Ent) (F:List Row):Prop where
 own:∀w,C w→∀b∈L,∀g,b.1=some g→p0a w (g,b.2)
 row:∀w,C w→∀f∈F,t1a w f.1 f.2.1 f.2.2
section
variable {P:Program} {T:Tab} {C:World→Prop} {L:List Ent} {F:List Row} {e:Env}
theorem N4c{kd:IntKind}{op:BinOp}{xt yt:Nat}{x y:Operand}{a b:Int}(hx:ev e x=.int kd a)(hy:ev e y=.int kd b):(cmp op a b).ok P C e (.binOp op xt x y yt):=by
 cases op<;>first
  | exact trivial
  | refine⟨fun h _ _ _ _ _ w _=>?_,fun h _ _ _ _ _ w _=>?_,by omega⟩
 case lss.refine_1=>simp[execOp,hx,hy,eqGuard_lss,binOp_lss,h]
 case lss.refine_2=>simp[execOp,hx,hy,eqGuard_lss,binOp_lss];omega
 case leq.refine_1=>simp[execOp,hx,hy,eqGuard_leq,binOp_leq,h]
 case leq.refine_2=>simp[execOp,hx,hy,eqGuard_leq,binOp_leq];omega
 case gtr.refine_1=>simp[execOp,hx,hy,eqGuard_gtr,binOp_gtr,h]
 case gtr.refine_2=>simp[execOp,hx,hy,eqGuard_gtr,binOp_gtr];omega
 case geq.refine_1=>simp[execOp,hx,hy,eqGuard_geq,binOp_geq,h]
 case geq.refine_2=>simp[execOp,hx,hy,eqGuard_geq,binOp_geq];omega
 case eql.refine_1=>simp[execOp,hx,hy,eqGuard_at_int,binOp_eql,h]
 case eql.refine_2=>simp[execOp,hx,hy,eqGuard_at_int,binOp_eql,h]
 case neq.refine_1=>simp[execOp,hx,hy,eqGuard_at_int,binOp_neq,h]
 case neq.refine_2=>simp[execOp,hx,hy,eqGuard_at_int,binOp_neq,h]
theorem n4c{op:BinOp}{xt yt:Nat}{x y:Operand}{a b:Int}(hx:ev e x=.int .i64 a)(hy:ev e y=.int .i64 b):(i9c op a b).ok P C e (.binOp op xt x y yt):=by
 cases op
 case add=>exact fun h _ _ _ _ _ w _=>by simp[execOp,hx,hy,eqGuard_add,binOp_add,Op.intArith,F4a (show i64 _ from h)]
 case sub=>exact fun h _ _ _ _ _ w _=>by simp[execOp,hx,hy,eqGuard_sub,binOp_sub,Op.intArith,F4a (show i64 _ from h)]
 case mul=>exact fun h _ _ _ _ _ w _=>by simp[execOp,hx,hy,eqGuard_mul,binOp_mul,Op.intArith,F4a (show i64 _ from h)]
 case and=>exact fun _ _ _ _ _ w _=>by simp[execOp,hx,hy,eqGuard_and,binOp_and,intBits_and,s0b]
 case or=>exact fun _ _ _ _ _ w _=>by simp[execOp,hx,hy,eqGuard_or,binOp_or,intBits_or,bor]
 case xor=>exact fun _ _ _ _ _ w _=>by simp[execOp,hx,hy,eqGuard_xor,binOp_xor,intBits_xor,j0c]
 all_goals exact N4c hx hy
theorem y7c(hT:T.Ok P){op:BinOp}{xt yt:Nat}{x y:Operand}:(Y0d T op xt (ev e x) (ev e y)).ok P C e (.binOp op xt x y yt):=by
 unfold Y0d
 split
 ·rename_i a hx
  split
  ·rename_i b hy;exact n4c hx hy
  ·trivial
 ·rename_i a hx
  split
  ·rename_i b hy;exact N4c hx hy
  ·trivial
 ·rename_i a hx
  split
  ·rename_i b hy
   split
   ·rename_i u hu;have hU:=Tr.find_all hT.bo hu
    split
    ·exact fun _ _ _ _ _ w _=>by simp[execOp,hx,hy,eqGuard_at_bool,binOp,run_equal_bool w xt a b hU]
    ·exact fun _ _ _ _ _ w _=>by simp[execOp,hx,hy,eqGuard_at_bool,binOp,run_equal_bool w xt a b hU]
    ·trivial
   ·trivial
  ·trivial
 ·trivial
theorem v8c{op:UnOp}{xt:Nat}{x:Operand}:(unS op (ev e x)).ok P C e (.unOp op xt x):=by
 unfold unS
 split
 ·split
  ·rename_i b hx;exact fun _ _ _ _ _ w _=>by simp[execOp,hx,Op.unary]
  ·trivial
 ·split
  ·rename_i a hx;exact fun h _ _ _ _ _ w _=>by
    have h0:(0:Int)-a=-a:=by omega
    simp only[execOp,hx,Op.unary,Op.intArith,Sem.run_bind,Sem.run_pure,Result.andThen_ok,h0,F4a (show i64 _ from h)]
  ·trivial
 ·split
  ·rename_i a hx;exact fun _ _ _ _ _ w _=>by
    have h0:Op.unary .xor (.int .i64 a)=Op.intBits .xor .i64 (-1) a:=rfl;simp[execOp,hx,h0,intBits_xor,j0c]
  ·trivial
 ·trivial
theorem k3c(hT:T.Ok P){c:Call}:(q8c T c e).ok P C e (.call c):=by
 obtain⟨_,args,ts⟩:=c;unfold q8c
 split
 ·rename_i b a0 f0 d0;cases d0;unfold C1d
  split
  ·rename_i x ha
   split
   ·rename_i ty ht;have b0:args=#[x]:=by apply Array.ext';simpa using ha
    have e0:ts=#[ty]:=by apply Array.ext';simpa using ht
    subst b0 e0
    split
    ·rename_i A n c hx
     split
     ·rename_i size hs;obtain⟨_,hu,-⟩:=Tr.find_all hT.sl hs
      split
      ·exact fun _ _ _ _ _ w _=>by simp[execOp,resolve,invoke,builtin,Builtin.len_,hx,run_underlying hu,goInt]
      ·exact fun _ _ _ _ _ w _=>by simp[execOp,resolve,invoke,builtin,Builtin.cap_,hx,run_underlying hu,goInt]
      ·trivial
     ·trivial
    ·trivial
   ·trivial
  ·trivial
 ·trivial
theorem r0c(hT:T.Ok P){hs:List P6a}{ty:Nat}{x y:Operand}:(v0c T hs ty (ev e x) (ev e y)).ok P C e (.indexAddr ty x y):=by
 have key:∀{b o n c size:Nat} {a:Int} {A:Option Addr},ev e x=.slice A n c→ev e y=.int .i64 a→T.sl.find ty=some size→A=some ⟨b,o,none⟩→0≤a→a<n →
  n1b P C e (.indexAddr ty x y) (.pointer (some ⟨b,o+a.toNat*size,none⟩)):=by
  intro b o n c size a A hx hy hs hA h0 h1 _ _ _ _ _ w _;obtain⟨_,hu,a0⟩:=O5a (Tr.find_all hT.sl hs);subst hA;simp[execOp,Instr.indexAt,hx,hy,asIntOf,run_underlying hu,h0,h1,a0,Addr.add_lit]
 unfold v0c
 split
 ·rename_i A n c hx
  split
  ·rename_i a hy
   split
   ·rename_i size hs
    split
    ·exact fun h=>key hx hy hs h.1 h.2.1 h.2.2
    ·split
     ·exact fun h=>key hx hy hs rfl h.1 h.2
     ·trivial
    ·trivial
   ·trivial
  ·trivial
 ·trivial
theorem c5c{β:Type}{p:β→Prop}{z:β}(hz:p z):∀(o:Nat) (cs:List Value) (n:Nat) (k:List Value→β),(∀l:List Value,l.length=n→(∀(j:Nat) (v:Value),l[j]?=some v→cs[o+j]?=some v)→p (k l))→p (sub cs o n k z)
 | 0,cs,n,k,h=>by
   unfold sub;have key:∀(n:Nat) (cs:List Value) (k:List Value→β),(∀l:List Value,l.length=n→(∀(j:Nat) (v:Value),l[j]?=some v→cs[j]?=some v)→p (k l))→p (sub.go n cs k z):=by
    intro n
    induction n with
    | zero=>intro cs k h;unfold sub.go;exact h [] rfl (by simp)
    | succ n ih =>
      intro cs k h;cases cs with
      | nil=>unfold sub.go;exact hz
      | cons v cs =>
        unfold sub.go;refine ih cs _ fun l hl hj=>h (v::l) (by simp[hl]) fun j u hu=>?_;cases j with
        | zero=>simpa using hu
        | succ j=>simpa using hj j u (by simpa using hu)
   exact key n cs k fun l hl hj=>h l hl fun j v hv=>by rw[Nat.zero_add];exact hj j v hv
 | o+1,[],n,k,h=>by unfold sub;exact hz
 | o+1,c::cs,n,k,h=>by
   unfold sub;exact c5c hz o cs n k fun l hl hj=>h l hl fun j v hv=>by rw[Nat.add_right_comm];simpa using hj j v hv
theorem T1c(hT:T.Ok P){ty b o j:Nat}{x:Operand}{cs:List Value}{p:Prop}(hx:ev e x=.pointer (some ⟨b,o,none⟩))(hc:p→∀w,C w→∀i v,cs[j+i]?=some v→w.cell? ⟨b,o+i,none⟩=some v):
 (C0d T ty cs j p).ok P C e (.load ty x):=by
 unfold C0d
 split
 ·rename_i ht;have h1:One P ty:=Tr.find_all (p:=LdT P) hT.ld ht
  split
  ·rename_i v hv;rw[X7a] at hv;exact fun hp _ _ _ _ _ w hw=>by
    have:=hc hp w hw 0 v (by simpa using hv);rw[Nat.add_zero] at this;simp[execOp,hx,Instr.loadAt,Instr.sureAddr,h1 w,this]
  ·trivial
 ·rename_i n ht;have h1:F7a P ty (n+1):=Tr.find_all (p:=LdT P) hT.ld ht;refine c5c (p:=fun s:Sr=>s.ok P C e (.load ty x)) (z:=.stop) (show Sr.ok P C e (.load ty x) .stop from trivial) _ _ _ _ fun l hl hj=>?_;exact fun hp _ _ _ _ _ w hw=>by
   have:=run_loadCells_list (P:=P) w ⟨b,o,none⟩ l (fun i v hv=>by rw[Addr.add_lit];exact hc hp w hw i v (hj i v hv));rw[hl] at this;simp[execOp,hx,Instr.loadAt,Instr.sureAddr,h1 w,this]
 ·trivial
theorem P4c(hT:T.Ok P){ty b o:Nat}{x:Operand}{cs:List Value}{p:Prop}(hx:ev e x=.pointer (some ⟨b,o,none⟩))(hc:p→∀w,C w→t1a w b o cs):
 (ldW T ty cs p).ok P C e (.load ty x):=by
 unfold ldW
 split
 ·rename_i n ht;have h1:F7a P ty (n+1):=Tr.find_all (p:=LdT P) hT.ld ht;exact fun hp _ _ _ _ _ w hw=>by
   have:=run_loadCells_list (P:=P) w ⟨b,o,none⟩ cs (fun i v hv=>by rw[Addr.add_lit];exact hc hp.1 w hw i v hv);rw[hp.2] at this;simp[execOp,hx,Instr.loadAt,Instr.sureAddr,h1 w,this]
 ·trivial
theorem p9c(hT:T.Ok P)(hL:Kn C L F){hs:List P6a}{ty:Nat}{x:Operand}:(ldS T L F hs ty (ev e x)).ok P C e (.load ty x):=by
 unfold ldS
 split
 ·rename_i b o hx
  split
  ·split
   ·rename_i g t cs hn;have hm:∀w,C w→p0a w (g,t,cs):=fun w hw=>hL.own w hw _ (List.mem_of_getElem? (by rw[←X7a];exact hn)) g rfl;exact T1c hT hx fun hp w hw i v hv=>by subst hp;exact(hm w hw).cell hv
   ·trivial
  ·split
   ·rename_i i j b' o' cs hn;have hm:∀w,C w→t1a w b' o' cs:=fun w hw=>hL.row w hw _ (List.mem_of_getElem? (by rw[←X7a];exact hn));refine T1c hT hx fun hp w hw i v hv=>?_;simp only[Prod.mk.injEq] at hp;obtain⟨rfl,rfl⟩:=hp;have:=hm w hw _ v hv
    rwa [←Nat.add_assoc] at this
   ·trivial
  ·split
   ·rename_i g t cs hn;have hm:∀w,C w→p0a w (g,t,cs):=fun w hw=>hL.own w hw _ (List.mem_of_getElem? (by rw[←X7a];exact hn)) g rfl;refine P4c hT hx fun hp w hw i v hv=>?_;simp only[Prod.mk.injEq] at hp;obtain⟨rfl,rfl⟩:=hp;rw[Nat.zero_add];exact(hm w hw).cell hv
   ·trivial
  ·split
   ·rename_i i b' o' cs hn;have hm:∀w,C w→t1a w b' o' cs:=fun w hw=>hL.row w hw _ (List.mem_of_getElem? (by rw[←X7a];exact hn));refine P4c hT hx fun hp w hw=>?_;simp only[Prod.mk.injEq] at hp;obtain⟨rfl,rfl⟩:=hp;exact hm w hw
   ·trivial
  ·trivial
 ·trivial
theorem U3c(hT:T.Ok P)(hL:Kn C L F){hs:List P6a}{op:Op}:(a2c T L F hs e op).ok P C e op:=by
 unfold a2c
 split
 ·exact fun _ _ _ _ _ w _=>by simp only[execOp,Sem.run_pure]
 ·exact fun _ _ _ _ _ w _=>by simp only[execOp,Sem.run_pure]
 ·split
  ·rename_i hc;exact fun _ _ _ _ _ w _=>by simp[execOp,hc,asBool]
  ·rename_i hc;exact fun _ _ _ _ _ w _=>by simp[execOp,hc,asBool]
  ·trivial
 ·split
  ·rename_i a hx;exact fun _ _ _ _ _ w _=>by simp[execOp,hx]
  ·trivial
 ·split
  ·rename_i b o hx
   split
   ·rename_i a0 hf;have:=z4b hT.fa hf;exact fun _ _ _ _ _ w _=>by simp[execOp,hx,this w,Addr.add_lit]
   ·trivial
  ·trivial
 ·split
  ·rename_i cs hx
   split
   ·rename_i a0 hf;have hF:=z4b hT.fl hf
    split
    ·rename_i v hv;rw[X7a] at hv;exact fun _ _ _ _ _ w _=>by simp[execOp,hx,hF w cs v (by simpa using hv)]
    ·trivial
   ·trivial
  ·trivial
 ·split
  ·rename_i vs hx
   split
   ·rename_i v hv;rw[X7a] at hv;exact fun _ _ _ _ _ w _=>by simp[execOp,hx,Instr.extract,(by simpa using hv:vs[_]?=some v)]
   ·trivial
  ·trivial
 ·exact y7c hT
 ·exact v8c
 ·exact r0c hT
 ·exact k3c hT
 ·exact p9c hT hL
 ·trivial
end
inductive S1
 | next (hs:List P6a) (q:Prop) (e:Env)
 | br (p p':Prop) (d:Nat)
 | stop (o:Oper)
def force(v:Value)(k:Value→S1):S1:=match v with
 | .bool b=>k (.bool b)
 | .int kd n=>k (.int kd n)
 | .float a b=>k (.float a b)
 | .complex a b c=>k (.complex a b c)
 | .string s=>k (.string s)
 | .pointer a=>k (.pointer a)
 | .slice a n c=>k (.slice a n c)
 | .map r=>k (.map r)
 | .chan r=>k (.chan r)
 | .func f a b=>k (.func f a b)
 | .nilFunc=>k .nilFunc
 | .iface t v=>k (.iface t v)
 | .nilIface=>k .nilIface
 | .agg cs=>k (.agg cs)
 | .tuple vs=>k (.tuple vs)
theorem s7b(v:Value)(k:Value→S1):force v k=k v:=by cases v<;>rfl
def Y9b(N:Nat)(os:Array Oper)(e:Env)(g:Option (Nat×Bool)):Option Bool:=match g with
 | none=>some true
 | some (j,want)=>(match nth os.toList j with
   | some o=>(match o.dst with
     | some s=>bif Nat.ble (s+1) N then some (isB want (e s)) else none
     | none=>none)
   | none=>none)
def N1d(hs:List P6a):Op→List P6a
 | .load _ _=>hs.tail
 | .indexAddr _ _ _=>hs.tail
 | _=>hs
def r7c(T:Tab)(L:List Ent)(F:List Row)(hs:List P6a)(q:Prop)(e:Env)(d:Nat)(op:Op)(z:Oper):S1:=match a2c T L F hs e op with
 | .val v=>force v fun v=>.next hs q (upd e d v)
 | .need p v=>force v fun v=>.next (N1d hs op) (p∧q) (upd e d v)
 | .br p p'=>.br p p' d
 | .stop=>.stop z
def w3c(T:Tab)(N:Nat)(L:List Ent)(F:List Row)(hs:List P6a)(q:Prop)(os:Array Oper)(e:Env)(o:Oper):S1:=match o with
 | ⟨dst,op,ty,p,af,g⟩=>(match Y9b N os e g with
   | none=>.stop ⟨dst,op,ty,p,af,g⟩
   | some false=>(match dst with
     | none=>.next hs q e
     | some d=>bif Nat.ble (d+1) N then .next hs q (upd e d undef) else .stop ⟨dst,op,ty,p,af,g⟩)
   | some true=>(match dst with
     | none=>.stop ⟨none,op,ty,p,af,none⟩
     | some d=>bif Nat.ble (d+1) N then r7c T L F hs q e d op ⟨some d,op,ty,p,af,none⟩ else .stop ⟨some d,op,ty,p,af,none⟩))
def p8b(P:Program)(N:Nat)(C:World→Prop)(os:Array Oper)(e:Env)(o:Oper)(e':Env):Prop :=
 (∃d v,o.dst=some d∧d<N∧e'=upd e d v∧((g1a os e o=true∧(∀c,o.op≠.defer c)∧∀w,C w→(execOp (ev e) o).run P w=.ok (.value v) w)∨(g1a os e o=false∧v=undef))) ∨
   (o.dst=none∧g1a os e o=false∧e'=e)
def v2c(N:Nat)(os:Array Oper)(e:Env)(o o':Oper):Prop :=
 o'=o∨∃j want s,o.guard=some (j,want)∧o'=⟨o.dst,o.op,o.type,o.pos,o.after,none⟩∧(os[j]?).bind (·.dst)=some s∧Nat.ble (s+1) N=true∧isB want (e s)=true
def S1.ok(P:Program)(N:Nat)(C:World→Prop)(os:Array Oper)(e:Env)(o:Oper)(q:Prop):S1→Prop
 | .next _ q' e'=>q'→q∧p8b P N C os e o e'
 | .br p p' d=>o.dst=some d∧(p→p8b P N C os e o (upd e d (.bool true)))∧(p'→p8b P N C os e o (upd e d (.bool false)))∧(p∨p')
 | .stop o'=>v2c N os e o o'
section
variable {P:Program} {T:Tab} {C:World→Prop} {L:List Ent} {F:List Row} {e:Env} {N:Nat} {os:Array Oper}
theorem v6c{hs:List P6a}{op:Op}(h:a2c T L F hs e op≠.stop):∀c,op≠.defer c:=by
 rintro c rfl;exact h rfl
theorem N0b{g:Option (Nat×Bool)}{b:Bool}(h:Y9b N os e g=some b){dst:Option Nat}{op:Op}{ty:Nat}{p:String}{af:Array Edge}:
 g1a os e ⟨dst,op,ty,p,af,g⟩=b∧(b=true→v2c N os e ⟨dst,op,ty,p,af,g⟩ ⟨dst,op,ty,p,af,none⟩):=by
 unfold Y9b at h
 split at h
 ·cases h;exact⟨rfl,fun _=>.inl rfl⟩
 ·rename_i j a0
  split at h
  ·rename_i o ho;rw[X7a] at ho
   split at h
   ·rename_i s hs;cases hb:Nat.ble (s+1) N with
    | false=>rw[hb] at h;cases h
    | true =>
      rw[hb] at h;simp only[cond_true,Option.some.injEq] at h;have hd:(os[j]?).bind (·.dst)=some s:=by
       have:os[j]?=some o:=by simpa using ho
       rw[this];exact hs
      refine⟨by simp only[g1a,hd,Option.any_some,h],fun ht=>.inr ⟨j,a0,s,rfl,rfl,hd,hb,by rw[h,ht]⟩⟩
   ·cases h
  ·cases h
theorem Q6b(hT:T.Ok P)(hL:Kn C L F){hs:List P6a}{q:Prop}{o:Oper}:(w3c T N L F hs q os e o).ok P N C os e o q:=by
 obtain⟨dst,op,ty,p,af,g⟩:=o;unfold w3c
 split
 rename_i x dst op ty p af g d0;cases d0
 split
 ·exact .inl rfl
 ·rename_i hg;have hg:=(N0b hg (dst:=dst) (op:=op) (ty:=ty) (p:=p) (af:=af)).1
  split
  ·exact fun h=>⟨h,.inr ⟨rfl,hg,rfl⟩⟩
  ·rename_i d;cases hb:Nat.ble (d+1) N with
   | false=>exact .inl rfl
   | true=>exact fun h=>⟨h,.inl ⟨d,undef,rfl,Nat.le_of_ble_eq_true hb,rfl,.inr ⟨hg,rfl⟩⟩⟩
 ·rename_i hg;have hg:=N0b hg (dst:=dst) (op:=op) (ty:=ty) (p:=p) (af:=af)
  split
  ·exact hg.2 rfl
  ·rename_i d;cases hb:Nat.ble (d+1) N with
   | false=>exact hg.2 rfl
   | true =>
     have e0:=Nat.le_of_ble_eq_true hb;have a0:=U3c (P:=P) (C:=C) (e:=e) (op:=op) hT hL (hs:=hs);have b0:=v6c (T:=T) (L:=L) (F:=F) (e:=e) (hs:=hs) (op:=op);show S1.ok _ _ _ _ _ _ _ (r7c T L F hs q e d op _);unfold r7c;have key:∀v,n1b P C e op v→(∀c,op≠.defer c)→p8b P N C os e ⟨some d,op,ty,p,af,g⟩ (upd e d v):=fun v hv hn=>.inl ⟨d,v,rfl,e0,rfl,.inl ⟨hg.1,hn,fun w hw=>hv _ _ _ _ _ w hw⟩⟩
     split
     ·rename_i v hv;rw[hv] at a0 b0;rw[s7b];exact fun h=>⟨h,key v a0 (b0 (by simp))⟩
     ·rename_i p v hv;rw[hv] at a0 b0;rw[s7b];exact fun h=>⟨h.2,key v (a0 h.1) (b0 (by simp))⟩
     ·rename_i p p' hv;rw[hv] at a0 b0;exact⟨rfl,fun h=>key _ (a0.1 h) (b0 (by simp)),fun h=>key _ (a0.2.1 h) (b0 (by simp)),a0.2.2⟩
     ·exact hg.2 rfl
end
section
variable {P:Program} {r:Option Nat} {N:Nat} {D:List Deferred} {e e':Env} {w:World} {os:Array Oper} {rest:List Oper} {K:List Deferred→Env→World→Prop} {Kq:Env→Prop} {C:World→Prop} {o o':Oper}
theorem f3b(hw:C w)(hs:p8b P N C os e o e')(h:WL P r N os rest K D e' w):WL P r N os (o::rest) K D e w:=by
 unfold WL at *;intro a Q f0 g0 he hK;rcases hs with⟨d,v,hd,h0,rfl,hs⟩|⟨hd,hg,rfl⟩
 ·have d0:d<a.tmps.size:=by rw[f0];exact h0
  have a0:=h (a.put (some d) v) Q (by simp[Act.put,f0]) (by simp[Act.put,g0]) (by rw[e1a v d0,he]) hK;rcases hs with⟨hg,hn,e0⟩|⟨hg,rfl⟩
  ·have b0:Region.wanted o (yielded os a.tmps)=true:=by rw[s1a,he];exact hg
   simp only[wpListIn,b0,if_true];refine⟨D0a o w _,?_⟩;have:Oper.semAt (fc r).round a.eval o=execOp (ev e) o:=by rw[Oper.semAt_eq _ _ _ hn,v2a,he]
   rw[this,e0 w hw,Oper.uponIn_value,hd];exact a0
  ·have b0:Region.wanted o (yielded os a.tmps)=false:=by rw[s1a,he];exact hg
   simp only[wpListIn,b0,hd];exact⟨D0a _ _ _,a0⟩
 ·have b0:Region.wanted o (yielded os a.tmps)=false:=by rw[s1a,he];exact hg
  simp only[wpListIn,b0,hd];exact⟨D0a _ _ _,h a Q f0 g0 he hK⟩
theorem h4c(hs:v2c N os e o o')(h:WL P r N os (o'::rest) K D e w):WL P r N os (o::rest) K D e w:=by
 rcases hs with rfl|⟨j,a0,s,hg,rfl,h1,h2,h3⟩
 ·exact h
 ·obtain⟨_,_,_,_,_,_⟩:=o;simp only at hg;subst hg;exact s6b h1 h2 h3 h
theorem q2b{d:Nat}(hd:o.dst=some d)(hs:p8b P N C os e o e')(h:QL P N os C rest Kq e'):QL P N os C (o::rest) Kq e:=by
 rcases hs with⟨d,v,hd,d0,rfl,hs⟩|⟨b0,_⟩
 ·refine o5b hd (by rw[Nat.ble_eq];exact d0) ?_ h;rcases hs with⟨hg,hn,a0⟩|⟨hg,rfl⟩
  ·exact .inl ⟨hg,fun w hw=>.inl (a0 w hw)⟩
  ·exact .inr ⟨hg,rfl⟩
 ·rw[hd] at b0;cases b0
theorem q3c(hs:v2c N os e o o')(h:QL P N os C (o'::rest) Kq e):QL P N os C (o::rest) Kq e:=by
 rcases hs with rfl|⟨j,a0,s,hg,rfl,h1,h2,h3⟩
 ·exact h
 ·obtain⟨_,_,_,_,_,_⟩:=o;simp only at hg;subst hg;exact J8a h1 h3 h
end
inductive Fr
 | seq (y:Code)
 | blk (id:Nat)
 | cut (I:List Deferred→Env→World→Prop)
def W1a(P:Program)(r:Option Nat)(N:Nat)(k:K4b):List Fr→K4b
 | []=>k
 | .seq y::s=>⟨fun D e w=>W P r N y (W1a P r N k s) D e w,(W1a P r N k s).brk,(W1a P r N k s).ret⟩
 | .blk id::s=>⟨(W1a P r N k s).norm,E3b id (W1a P r N k s).norm (W1a P r N k s).brk,(W1a P r N k s).ret⟩
 | .cut I::s=>⟨I,(W1a P r N k s).brk,(W1a P r N k s).ret⟩
inductive Ctl
 | code (c:Code)
 | ops (os:Array Oper) (l:List Oper)
 | fall
inductive Res
 | ops (q:Prop) (os:Array Oper) (l:List Oper) (s:List Fr) (e:Env)
 | code (q:Prop) (c:Code) (s:List Fr) (e:Env)
 | br (q p p':Prop) (os:Array Oper) (l:List Oper) (s:List Fr) (e:Env) (d:Nat)
 | fin (q:Prop) (e:Env)
 | pred (q:Prop) (I:List Deferred→Env→World→Prop) (e:Env)
 | ret (q:Prop) (e:Env)
 | fall (q:Prop) (s:List Fr) (e:Env)
def y0c(id:Nat):List Fr→Option (List Fr)
 | []=>none
 | .blk i::s=>bif Nat.beq id i then some s else y0c id s
 | _::s=>y0c id s
def run(T:Tab)(N:Nat)(L:List Ent)(F:List Row):Nat→List P6a→Prop→Ctl→List Fr→Env→Res
 | 0,_,q,c,s,e=>(match c with | .code c=>.code q c s e | .ops os l=>.ops q os l s e | .fall=>.fall q s e)
 | n+1,hs,q,.fall,s,e=>(match s with
   | []=>.fin q e
   | .seq y::s=>run T N L F n hs q (.code y) s e
   | .blk _::s=>run T N L F n hs q .fall s e
   | .cut I::_=>.pred q I e)
 | n+1,hs,q,.code c,s,e=>(match c with
   | .skip=>run T N L F n hs q .fall s e
   | .label _=>run T N L F n hs q .fall s e
   | .seq a b=>run T N L F n hs q (.code a) (.seq b::s) e
   | .block id c=>run T N L F n hs q (.code c) (.blk id::s) e
   | .cond x a b=>(match ev e x with
     | .bool true=>run T N L F n hs q (.code a) s e
     | .bool false=>run T N L F n hs q (.code b) s e
     | _=>.code q (.cond x a b) s e)
   | .exit id=>(match y0c id s with
     | some s=>run T N L F n hs q .fall s e
     | none=>.code q (.exit id) s e)
   | .ret=>.ret q e
   | .region _ os false=>run T N L F n hs q (.ops os os.toList) s e
   | c=>.code q c s e)
 | n+1,hs,q,.ops os l,s,e=>(match l with
   | []=>run T N L F n hs q .fall s e
   | o::l=>(match w3c T N L F hs q os e o with
     | .next hs q e=>run T N L F n hs q (.ops os l) s e
     | .br p p' d=>.br q p p' os l s e d
     | .stop o=>.ops q os (o::l) s e))
section
variable {P:Program} {T:Tab} {r:Option Nat} {N:Nat} {k:K4b} {D:List Deferred} {w:World} {L:List Ent} {F:List Row}
def Ctl.ok(P:Program)(r:Option Nat)(N:Nat)(k:K4b)(D:List Deferred)(w:World)(s:List Fr)(e:Env):Ctl→Prop
 | .code c=>W P r N c (W1a P r N k s) D e w
 | .ops os l=>WL P r N os l (W1a P r N k s).norm D e w
 | .fall=>(W1a P r N k s).norm D e w
def Res.ok(P:Program)(r:Option Nat)(N:Nat)(k:K4b)(D:List Deferred)(w:World):Res→Prop
 | .ops q os l s e=>q∧WL P r N os l (W1a P r N k s).norm D e w
 | .code q c s e=>q∧W P r N c (W1a P r N k s) D e w
 | .br q p p' os l s e d=>q∧(p→WL P r N os l (W1a P r N k s).norm D (upd e d (.bool true)) w)∧(p'→WL P r N os l (W1a P r N k s).norm D (upd e d (.bool false)) w)
 | .fin q e=>q∧k.norm D e w
 | .pred q I e=>q∧I D e w
 | .ret q e=>q∧k.ret D e w
 | .fall q s e=>q∧(W1a P r N k s).norm D e w
theorem g8a:∀(s:List Fr),(W1a P r N k s).ret=k.ret
 | []=>rfl
 | .seq _::s=>g8a s
 | .blk _::s=>g8a s
 | .cut _::s=>g8a s
theorem L9a{id:Nat}{e:Env}:∀(s s':List Fr),y0c id s=some s'→(W1a P r N k s').norm D e w→(W1a P r N k s).brk id D e w
 | [],_,h,_=>by cases h
 | .blk i::s,s',h,g=>by
   unfold y0c at h;cases hb:Nat.beq id i with
   | true =>
     rw[hb] at h;cases h;rw[Nat.eq_of_beq_eq_true hb];exact C8b g
   | false =>
     rw[hb] at h;exact T9b hb (L9a s s' h g)
 | .seq _::s,s',h,g=>L9a s s' h g
 | .cut _::s,s',h,g=>L9a s s' h g
theorem d2a(hT:T.Ok P)(hL:Kn (·=w) L F):∀(n:Nat) (hs:List P6a) (q:Prop) (c:Ctl) (s:List Fr) (e:Env),(run T N L F n hs q c s e).ok P r N k D w→q∧c.ok P r N k D w s e:=by
 intro n
 induction n with
 | zero =>
   intro hs q c s e h;cases c with
   | code c=>exact h
   | ops os l=>exact h
   | fall=>exact h
 | succ n ih =>
   intro hs q c s e h;cases c with
   | fall =>
     unfold run at h;cases s with
     | nil=>exact h
     | cons f s =>
       cases f with
       | seq y=>exact ih hs q (.code y) s e h
       | blk i=>exact ih hs q .fall s e h
       | cut I=>exact h
   | code c =>
     unfold run at h
     split at h
     ·have:=ih _ _ _ _ _ h;exact⟨this.1,j9c this.2⟩
     ·have:=ih _ _ _ _ _ h;exact⟨this.1,k7c this.2⟩
     ·have:=ih _ _ _ _ _ h;exact⟨this.1,I5c this.2⟩
     ·have:=ih _ _ _ _ _ h;exact⟨this.1,t7c this.2⟩
     ·split at h
      ·rename_i hx;have:=ih _ _ _ _ _ h;exact⟨this.1,i0d hx this.2⟩
      ·rename_i hx;have:=ih _ _ _ _ _ h;exact⟨this.1,N8c hx this.2⟩
      ·exact h
     ·split at h
      ·rename_i s' hs;have:=ih _ _ _ _ _ h;exact⟨this.1,b9c (L9a _ _ hs this.2)⟩
      ·exact h
     ·exact⟨h.1,H0d (by rw[g8a];exact h.2)⟩
     ·rename_i id os;have:=ih _ _ _ _ _ h;refine⟨this.1,?_⟩;have h2:WL P r N os.toList.toArray os.toList (W1a P r N k s).norm D e w:=by
       have h3:WL P r N os os.toList (W1a P r N k s).norm D e w:=this.2;simpa using h3
      have:=G3c (id:=id) (b:=(W1a P r N k s).brk) (t:=(W1a P r N k s).ret) h2;show W P r N (.region id os false) (W1a P r N k s) D e w;simpa using this
     ·exact h
   | ops os l =>
     unfold run at h;cases l with
     | nil =>
       have:=ih _ _ _ _ _ h;exact⟨this.1,L0a this.2⟩
     | cons o l =>
       simp only at h;have h1:=Q6b (N:=N) (os:=os) (e:=e) hT hL (hs:=hs) (q:=q) (o:=o)
       split at h
       ·rename_i b0 q' e' a0;rw[a0] at h1;have:=ih _ _ _ _ _ h;have h2:=h1 this.1;exact⟨h2.1,f3b (C:=(·=w)) rfl h2.2 this.2⟩
       ·rename_i p p' d a0;rw[a0] at h1;obtain⟨_,a1,a2,a3⟩:=h1;obtain⟨hq,b1,b2⟩:=h;refine⟨hq,?_⟩;rcases a3 with hp|hp
        ·exact f3b (C:=(·=w)) rfl (a1 hp) (b1 hp)
        ·exact f3b (C:=(·=w)) rfl (a2 hp) (b2 hp)
       ·rename_i o' a0;rw[a0] at h1;exact⟨h.1,h4c h1 h.2⟩
end
structure KW (M:List Nat) (w0 w:World) (L:List Ent) (F:List Row):Prop where
 st:St M w0 w L
 row:∀f∈F,t1a w f.1 f.2.1 f.2.2
def KQ(M:List Nat)(w0 w:World)(L:List Ent)(F:List Row):Prop:=∀w1,Cl M w0 w L w1→∀f∈F,t1a w1 f.1 f.2.1 f.2.2
section
variable {M:List Nat} {w0 w:World} {L:List Ent} {F:List Row} {b' o':Nat} {cs:List Value}
theorem kn0{C:World→Prop}:Kn C [] []:=⟨fun _ _ _ hb=>by simp at hb,fun _ _ _ hb=>by simp at hb⟩
theorem St.k(S:St M w0 w L):KW M w0 w L []:=⟨S,fun _ hf=>by simp at hf⟩
theorem KW.b(K:KW M w0 w L F)(h:t1a w b' o' cs):KW M w0 w L ((b',o',cs)::F):=⟨K.st,fun f hf=>by
 rcases List.mem_cons.1 hf with rfl|hf
 ·exact h
 ·exact K.row f hf⟩
theorem St.row(S:St [] w0 w L)(h:t1a w0 b' o' cs):t1a w b' o' cs:=fun j v hj=>S.old (h j v hj)
theorem KW.a(K:KW [] w0 w L F)(h:t1a w0 b' o' cs):KW [] w0 w L ((b',o',cs)::F):=K.b (K.st.row h)
theorem KW.kn(K:KW M w0 w L F):Kn (·=w) L F:=⟨fun w' hw b hb g hg=>by subst hw;exact(K.st.own b hb g hg).2,fun w' hw f hf=>by subst hw;exact K.row f hf⟩
theorem St.q(_:St M w0 w L):KQ M w0 w L []:=fun _ _ _ hf=>by simp at hf
theorem KQ.add(K:KQ M w0 w L F)(h:∀w1,Cl M w0 w L w1→t1a w1 b' o' cs):KQ M w0 w L ((b',o',cs)::F):=fun w1 hw f hf=>by
 rcases List.mem_cons.1 hf with rfl|hf
 ·exact h w1 hw
 ·exact K w1 hw f hf
theorem KQ.a(K:KQ [] w0 w L F)(h:t1a w0 b' o' cs):KQ [] w0 w L ((b',o',cs)::F):=K.add fun _ hw=>hw.1.row h
theorem KQ.b(K:KQ M w0 w L F)(h:t1a w b' o' cs):KQ M w0 w L ((b',o',cs)::F):=K.add fun _ hw=>h.keep hw.2 (by simp)
theorem KQ.kn(K:KQ M w0 w L F):Kn (Cl M w0 w L) L F:=⟨fun _ hw b hb g hg=>(hw.1.own b hb g hg).2,fun w1 hw f hf=>K w1 hw f hf⟩
end
class HasTab (P:Program) where
 T:Tab
 ok:T.Ok P
section
variable {P:Program} [H:HasTab P] {r:Option Nat} {N:Nat} {k:K4b} {kn kr:List Deferred→Env→World→Prop} {kb:Nat→List Deferred→Env→World→Prop} {D:List Deferred} {M:List Nat} {w0 w:World} {L:List Ent} {F:List Row} {c c':Code} {s s':List Fr} {e e':Env} {os os':Array Oper} {l l':List Oper} {q p p':Prop} {I:List Deferred→Env→World→Prop} {d:Nat}
theorem wO(K:KW M w0 w L F)(hs:List P6a)(h:run H.T N L F 999 hs True (.code c) s e=.ops q os l s' e')(hq:q)(g:WL P r N os l (W1a P r N k s').norm D e' w):W P r N c (W1a P r N k s) D e w :=
 (d2a (r:=r) (k:=k) H.ok K.kn _ _ True (.code c) s e (by rw[h];exact⟨hq,g⟩)).2
theorem wO0(h:run H.T N [] [] 999 [] True (.code c) s e=.ops q os l s' e')(hq:q)(g:WL P r N os l (W1a P r N k s').norm D e' w):W P r N c (W1a P r N k s) D e w :=
 (d2a (r:=r) (k:=k) H.ok kn0 _ _ True (.code c) s e (by rw[h];exact⟨hq,g⟩)).2
theorem wOn(n:Nat)(K:KW M w0 w L F)(hs:List P6a)(h:run H.T N L F n hs True (.code c) s e=.ops q os l s' e')(hq:q)(g:WL P r N os l (W1a P r N k s').norm D e' w):W P r N c (W1a P r N k s) D e w :=
 (d2a (r:=r) (k:=k) H.ok K.kn _ _ True (.code c) s e (by rw[h];exact⟨hq,g⟩)).2
theorem wC0(h:run H.T N [] [] 999 [] True (.code c) s e=.code q c' s' e')(hq:q)(g:W P r N c' (W1a P r N k s') D e' w):W P r N c (W1a P r N k s) D e w :=
 (d2a (r:=r) (k:=k) H.ok kn0 _ _ True (.code c) s e (by rw[h];exact⟨hq,g⟩)).2
theorem wCn(n:Nat)(K:KW M w0 w L F)(hs:List P6a)(h:run H.T N L F n hs True (.code c) s e=.code q c' s' e')(hq:q)(g:W P r N c' (W1a P r N k s') D e' w):W P r N c (W1a P r N k s) D e w :=
 (d2a (r:=r) (k:=k) H.ok K.kn _ _ True (.code c) s e (by rw[h];exact⟨hq,g⟩)).2
theorem wB(K:KW M w0 w L F)(hs:List P6a)(h:run H.T N L F 999 hs True (.code c) s e=.br q p p' os l s' e' d)(hq:q)(g:p→WL P r N os l (W1a P r N k s').norm D (upd e' d (.bool true)) w)(g':p'→WL P r N os l (W1a P r N k s').norm D (upd e' d (.bool false)) w):W P r N c (W1a P r N k s) D e w :=
 (d2a (r:=r) (k:=k) H.ok K.kn _ _ True (.code c) s e (by rw[h];exact⟨hq,g,g'⟩)).2
theorem wB0(h:run H.T N [] [] 999 [] True (.code c) s e=.br q p p' os l s' e' d)(hq:q)(g:p→WL P r N os l (W1a P r N k s').norm D (upd e' d (.bool true)) w)(g':p'→WL P r N os l (W1a P r N k s').norm D (upd e' d (.bool false)) w):W P r N c (W1a P r N k s) D e w :=
 (d2a (r:=r) (k:=k) H.ok kn0 _ _ True (.code c) s e (by rw[h];exact⟨hq,g,g'⟩)).2
theorem wP0(h:run H.T N [] [] 999 [] True (.code c) s e=.pred q I e')(hq:q)(g:I D e' w):W P r N c (W1a P r N k s) D e w :=
 (d2a (r:=r) (k:=k) H.ok kn0 _ _ True (.code c) s e (by rw[h];exact⟨hq,g⟩)).2
theorem wR0(h:run H.T N [] [] 999 [] True (.code c) s e=.ret q e')(hq:q)(g:kr D e' w):W P r N c (W1a P r N ⟨kn,kb,kr⟩ s) D e w :=
 (d2a (r:=r) (k:=⟨kn,kb,kr⟩) H.ok kn0 _ _ True (.code c) s e (by rw[h];exact⟨hq,g⟩)).2
theorem wF0(h:run H.T N [] [] 999 [] True (.code c) s e=.fin q e')(hq:q)(g:kn D e' w):W P r N c (W1a P r N ⟨kn,kb,kr⟩ s) D e w :=
 (d2a (r:=r) (k:=⟨kn,kb,kr⟩) H.ok kn0 _ _ True (.code c) s e (by rw[h];exact⟨hq,g⟩)).2
theorem lO(K:KW M w0 w L F)(hs:List P6a)(h:run H.T N L F 999 hs True (.ops os' l') s e=.ops q os l s' e')(hq:q)(g:WL P r N os l (W1a P r N k s').norm D e' w):WL P r N os' l' (W1a P r N k s).norm D e w :=
 (d2a (r:=r) (k:=k) H.ok K.kn _ _ True (.ops os' l') s e (by rw[h];exact⟨hq,g⟩)).2
theorem fO(K:KW M w0 w L F)(hs:List P6a)(h:run H.T N L F 999 hs True (.fall) s e=.ops q os l s' e')(hq:q)(g:WL P r N os l (W1a P r N k s').norm D e' w):(W1a P r N k s).norm D e w :=
 (d2a (r:=r) (k:=k) H.ok K.kn _ _ True (.fall) s e (by rw[h];exact⟨hq,g⟩)).2
theorem lO0(h:run H.T N [] [] 999 [] True (.ops os' l') s e=.ops q os l s' e')(hq:q)(g:WL P r N os l (W1a P r N k s').norm D e' w):WL P r N os' l' (W1a P r N k s).norm D e w :=
 (d2a (r:=r) (k:=k) H.ok kn0 _ _ True (.ops os' l') s e (by rw[h];exact⟨hq,g⟩)).2
theorem fO0(h:run H.T N [] [] 999 [] True (.fall) s e=.ops q os l s' e')(hq:q)(g:WL P r N os l (W1a P r N k s').norm D e' w):(W1a P r N k s).norm D e w :=
 (d2a (r:=r) (k:=k) H.ok kn0 _ _ True (.fall) s e (by rw[h];exact⟨hq,g⟩)).2
theorem lOn(n:Nat)(K:KW M w0 w L F)(hs:List P6a)(h:run H.T N L F n hs True (.ops os' l') s e=.ops q os l s' e')(hq:q)(g:WL P r N os l (W1a P r N k s').norm D e' w):WL P r N os' l' (W1a P r N k s).norm D e w :=
 (d2a (r:=r) (k:=k) H.ok K.kn _ _ True (.ops os' l') s e (by rw[h];exact⟨hq,g⟩)).2
theorem lC(K:KW M w0 w L F)(hs:List P6a)(h:run H.T N L F 999 hs True (.ops os' l') s e=.code q c' s' e')(hq:q)(g:W P r N c' (W1a P r N k s') D e' w):WL P r N os' l' (W1a P r N k s).norm D e w :=
 (d2a (r:=r) (k:=k) H.ok K.kn _ _ True (.ops os' l') s e (by rw[h];exact⟨hq,g⟩)).2
theorem fC(K:KW M w0 w L F)(hs:List P6a)(h:run H.T N L F 999 hs True (.fall) s e=.code q c' s' e')(hq:q)(g:W P r N c' (W1a P r N k s') D e' w):(W1a P r N k s).norm D e w :=
 (d2a (r:=r) (k:=k) H.ok K.kn _ _ True (.fall) s e (by rw[h];exact⟨hq,g⟩)).2
theorem lC0(h:run H.T N [] [] 999 [] True (.ops os' l') s e=.code q c' s' e')(hq:q)(g:W P r N c' (W1a P r N k s') D e' w):WL P r N os' l' (W1a P r N k s).norm D e w :=
 (d2a (r:=r) (k:=k) H.ok kn0 _ _ True (.ops os' l') s e (by rw[h];exact⟨hq,g⟩)).2
theorem fC0(h:run H.T N [] [] 999 [] True (.fall) s e=.code q c' s' e')(hq:q)(g:W P r N c' (W1a P r N k s') D e' w):(W1a P r N k s).norm D e w :=
 (d2a (r:=r) (k:=k) H.ok kn0 _ _ True (.fall) s e (by rw[h];exact⟨hq,g⟩)).2
theorem lCn(n:Nat)(K:KW M w0 w L F)(hs:List P6a)(h:run H.T N L F n hs True (.ops os' l') s e=.code q c' s' e')(hq:q)(g:W P r N c' (W1a P r N k s') D e' w):WL P r N os' l' (W1a P r N k s).norm D e w :=
 (d2a (r:=r) (k:=k) H.ok K.kn _ _ True (.ops os' l') s e (by rw[h];exact⟨hq,g⟩)).2
theorem lB(K:KW M w0 w L F)(hs:List P6a)(h:run H.T N L F 999 hs True (.ops os' l') s e=.br q p p' os l s' e' d)(hq:q)(g:p→WL P r N os l (W1a P r N k s').norm D (upd e' d (.bool true)) w)(g':p'→WL P r N os l (W1a P r N k s').norm D (upd e' d (.bool false)) w):WL P r N os' l' (W1a P r N k s).norm D e w :=
 (d2a (r:=r) (k:=k) H.ok K.kn _ _ True (.ops os' l') s e (by rw[h];exact⟨hq,g,g'⟩)).2
theorem lB0(h:run H.T N [] [] 999 [] True (.ops os' l') s e=.br q p p' os l s' e' d)(hq:q)(g:p→WL P r N os l (W1a P r N k s').norm D (upd e' d (.bool true)) w)(g':p'→WL P r N os l (W1a P r N k s').norm D (upd e' d (.bool false)) w):WL P r N os' l' (W1a P r N k s).norm D e w :=
 (d2a (r:=r) (k:=k) H.ok kn0 _ _ True (.ops os' l') s e (by rw[h];exact⟨hq,g,g'⟩)).2
theorem lP(K:KW M w0 w L F)(hs:List P6a)(h:run H.T N L F 999 hs True (.ops os' l') s e=.pred q I e')(hq:q)(g:I D e' w):WL P r N os' l' (W1a P r N k s).norm D e w :=
 (d2a (r:=r) (k:=k) H.ok K.kn _ _ True (.ops os' l') s e (by rw[h];exact⟨hq,g⟩)).2
theorem lP0(h:run H.T N [] [] 999 [] True (.ops os' l') s e=.pred q I e')(hq:q)(g:I D e' w):WL P r N os' l' (W1a P r N k s).norm D e w :=
 (d2a (r:=r) (k:=k) H.ok kn0 _ _ True (.ops os' l') s e (by rw[h];exact⟨hq,g⟩)).2
theorem fP0(h:run H.T N [] [] 999 [] True (.fall) s e=.pred q I e')(hq:q)(g:I D e' w):(W1a P r N k s).norm D e w :=
 (d2a (r:=r) (k:=k) H.ok kn0 _ _ True (.fall) s e (by rw[h];exact⟨hq,g⟩)).2
theorem lR(K:KW M w0 w L F)(hs:List P6a)(h:run H.T N L F 999 hs True (.ops os' l') s e=.ret q e')(hq:q)(g:kr D e' w):WL P r N os' l' (W1a P r N ⟨kn,kb,kr⟩ s).norm D e w :=
 (d2a (r:=r) (k:=⟨kn,kb,kr⟩) H.ok K.kn _ _ True (.ops os' l') s e (by rw[h];exact⟨hq,g⟩)).2
theorem lR0(h:run H.T N [] [] 999 [] True (.ops os' l') s e=.ret q e')(hq:q)(g:kr D e' w):WL P r N os' l' (W1a P r N ⟨kn,kb,kr⟩ s).norm D e w :=
 (d2a (r:=r) (k:=⟨kn,kb,kr⟩) H.ok kn0 _ _ True (.ops os' l') s e (by rw[h];exact⟨hq,g⟩)).2
theorem fR0(h:run H.T N [] [] 999 [] True (.fall) s e=.ret q e')(hq:q)(g:kr D e' w):(W1a P r N ⟨kn,kb,kr⟩ s).norm D e w :=
 (d2a (r:=r) (k:=⟨kn,kb,kr⟩) H.ok kn0 _ _ True (.fall) s e (by rw[h];exact⟨hq,g⟩)).2
theorem lF0(h:run H.T N [] [] 999 [] True (.ops os' l') s e=.fin q e')(hq:q)(g:kn D e' w):WL P r N os' l' (W1a P r N ⟨kn,kb,kr⟩ s).norm D e w :=
 (d2a (r:=r) (k:=⟨kn,kb,kr⟩) H.ok kn0 _ _ True (.ops os' l') s e (by rw[h];exact⟨hq,g⟩)).2
theorem fF0(h:run H.T N [] [] 999 [] True (.fall) s e=.fin q e')(hq:q)(g:kn D e' w):(W1a P r N ⟨kn,kb,kr⟩ s).norm D e w :=
 (d2a (r:=r) (k:=⟨kn,kb,kr⟩) H.ok kn0 _ _ True (.fall) s e (by rw[h];exact⟨hq,g⟩)).2
theorem lT{fn:Func}{R:Value→World→Prop}{t:Nat}(h:run H.T N [] [] 999 [] True (.ops os' l') s e=.ret q e')(hq:q)(hf:fn.results=#[.tmp t])(g:R (e' t) w):WL P r N os' l' (W1a P r N ⟨kn,kb,c4a P fn R⟩ s).norm [] e w:=lR0 h hq (o0a hf rfl g)
theorem lT2{fn:Func}{R:Value→World→Prop}{t u:Nat}(h:run H.T N [] [] 999 [] True (.ops os' l') s e=.ret q e')(hq:q)(hf:fn.results=#[.tmp t,.tmp u])(g:R (.tuple #[e' t,e' u]) w):WL P r N os' l' (W1a P r N ⟨kn,kb,c4a P fn R⟩ s).norm [] e w:=lR0 h hq (d4b hf rfl rfl g)
end
section
variable {P:Program} {r:Option Nat} {N:Nat} {k:K4b} {D:List Deferred} {w:World} {c:Code} {s:List Fr} {e:Env}
theorem a0a{f:FuncId}{fn:Func}{c:Code}{args:Array Value}{R:Value→World→Prop}(hf:P.funcs[f]?=some fn)(hb:fn.body=some c)(hN:fn.ntmps=N)(a0:Nat.ble args.size N=true)
 (h:W P none N c (W1a P none N ⟨c4a P fn R,fun _ _ _ _=>False,c4a P fn R⟩ []) [] (V9a args) w):M0a P f args w R:=z8b hf hb hN a0 h
theorem wJ{kn kr:List Deferred→Env→World→Prop}{kb:Nat→List Deferred→Env→World→Prop}{s:List Fr}(h:W P r N c ⟨(W1a P r N ⟨kn,kb,kr⟩ s).norm,(W1a P r N ⟨kn,kb,kr⟩ s).brk,kr⟩ D e w):W P r N c (W1a P r N ⟨kn,kb,kr⟩ s) D e w:=by
 have h2:(W1a P r N ⟨kn,kb,kr⟩ s).ret=kr:=g8a s;generalize W1a P r N ⟨kn,kb,kr⟩ s=K at h h2;obtain⟨_,_,c'⟩:=K;obtain rfl:c'=kr:=h2;exact h
theorem wI{kk:K4b}(h:W P r N c (W1a P r N kk []) D e w):W P r N c kk D e w:=h
theorem wE(h:W P r N c ⟨(W1a P r N k s).norm,(W1a P r N k s).brk,(W1a P r N k s).ret⟩ D e w):W P r N c (W1a P r N k s) D e w:=h
theorem fN(i:Nat){v:Value}(hi:e i=v)(h:(W1a P r N k s).norm D (upd e i v) w):(W1a P r N k s).norm D e w:=by rwa [I9a e hi] at h
def Sl(e:Env)(l:List (Nat×Value)):Prop:=l.map (fun p=>e p.1)=l.map (·.2)
def t0d(e:Env):List (Nat×Value)→Env
 | []=>e
 | (d,v)::l=>upd (t0d e l) d v
theorem w4b{e:Env}:∀{l:List (Nat×Value)},Sl e l→t0d e l=e
 | [],_=>rfl
 | (d,v)::l,h=>by
   simp only[Sl,List.map_cons,List.cons.injEq] at h;rw[t0d,w4b h.2];exact I9a e h.1
theorem wK{k:K4b}{l:List (Nat×Value)}(h:Sl e l)(g:W P r N c k D (t0d e l) w):W P r N c k D e w:=by rwa [w4b h] at g
theorem wL(J:Nat→List Deferred→Env→World→Prop){μ:Nat}(h0:J μ D e w)
 (g:∀μ D e w,J μ D e w→W P r N c (W1a P r N k (.cut (fun D' e' w'=>∃m,m<μ∧J m D' e' w')::s)) D e w):W P r N (.loop c) (W1a P r N k s) D e w:=wE (T9c J h0 g)
theorem wX{x y:Code}(J:List Deferred→Env→World→Prop)(h:W P r N x (W1a P r N k (.cut J::s)) D e w)(h':∀D e w,J D e w→W P r N y (W1a P r N k s) D e w):W P r N (.seq x y) (W1a P r N k s) D e w:=wE (U9c J h h')
theorem wY{x y z:Code}(J:List Deferred→Env→World→Prop)(h:W P r N x (W1a P r N k (.seq y::.cut J::s)) D e w)(h':∀D e w,J D e w→W P r N z (W1a P r N k s) D e w):W P r N (.seq x (.seq y z)) (W1a P r N k s) D e w:=wE (I5c (a5c h (fun _ _ _ hb=>wE (U9c J hb h')) (fun _ _ _ _ h=>h) (fun _ _ _ h=>h)))
end
inductive X0d
 | ops (q:Prop) (l:List Oper) (e:Env)
 | br (q p p':Prop) (l:List Oper) (e:Env) (d:Nat)
 | nil (q:Prop) (e:Env)
def R1c(T:Tab)(N:Nat)(L:List Ent)(F:List Row)(os:Array Oper):Nat→List P6a→Prop→List Oper→Env→X0d
 | 0,_,q,l,e=>.ops q l e
 | n+1,hs,q,l,e=>(match l with
   | []=>.nil q e
   | o::l=>(match o.dst with
     | none=>.ops q (o::l) e
     | some _=>(match w3c T N L F hs q os e o with
       | .next hs q e=>R1c T N L F os n hs q l e
       | .br p p' d=>.br q p p' l e d
       | .stop o=>.ops q (o::l) e)))
section
variable {P:Program} {N:Nat} {C:World→Prop} {M:List Nat} {w0 w:World} {L:List Ent} {F:List Row} {e e':Env} {os:Array Oper} {l l':List Oper} {q p p':Prop} {d:Nat} {K:Env→Prop}
def X0d.ok(P:Program)(N:Nat)(C:World→Prop)(os:Array Oper)(K:Env→Prop):X0d→Prop
 | .ops q l e=>q∧QL P N os C l K e
 | .br q p p' l e d=>q∧(p→QL P N os C l K (upd e d (.bool true)))∧(p'→QL P N os C l K (upd e d (.bool false)))
 | .nil q e=>q∧K e
theorem k7a{T:Tab}(hT:T.Ok P)(hL:Kn C L F):∀(n:Nat) (hs:List P6a) (q:Prop) (l:List Oper) (e:Env),(R1c T N L F os n hs q l e).ok P N C os K→q∧QL P N os C l K e:=by
 intro n
 induction n with
 | zero=>intro hs q l e h;exact h
 | succ n ih =>
   intro hs q l e h;unfold R1c at h;cases l with
   | nil=>exact⟨h.1,d0a h.2⟩
   | cons o l =>
     simp only at h
     split at h
     ·exact h
     ·rename_i d hd;have h1:=Q6b (N:=N) (os:=os) (e:=e) hT hL (hs:=hs) (q:=q) (o:=o)
      split at h
      ·rename_i b0 q' e' a0;rw[a0] at h1;have:=ih _ _ _ _ h;have h2:=h1 this.1;exact⟨h2.1,q2b hd h2.2 this.2⟩
      ·rename_i p p' d a0;rw[a0] at h1;obtain⟨_,a1,a2,a3⟩:=h1;obtain⟨hq,b1,b2⟩:=h;refine⟨hq,?_⟩;rcases a3 with hp|hp
       ·exact q2b hd (a1 hp) (b1 hp)
       ·exact q2b hd (a2 hp) (b2 hp)
      ·rename_i o' a0;rw[a0] at h1;exact⟨h.1,q3c h1 h.2⟩
variable [H:HasTab P]
theorem qO(K':KQ M w0 w L F)(hs:List P6a)(h:R1c H.T N L F os 999 hs True l' e=.ops q l e')(hq:q)(g:QL P N os (Cl M w0 w L) l K e'):QL P N os (Cl M w0 w L) l' K e :=
 (k7a H.ok K'.kn _ _ True l' e (by rw[h];exact⟨hq,g⟩)).2
theorem qO0(h:R1c H.T N [] [] os 999 [] True l' e=.ops q l e')(hq:q)(g:QL P N os C l K e'):QL P N os C l' K e :=
 (k7a H.ok kn0 _ _ True l' e (by rw[h];exact⟨hq,g⟩)).2
theorem qOn(n:Nat)(K':KQ M w0 w L F)(hs:List P6a)(h:R1c H.T N L F os n hs True l' e=.ops q l e')(hq:q)(g:QL P N os (Cl M w0 w L) l K e'):QL P N os (Cl M w0 w L) l' K e :=
 (k7a H.ok K'.kn _ _ True l' e (by rw[h];exact⟨hq,g⟩)).2
theorem qB(K':KQ M w0 w L F)(hs:List P6a)(h:R1c H.T N L F os 999 hs True l' e=.br q p p' l e' d)(hq:q)(g:p→QL P N os (Cl M w0 w L) l K (upd e' d (.bool true)))(g':p'→QL P N os (Cl M w0 w L) l K (upd e' d (.bool false))):QL P N os (Cl M w0 w L) l' K e :=
 (k7a H.ok K'.kn _ _ True l' e (by rw[h];exact⟨hq,g,g'⟩)).2
theorem qB0(h:R1c H.T N [] [] os 999 [] True l' e=.br q p p' l e' d)(hq:q)(g:p→QL P N os C l K (upd e' d (.bool true)))(g':p'→QL P N os C l K (upd e' d (.bool false))):QL P N os C l' K e :=
 (k7a H.ok kn0 _ _ True l' e (by rw[h];exact⟨hq,g,g'⟩)).2
theorem qN(K':KQ M w0 w L F)(hs:List P6a)(h:R1c H.T N L F os 999 hs True l' e=.nil q e')(hq:q)(g:K e'):QL P N os (Cl M w0 w L) l' K e :=
 (k7a H.ok K'.kn _ _ True l' e (by rw[h];exact⟨hq,g⟩)).2
theorem qN0(h:R1c H.T N [] [] os 999 [] True l' e=.nil q e')(hq:q)(g:K e'):QL P N os C l' K e :=
 (k7a H.ok kn0 _ _ True l' e (by rw[h];exact⟨hq,g⟩)).2
theorem qD{l0:List Oper}{T':List Nat}{r:Option Nat}{k':List Deferred→Env→World→Prop}{D:List Deferred}(h:R1c H.T N [] [] l0.toArray 999 [] True l' e=.nil q e')(hq:q)(g:∀w1,Cl M w0 w L w1→WL P r N l0.toArray (T'.filterMap (l0[·]?)) k' D (R3a e' []) w1):QL P N l0.toArray (Cl M w0 w L) l' (BK P r N l0 (Cl M w0 w L) [] T' k' D) e:=qN0 h hq (V3a (R1a g))
end
attribute [irreducible] W1a
theorem b5a:F7a Tryz.prog 27 4:=u2a (by rw[Tryz.underlying27];simp) (by kernel_rfl)
theorem Z8b:SlZ Tryz.prog 30 38 3 (.agg #[.slice none 0 0,.slice none 0 0,.slice none 0 0]) 72:=⟨Tryz.underlying30,by kernel_rfl,rfl,by decide⟩
theorem a1a:F7a Tryz.prog 38 3:=u2a (by rw[Tryz.underlying38];simp) (by kernel_rfl)
theorem Q3a:∀w,(zeroValue 38).run Tryz.prog w=.ok (.agg #[.slice none 0 0,.slice none 0 0,.slice none 0 0]) w:=fun _=>by kernel_rfl
theorem e2a:Sz Tryz.prog 38 3:=H3a (by kernel_rfl)
theorem O0a:SlZ Tryz.prog 35 3 1 (.int .i64 0) 8:=⟨Tryz.underlying35,by kernel_rfl,rfl,by decide⟩
theorem u9a:Sz Tryz.prog 3 1:=H3a (by kernel_rfl)
theorem W2a:SlZ Tryz.prog 41 44 3 (.agg #[.int .i64 0,.int .i64 0,.int .i64 0]) 24:=⟨Tryz.underlying41,by kernel_rfl,rfl,by decide⟩
theorem e6a:F7a Tryz.prog 44 3:=u2a (by rw[Tryz.underlying44];simp) (by kernel_rfl)
theorem H2c:∀w,(zeroValue 44).run Tryz.prog w=.ok (.agg #[.int .i64 0,.int .i64 0,.int .i64 0]) w:=fun _=>by kernel_rfl
theorem i4b:Sz Tryz.prog 44 3:=H3a (by kernel_rfl)
theorem K0a:One Tryz.prog 3:=H2a Tryz.underlying3 (by intro _ h;cases h) (by intro _ _ h;cases h)
theorem X6c:FA Tryz.prog 44 1 1:=A1a (n:=0) Tryz.underlying44 rfl rfl (by kernel_rfl)
theorem U9a:FA Tryz.prog 44 0 0:=A1a (n:=0) Tryz.underlying44 rfl rfl (by kernel_rfl)
theorem i7b:One Tryz.prog 41:=H2a Tryz.underlying41 (by intro _ h;cases h) (by intro _ _ h;cases h)
theorem m1d:Has Tryz.prog 8:=i0a Tryz.func8 (by kernel_rfl) rfl
theorem n8c:∀w,(zeroValue 27).run Tryz.prog w=.ok (.agg #[.slice none 0 0,.slice none 0 0,.slice none 0 0,.slice none 0 0]) w:=fun _=>by kernel_rfl
theorem b7c:Sz Tryz.prog 27 4:=H3a (by kernel_rfl)
theorem P4b:Bld Tryz.prog 70 [.int .i64 0,.int .i64 0,.int .i64 0,.int .i64 0,.int .i64 0,.slice none 0 0] [(0,1),(1,1),(2,4)]:=Y3a Tryz.underlying70 (fun _=>by kernel_rfl) (fun _=>by kernel_rfl)
theorem T0d:Has Tryz.prog 9:=i0a Tryz.func9 (by kernel_rfl) rfl
theorem E4b:Has Tryz.prog 10:=i0a Tryz.func10 (by kernel_rfl) rfl
theorem n1d:∀w,(zeroValue 30).run Tryz.prog w=.ok (.slice none 0 0) w:=fun _=>by kernel_rfl
theorem X4c:Bld Tryz.prog 80 [.slice none 0 0,.slice none 0 0,.slice none 0 0,.slice none 0 0,.int .i64 0,.slice none 0 0] [(0,4),(4,1),(5,1)]:=Y3a Tryz.underlying80 (fun _=>by kernel_rfl) (fun _=>by kernel_rfl)
theorem U1c:One Tryz.prog 30:=H2a Tryz.underlying30 (by intro _ h;cases h) (by intro _ _ h;cases h)
theorem u0c:Has Tryz.prog 11:=i0a Tryz.func11 (by kernel_rfl) rfl
theorem M2b:FA Tryz.prog 38 0 0:=A1a (n:=0) Tryz.underlying38 rfl rfl (by kernel_rfl)
theorem O2a:One Tryz.prog 35:=H2a Tryz.underlying35 (by intro _ h;cases h) (by intro _ _ h;cases h)
theorem j3b:FA Tryz.prog 38 1 1:=A1a (n:=0) Tryz.underlying38 rfl rfl (by kernel_rfl)
theorem y3a:FA Tryz.prog 38 2 2:=A1a (n:=0) Tryz.underlying38 rfl rfl (by kernel_rfl)
theorem K3a:One Tryz.prog 36:=H2a Tryz.underlying36 (by intro _ h;cases h) (by intro _ _ h;cases h)
theorem V2a:SlZ Tryz.prog 36 86 1 (.slice none 0 0) 24:=⟨Tryz.underlying36,by kernel_rfl,rfl,by decide⟩
theorem e9a:One Tryz.prog 86:=H2a Tryz.underlying86 (by intro _ h;cases h) (by intro _ _ h;cases h)
theorem h3a:SlZ Tryz.prog 86 88 2 (.agg #[.slice none 0 0,.slice none 0 0]) 48:=⟨Tryz.underlying86,by kernel_rfl,rfl,by decide⟩
theorem j2b:F7a Tryz.prog 88 2:=u2a (by rw[Tryz.underlying88];simp) (by kernel_rfl)
theorem W7a:∀w,(zeroValue 88).run Tryz.prog w=.ok (.agg #[.slice none 0 0,.slice none 0 0]) w:=fun _=>by kernel_rfl
theorem y9a:Sz Tryz.prog 88 2:=H3a (by kernel_rfl)
theorem n3b:FA Tryz.prog 88 0 0:=A1a (n:=0) Tryz.underlying88 rfl rfl (by kernel_rfl)
theorem e6b:FA Tryz.prog 88 1 1:=A1a (n:=0) Tryz.underlying88 rfl rfl (by kernel_rfl)
theorem Z4c:Has Tryz.prog 12:=i0a Tryz.func12 (by kernel_rfl) rfl
theorem A5b:FA Tryz.prog 27 3 3:=A1a (n:=0) Tryz.underlying27 rfl rfl (by kernel_rfl)
theorem C6b:One Tryz.prog 25:=H2a Tryz.underlying25 (by intro _ h;cases h) (by intro _ _ h;cases h)
theorem j7b:SlZ Tryz.prog 25 93 7 (.agg #[.string ByteArray.empty,.int .i64 0,.slice none 0 0,.slice none 0 0,.slice none 0 0,.slice none 0 0,.bool false]) 128:=⟨Tryz.underlying25,by kernel_rfl,rfl,by decide⟩
theorem C6c:FA Tryz.prog 93 4 4:=A1a (n:=0) Tryz.underlying93 rfl rfl (by kernel_rfl)
theorem q0d:One Tryz.prog 90:=H2a Tryz.underlying90 (by intro _ h;cases h) (by intro _ _ h;cases h)
theorem S4c:SlZ Tryz.prog 90 97 11 (.agg #[.int .i64 0,.int .i64 0,.int .i64 0,.int .i64 0,.int .i64 0,.int .i64 0,.slice none 0 0,.slice none 0 0,.bool false,.int .i64 0,.int .i64 0]) 120:=⟨Tryz.underlying90,by kernel_rfl,rfl,by decide⟩
theorem u6c:F7a Tryz.prog 97 11:=u2a (by rw[Tryz.underlying97];simp) (by kernel_rfl)
theorem f4b:Bld Tryz.prog 44 [.int .i64 0,.int .i64 0,.int .i64 0] [(0,1),(1,1),(2,1)]:=Y3a Tryz.underlying44 (fun _=>by kernel_rfl) (fun _=>by kernel_rfl)
theorem X9c:Has Tryz.prog 13:=i0a Tryz.func13 (by kernel_rfl) rfl
theorem u4a:Bld Tryz.prog 38 [.slice none 0 0,.slice none 0 0,.slice none 0 0] [(0,1),(1,1),(2,1)]:=Y3a Tryz.underlying38 (fun _=>by kernel_rfl) (fun _=>by kernel_rfl)
theorem m8c:FA Tryz.prog 44 2 2:=A1a (n:=0) Tryz.underlying44 rfl rfl (by kernel_rfl)
theorem S5b:∀w,(zeroValue 97).run Tryz.prog w=.ok (.agg #[.int .i64 0,.int .i64 0,.int .i64 0,.int .i64 0,.int .i64 0,.int .i64 0,.slice none 0 0,.slice none 0 0,.bool false,.int .i64 0,.int .i64 0]) w:=fun _=>by kernel_rfl
theorem x6b:Sz Tryz.prog 97 11:=H3a (by kernel_rfl)
theorem Q7c:FA Tryz.prog 97 2 2:=A1a (n:=0) Tryz.underlying97 rfl rfl (by kernel_rfl)
theorem f7c:FA Tryz.prog 97 0 0:=A1a (n:=0) Tryz.underlying97 rfl rfl (by kernel_rfl)
theorem o6c:FA Tryz.prog 97 6 9:=A1a (n:=0) Tryz.underlying97 rfl rfl (by kernel_rfl)
theorem a6b:FA Tryz.prog 97 4 7:=A1a (n:=0) Tryz.underlying97 rfl rfl (by kernel_rfl)
theorem W3b:One Tryz.prog 95:=H2a Tryz.underlying95 (by intro _ h;cases h) (by intro _ _ h;cases h)
theorem W0b:Sz Tryz.prog 35 1:=H3a (by kernel_rfl)
theorem n9a:SlZ Tryz.prog 95 105 5 (.agg #[.int .i64 0,.int .i64 0,.int .i64 0,.int .i64 0,.slice none 0 0]) 56:=⟨Tryz.underlying95,by kernel_rfl,rfl,by decide⟩
theorem g2c:F7a Tryz.prog 105 5:=u2a (by rw[Tryz.underlying105];simp) (by kernel_rfl)
theorem c8a:∀w,(zeroValue 105).run Tryz.prog w=.ok (.agg #[.int .i64 0,.int .i64 0,.int .i64 0,.int .i64 0,.slice none 0 0]) w:=fun _=>by kernel_rfl
theorem d8a:Sz Tryz.prog 105 5:=H3a (by kernel_rfl)
theorem n7b:FA Tryz.prog 105 1 1:=A1a (n:=3) Tryz.underlying105 rfl rfl (by kernel_rfl)
theorem E1a:F7a Tryz.prog 68 4:=u2a (by rw[Tryz.underlying68];simp) (by kernel_rfl)
theorem y1c:FA Tryz.prog 27 0 0:=A1a (n:=0) Tryz.underlying27 rfl rfl (by kernel_rfl)
theorem t9a:One Tryz.prog 22:=H2a Tryz.underlying22 (by intro _ h;cases h) (by intro _ _ h;cases h)
theorem N6b:FA Tryz.prog 105 0 0:=A1a (n:=0) Tryz.underlying105 rfl rfl (by kernel_rfl)
theorem U5a:SlZ Tryz.prog 22 108 6 (.agg #[.string ByteArray.empty,.int .i64 0,.int .i64 0,.int .i64 0,.bool false,.int .i64 0]) 56:=⟨Tryz.underlying22,by kernel_rfl,rfl,by decide⟩
theorem I3c:FA Tryz.prog 108 3 3:=A1a (n:=0) Tryz.underlying108 rfl rfl (by kernel_rfl)
theorem R7b:Sz Tryz.prog 86 1:=H3a (by kernel_rfl)
theorem j5c:Has Tryz.prog 14:=i0a Tryz.func14 (by kernel_rfl) rfl
theorem B8c:Has Tryz.prog 15:=i0a Tryz.func15 (by kernel_rfl) rfl
theorem d4c:FA Tryz.prog 108 2 2:=A1a (n:=0) Tryz.underlying108 rfl rfl (by kernel_rfl)
theorem o8c:FA Tryz.prog 93 6 6:=A1a (n:=0) Tryz.underlying93 rfl rfl (by kernel_rfl)
theorem m2a:One Tryz.prog 4:=H2a Tryz.underlying4 (by intro _ h;cases h) (by intro _ _ h;cases h)
theorem b6c:FA Tryz.prog 27 1 1:=A1a (n:=0) Tryz.underlying27 rfl rfl (by kernel_rfl)
theorem h5c:One Tryz.prog 23:=H2a Tryz.underlying23 (by intro _ h;cases h) (by intro _ _ h;cases h)
theorem z4c:SlZ Tryz.prog 23 111 11 (.agg #[.string ByteArray.empty,.string ByteArray.empty,.int .i64 0,.int .i64 0,.int .i64 0,.slice none 0 0,.int .i64 0,.int .i64 0,.int .i64 0,.slice none 0 0,.slice none 0 0]) 152:=⟨Tryz.underlying23,by kernel_rfl,rfl,by decide⟩
theorem L5c:FA Tryz.prog 27 2 2:=A1a (n:=0) Tryz.underlying27 rfl rfl (by kernel_rfl)
theorem R9c:One Tryz.prog 24:=H2a Tryz.underlying24 (by intro _ h;cases h) (by intro _ _ h;cases h)
theorem w8c:SlZ Tryz.prog 24 113 6 (.agg #[.int .i64 0,.int .i64 0,.int .i64 0,.int .i64 0,.slice none 0 0,.int .i64 0]) 64:=⟨Tryz.underlying24,by kernel_rfl,rfl,by decide⟩
theorem F2c:F7a Tryz.prog 111 11:=u2a (by rw[Tryz.underlying111];simp) (by kernel_rfl)
theorem O0c:∀w,(zeroValue 111).run Tryz.prog w=.ok (.agg #[.string ByteArray.empty,.string ByteArray.empty,.int .i64 0,.int .i64 0,.int .i64 0,.slice none 0 0,.int .i64 0,.int .i64 0,.int .i64 0,.slice none 0 0,.slice none 0 0]) w:=fun _=>by kernel_rfl
theorem B1c:Sz Tryz.prog 111 11:=H3a (by kernel_rfl)
theorem Q2c:FA Tryz.prog 111 2 2:=A1a (n:=3) Tryz.underlying111 rfl rfl (by kernel_rfl)
theorem s3c:FA Tryz.prog 111 3 6:=A1a (n:=3) Tryz.underlying111 rfl rfl (by kernel_rfl)
theorem j1a:SlZ Tryz.prog 66 68 4 (.agg #[.int .i64 0,.int .i64 0,.int .i64 0,.slice none 0 0]) 48:=⟨Tryz.underlying66,by kernel_rfl,rfl,by decide⟩
theorem n3c:F7a Tryz.prog 113 6:=u2a (by rw[Tryz.underlying113];simp) (by kernel_rfl)
theorem N1c:∀w,(zeroValue 113).run Tryz.prog w=.ok (.agg #[.int .i64 0,.int .i64 0,.int .i64 0,.int .i64 0,.slice none 0 0,.int .i64 0]) w:=fun _=>by kernel_rfl
theorem s0c:Sz Tryz.prog 113 6:=H3a (by kernel_rfl)
theorem A2c:FA Tryz.prog 113 1 1:=A1a (n:=3) Tryz.underlying113 rfl rfl (by kernel_rfl)
theorem v9b:F7a Tryz.prog 93 7:=u2a (by rw[Tryz.underlying93];simp) (by kernel_rfl)
theorem F4b:∀w,(zeroValue 93).run Tryz.prog w=.ok (.agg #[.string ByteArray.empty,.int .i64 0,.slice none 0 0,.slice none 0 0,.slice none 0 0,.slice none 0 0,.bool false]) w:=fun _=>by kernel_rfl
theorem O3b:Sz Tryz.prog 93 7:=H3a (by kernel_rfl)
theorem F6c:FA Tryz.prog 93 2 2:=A1a (n:=0) Tryz.underlying93 rfl rfl (by kernel_rfl)
theorem p2a:One Tryz.prog 66:=H2a Tryz.underlying66 (by intro _ h;cases h) (by intro _ _ h;cases h)
theorem S7c:FA Tryz.prog 93 5 5:=A1a (n:=0) Tryz.underlying93 rfl rfl (by kernel_rfl)
theorem B9c:One Tryz.prog 91:=H2a Tryz.underlying91 (by intro _ h;cases h) (by intro _ _ h;cases h)
theorem M8c:SlZ Tryz.prog 91 115 6 (.agg #[.int .i64 0,.slice none 0 0,.int .i64 0,.int .i64 0,.int .i64 0,.slice none 0 0]) 80:=⟨Tryz.underlying91,by kernel_rfl,rfl,by decide⟩
theorem o5c:FA Tryz.prog 97 3 3:=A1a (n:=3) Tryz.underlying97 rfl rfl (by kernel_rfl)
theorem t2c:F7a Tryz.prog 115 6:=u2a (by rw[Tryz.underlying115];simp) (by kernel_rfl)
theorem o9b:∀w,(zeroValue 115).run Tryz.prog w=.ok (.agg #[.int .i64 0,.slice none 0 0,.int .i64 0,.int .i64 0,.int .i64 0,.slice none 0 0]) w:=fun _=>by kernel_rfl
theorem M9b:Sz Tryz.prog 115 6:=H3a (by kernel_rfl)
theorem p3c:FA Tryz.prog 115 2 2:=A1a (n:=3) Tryz.underlying115 rfl rfl (by kernel_rfl)
theorem j8a:∀w,(zeroValue 68).run Tryz.prog w=.ok (.agg #[.int .i64 0,.int .i64 0,.int .i64 0,.slice none 0 0]) w:=fun _=>by kernel_rfl
theorem t6a:Sz Tryz.prog 68 4:=H3a (by kernel_rfl)
theorem t1d:∀w,(zeroValue 41).run Tryz.prog w=.ok (.slice none 0 0) w:=fun _=>by kernel_rfl
theorem B1d:∀w,(zeroValue 4).run Tryz.prog w=.ok (.bool false) w:=fun _=>by kernel_rfl
theorem c0d:Sz Tryz.prog 41 1:=H3a (by kernel_rfl)
theorem e4c:Sz Tryz.prog 4 1:=H3a (by kernel_rfl)
theorem r9c:Has Tryz.prog 27:=i0a Tryz.func27 (by kernel_rfl) rfl
theorem g2b:Bld Tryz.prog 108 [.string ByteArray.empty,.int .i64 0,.int .i64 0,.int .i64 0,.bool false,.int .i64 0] [(0,1),(1,1),(2,1),(3,1),(4,1),(5,1)]:=Y3a Tryz.underlying108 (fun _=>by kernel_rfl) (fun _=>by kernel_rfl)
theorem H6c:Bld Tryz.prog 111 [.string ByteArray.empty,.string ByteArray.empty,.int .i64 0,.int .i64 0,.int .i64 0,.slice none 0 0,.int .i64 0,.int .i64 0,.int .i64 0,.slice none 0 0,.slice none 0 0] [(0,1),(1,1),(2,4),(6,4),(10,1)]:=Y3a Tryz.underlying111 (fun _=>by kernel_rfl) (fun _=>by kernel_rfl)
theorem u9c:Bld Tryz.prog 27 [.slice none 0 0,.slice none 0 0,.slice none 0 0,.slice none 0 0] [(0,1),(1,1),(2,1),(3,1)]:=Y3a Tryz.underlying27 (fun _=>by kernel_rfl) (fun _=>by kernel_rfl)
theorem a7b:Has Tryz.prog 28:=i0a Tryz.func28 (by kernel_rfl) rfl
theorem k5b:F7a Tryz.prog 70 6:=u2a (by rw[Tryz.underlying70];simp) (by kernel_rfl)
theorem z5b:FA Tryz.prog 80 2 5:=A1a (n:=0) Tryz.underlying80 rfl rfl (by kernel_rfl)
theorem k8a:One Tryz.prog 78:=H2a Tryz.underlying78 (by intro _ h;cases h) (by intro _ _ h;cases h)
theorem j9b:SlZ Tryz.prog 78 133 7 (.agg #[.slice none 0 0,.slice none 0 0,.slice none 0 0,.int .i64 0,.int .i64 0,.int .i64 0,.int .i64 0]) 104:=⟨Tryz.underlying78,by kernel_rfl,rfl,by decide⟩
theorem F3c:FA Tryz.prog 133 1 3:=A1a (n:=0) Tryz.underlying133 rfl rfl (by kernel_rfl)
theorem N3c:FA Tryz.prog 133 2 4:=A1a (n:=2) Tryz.underlying133 rfl rfl (by kernel_rfl)
theorem M1c:Has Tryz.prog 29:=i0a Tryz.func29 (by kernel_rfl) rfl
theorem f1d:∀w,(zeroValue 70).run Tryz.prog w=.ok (.agg #[.int .i64 0,.int .i64 0,.int .i64 0,.int .i64 0,.int .i64 0,.slice none 0 0]) w:=fun _=>by kernel_rfl
theorem J0d:Sz Tryz.prog 70 6:=H3a (by kernel_rfl)
theorem V1b:Has Tryz.prog 30:=i0a Tryz.func30 (by kernel_rfl) rfl
theorem s4b:Bld Tryz.prog 68 [.int .i64 0,.int .i64 0,.int .i64 0,.slice none 0 0] [(0,1),(1,1),(2,1),(3,1)]:=Y3a Tryz.underlying68 (fun _=>by kernel_rfl) (fun _=>by kernel_rfl)
theorem B4c:Has Tryz.prog 31:=i0a Tryz.func31 (by kernel_rfl) rfl
theorem n0d:Has Tryz.prog 32:=i0a Tryz.func32 (by kernel_rfl) rfl
theorem X0c:Has Tryz.prog 33:=i0a Tryz.func33 (by kernel_rfl) rfl
theorem Q1c:Has Tryz.prog 34:=i0a Tryz.func34 (by kernel_rfl) rfl
theorem L1c:One Tryz.prog 31:=H2a Tryz.underlying31 (by intro _ h;cases h) (by intro _ _ h;cases h)
theorem A4c:Has Tryz.prog 35:=i0a Tryz.func35 (by kernel_rfl) rfl
theorem p0d:∀w,(zeroValue 3).run Tryz.prog w=.ok (.int .i64 0) w:=fun _=>by kernel_rfl
theorem w9c:∀w,(zeroValue 31).run Tryz.prog w=.ok (.int .i64 0) w:=fun _=>by kernel_rfl
theorem O4a:One Tryz.prog 77:=H2a Tryz.underlying77 (by intro _ h;cases h) (by intro _ _ h;cases h)
theorem v8a:Sz Tryz.prog 31 1:=H3a (by kernel_rfl)
theorem m5c:One Tryz.prog 83:=H2a Tryz.underlying83 (by intro _ h;cases h) (by intro _ _ h;cases h)
theorem a4c:FA Tryz.prog 133 0 0:=A1a (n:=2) Tryz.underlying133 rfl rfl (by kernel_rfl)
theorem x8c:Has Tryz.prog 36:=i0a Tryz.func36 (by kernel_rfl) rfl
theorem i1d:Sz Tryz.prog 30 1:=H3a (by kernel_rfl)
theorem q1b:Has Tryz.prog 37:=i0a Tryz.func37 (by kernel_rfl) rfl
theorem p5a:SlZ Tryz.prog 84 5 1 (.int .u8 0) 1:=⟨Tryz.underlying84,by kernel_rfl,rfl,by decide⟩
theorem e5c:Has Tryz.prog 38:=i0a Tryz.func38 (by kernel_rfl) rfl
theorem h9c:Has Tryz.prog 39:=i0a Tryz.func39 (by kernel_rfl) rfl
theorem F7c:FA Tryz.prog 97 1 1:=A1a (n:=0) Tryz.underlying97 rfl rfl (by kernel_rfl)
theorem J6c:FA Tryz.prog 97 5 8:=A1a (n:=0) Tryz.underlying97 rfl rfl (by kernel_rfl)
theorem L9c:Has Tryz.prog 40:=i0a Tryz.func40 (by kernel_rfl) rfl
theorem a9c:Has Tryz.prog 41:=i0a Tryz.func41 (by kernel_rfl) rfl
theorem F8c:Has Tryz.prog 42:=i0a Tryz.func42 (by kernel_rfl) rfl
theorem Y4c:Has Tryz.prog 43:=i0a Tryz.func43 (by kernel_rfl) rfl
theorem V4c:Bld Tryz.prog 88 [.slice none 0 0,.slice none 0 0] [(0,1),(1,1)]:=Y3a Tryz.underlying88 (fun _=>by kernel_rfl) (fun _=>by kernel_rfl)
theorem H4c:Has Tryz.prog 44:=i0a Tryz.func44 (by kernel_rfl) rfl
theorem Q4c:Has Tryz.prog 45:=i0a Tryz.func45 (by kernel_rfl) rfl
theorem U8b:Has Tryz.prog 46:=i0a Tryz.func46 (by kernel_rfl) rfl
theorem e7b:Has Tryz.prog 47:=i0a Tryz.func47 (by kernel_rfl) rfl
theorem E8c:Has Tryz.prog 48:=i0a Tryz.func48 (by kernel_rfl) rfl
theorem K8c:Bld Tryz.prog 93 [.string ByteArray.empty,.int .i64 0,.slice none 0 0,.slice none 0 0,.slice none 0 0,.slice none 0 0,.bool false] [(0,1),(1,1),(2,1),(3,1),(4,1),(5,1),(6,1)]:=Y3a Tryz.underlying93 (fun _=>by kernel_rfl) (fun _=>by kernel_rfl)
theorem y4c:Bld Tryz.prog 97 [.int .i64 0,.int .i64 0,.int .i64 0,.int .i64 0,.int .i64 0,.int .i64 0,.slice none 0 0,.slice none 0 0,.bool false,.int .i64 0,.int .i64 0] [(0,1),(1,1),(2,1),(3,4),(7,1),(8,1),(9,1),(10,1)]:=Y3a Tryz.underlying97 (fun _=>by kernel_rfl) (fun _=>by kernel_rfl)
theorem M9c:Has Tryz.prog 50:=i0a Tryz.func50 (by kernel_rfl) rfl
theorem C3c:FA Tryz.prog 113 0 0:=A1a (n:=0) Tryz.underlying113 rfl rfl (by kernel_rfl)
theorem i2c:FA Tryz.prog 113 2 5:=A1a (n:=0) Tryz.underlying113 rfl rfl (by kernel_rfl)
theorem x6c:FA Tryz.prog 97 7 10:=A1a (n:=0) Tryz.underlying97 rfl rfl (by kernel_rfl)
theorem K4c:Has Tryz.prog 59:=i0a Tryz.func59 (by kernel_rfl) rfl
theorem I1c:Bld Tryz.prog 105 [.int .i64 0,.int .i64 0,.int .i64 0,.int .i64 0,.slice none 0 0] [(0,1),(1,4)]:=Y3a Tryz.underlying105 (fun _=>by kernel_rfl) (fun _=>by kernel_rfl)
theorem V6b:Has Tryz.prog 60:=i0a Tryz.func60 (by kernel_rfl) rfl
theorem f5c:Has Tryz.prog 61:=i0a Tryz.func61 (by kernel_rfl) rfl
theorem Z6c:FA Tryz.prog 70 0 0:=A1a (n:=0) Tryz.underlying70 rfl rfl (by kernel_rfl)
theorem D7c:FA Tryz.prog 70 1 1:=A1a (n:=0) Tryz.underlying70 rfl rfl (by kernel_rfl)
theorem r5c:FA Tryz.prog 93 1 1:=A1a (n:=0) Tryz.underlying93 rfl rfl (by kernel_rfl)
theorem h8c:FA Tryz.prog 70 2 2:=A1a (n:=3) Tryz.underlying70 rfl rfl (by kernel_rfl)
theorem G5c:FA Tryz.prog 68 1 1:=A1a (n:=0) Tryz.underlying68 rfl rfl (by kernel_rfl)
theorem o0d:Has Tryz.prog 62:=i0a Tryz.func62 (by kernel_rfl) rfl
theorem C4c:Has Tryz.prog 63:=i0a Tryz.func63 (by kernel_rfl) rfl
theorem D9c:Has Tryz.prog 64:=i0a Tryz.func64 (by kernel_rfl) rfl
theorem G4c:Has Tryz.prog 65:=i0a Tryz.func65 (by kernel_rfl) rfl
theorem C8c:Has Tryz.prog 66:=i0a Tryz.func66 (by kernel_rfl) rfl
theorem U6b:Has Tryz.prog 67:=i0a Tryz.func67 (by kernel_rfl) rfl
theorem k0d:Has Tryz.prog 68:=i0a Tryz.func68 (by kernel_rfl) rfl
theorem C9c:Has Tryz.prog 69:=i0a Tryz.func69 (by kernel_rfl) rfl
theorem N2c:F7a Tryz.prog 108 6:=u2a (by rw[Tryz.underlying108];simp) (by kernel_rfl)
theorem p0c:∀w,(zeroValue 108).run Tryz.prog w=.ok (.agg #[.string ByteArray.empty,.int .i64 0,.int .i64 0,.int .i64 0,.bool false,.int .i64 0]) w:=fun _=>by kernel_rfl
theorem f0c:Sz Tryz.prog 108 6:=H3a (by kernel_rfl)
theorem i3c:FA Tryz.prog 108 0 0:=A1a (n:=0) Tryz.underlying108 rfl rfl (by kernel_rfl)
theorem e1d:One Tryz.prog 9:=H2a Tryz.underlying9 (by intro _ h;cases h) (by intro _ _ h;cases h)
theorem X2c:FA Tryz.prog 108 1 1:=A1a (n:=0) Tryz.underlying108 rfl rfl (by kernel_rfl)
theorem K3c:FA Tryz.prog 108 5 5:=A1a (n:=0) Tryz.underlying108 rfl rfl (by kernel_rfl)
theorem x9c:Has Tryz.prog 70:=i0a Tryz.func70 (by kernel_rfl) rfl
theorem o4c:FA Tryz.prog 111 0 0:=A1a (n:=0) Tryz.underlying111 rfl rfl (by kernel_rfl)
theorem R3c:FA Tryz.prog 111 1 1:=A1a (n:=0) Tryz.underlying111 rfl rfl (by kernel_rfl)
theorem W3c:FA Tryz.prog 111 4 10:=A1a (n:=0) Tryz.underlying111 rfl rfl (by kernel_rfl)
theorem W8c:Has Tryz.prog 71:=i0a Tryz.func71 (by kernel_rfl) rfl
theorem c3c:FA Tryz.prog 108 4 4:=A1a (n:=0) Tryz.underlying108 rfl rfl (by kernel_rfl)
theorem T8c:Has Tryz.prog 72:=i0a Tryz.func72 (by kernel_rfl) rfl
theorem B7c:FA Tryz.prog 93 0 0:=A1a (n:=0) Tryz.underlying93 rfl rfl (by kernel_rfl)
theorem k6c:FA Tryz.prog 93 3 3:=A1a (n:=0) Tryz.underlying93 rfl rfl (by kernel_rfl)
theorem Z2c:FA Tryz.prog 115 0 0:=A1a (n:=0) Tryz.underlying115 rfl rfl (by kernel_rfl)
theorem j2c:FA Tryz.prog 115 1 1:=A1a (n:=0) Tryz.underlying115 rfl rfl (by kernel_rfl)
theorem d9c:Has Tryz.prog 73:=i0a Tryz.func73 (by kernel_rfl) rfl
theorem Z9c:Has Tryz.prog 74:=i0a Tryz.func74 (by kernel_rfl) rfl
theorem J9c:Has Tryz.prog 75:=i0a Tryz.func75 (by kernel_rfl) rfl
theorem K9c:Has Tryz.prog 76:=i0a Tryz.func76 (by kernel_rfl) rfl
theorem m9c:Has Tryz.prog 77:=i0a Tryz.func77 (by kernel_rfl) rfl
theorem b5c:Has Tryz.prog 78:=i0a Tryz.func78 (by kernel_rfl) rfl
theorem E4c:Has Tryz.prog 79:=i0a Tryz.func79 (by kernel_rfl) rfl
theorem I0b:Has Tryz.prog 80:=i0a Tryz.func80 (by kernel_rfl) rfl
theorem A4b:Has Tryz.prog 81:=i0a Tryz.func81 (by kernel_rfl) rfl
theorem L4c:Has Tryz.prog 82:=i0a Tryz.func82 (by kernel_rfl) rfl
theorem i8c:FA Tryz.prog 68 0 0:=A1a (n:=0) Tryz.underlying68 rfl rfl (by kernel_rfl)
theorem a6c:FA Tryz.prog 68 2 2:=A1a (n:=0) Tryz.underlying68 rfl rfl (by kernel_rfl)
theorem W6c:FA Tryz.prog 68 3 3:=A1a (n:=0) Tryz.underlying68 rfl rfl (by kernel_rfl)
theorem e9c:Has Tryz.prog 84:=i0a Tryz.func84 (by kernel_rfl) rfl
theorem W6b:Has Tryz.prog 85:=i0a Tryz.func85 (by kernel_rfl) rfl
theorem O7a:Has Tryz.prog 96:=i0a Tryz.func96 (by kernel_rfl) rfl
theorem P8c:Has Tryz.prog 97:=i0a Tryz.func97 (by kernel_rfl) rfl
theorem k1b:Has Tryz.prog 98:=i0a Tryz.func98 (by kernel_rfl) rfl
theorem v9c:Has Tryz.prog 99:=i0a Tryz.func99 (by kernel_rfl) rfl
theorem E5b:Has Tryz.prog 100:=i0a Tryz.func100 (by kernel_rfl) rfl
theorem M6c:Bld Tryz.prog 195 [.slice none 0 0,.slice none 0 0,.slice none 0 0,.slice none 0 0] [(0,4)]:=Y3a Tryz.underlying195 (fun _=>by kernel_rfl) (fun _=>by kernel_rfl)
theorem N9c:∀w,(zeroValue 195).run Tryz.prog w=.ok (.agg #[.slice none 0 0,.slice none 0 0,.slice none 0 0,.slice none 0 0]) w:=fun _=>by kernel_rfl
theorem Q9c:Sz Tryz.prog 195 4:=H3a (by kernel_rfl)
theorem m3b:F7a Tryz.prog 195 4:=u2a (by rw[Tryz.underlying195];simp) (by kernel_rfl)
theorem c6c:ArT Tryz.prog 198 3 1:=r7b Tryz.underlying198 (by kernel_rfl) (fun _ _=>by kernel_rfl)
theorem D2b:Has Tryz.prog 101:=i0a Tryz.func101 (by kernel_rfl) rfl
theorem E6a:Has Tryz.prog 102:=i0a Tryz.func102 (by kernel_rfl) rfl
theorem m3a:Has Tryz.prog 103:=i0a Tryz.func103 (by kernel_rfl) rfl
theorem y6c:Has Tryz.prog 104:=i0a Tryz.func104 (by kernel_rfl) rfl
theorem x0b:Has Tryz.prog 105:=i0a Tryz.func105 (by kernel_rfl) rfl
theorem F0c:Has Tryz.prog 106:=i0a Tryz.func106 (by kernel_rfl) rfl
theorem Z5c:Has Tryz.prog 107:=i0a Tryz.func107 (by kernel_rfl) rfl
theorem U2b:Has Tryz.prog 108:=i0a Tryz.func108 (by kernel_rfl) rfl
theorem j0b:Has Tryz.prog 109:=i0a Tryz.func109 (by kernel_rfl) rfl
theorem j6c:Has Tryz.prog 110:=i0a Tryz.func110 (by kernel_rfl) rfl
theorem O9c:∀w,(zeroValue 169).run Tryz.prog w=.ok (.map none) w:=fun _=>by kernel_rfl
theorem z9c:Sz Tryz.prog 169 1:=H3a (by kernel_rfl)
theorem I2b:FA Tryz.prog 80 0 0:=A1a (n:=3) Tryz.underlying80 rfl rfl (by kernel_rfl)
theorem C9b:Bld Tryz.prog 133 [.slice none 0 0,.slice none 0 0,.slice none 0 0,.int .i64 0,.int .i64 0,.int .i64 0,.int .i64 0] [(0,3),(3,1),(4,3)]:=Y3a Tryz.underlying133 (fun _=>by kernel_rfl) (fun _=>by kernel_rfl)
theorem e2b:FA Tryz.prog 80 1 4:=A1a (n:=0) Tryz.underlying80 rfl rfl (by kernel_rfl)
theorem u1c:Has Tryz.prog 111:=i0a Tryz.func111 (by kernel_rfl) rfl
theorem e5b:One Tryz.prog 169:=H2a Tryz.underlying169 (by intro _ h;cases h) (by intro _ _ h;cases h)
theorem D6b:F7a Tryz.prog 133 7:=u2a (by rw[Tryz.underlying133];simp) (by kernel_rfl)
theorem c1d:Sz Tryz.prog 78 1:=H3a (by kernel_rfl)
theorem Q0b:One Tryz.prog 168:=H2a Tryz.underlying168 (by intro _ h;cases h) (by intro _ _ h;cases h)
theorem B6c:Has Tryz.prog 112:=i0a Tryz.func112 (by kernel_rfl) rfl
theorem p8c:Has Tryz.prog 113:=i0a Tryz.func113 (by kernel_rfl) rfl
theorem P7c:Has Tryz.prog 114:=i0a Tryz.func114 (by kernel_rfl) rfl
theorem t1c:∀w,(zeroValue 206).run Tryz.prog w=.ok (.agg #[.slice none 0 0,.slice none 0 0,.slice none 0 0,.slice none 0 0,.slice none 0 0,.slice none 0 0,.slice none 0 0,.int .i64 0]) w:=fun _=>by kernel_rfl
theorem G6b:Sz Tryz.prog 206 8:=H3a (by kernel_rfl)
theorem B3c:FA Tryz.prog 206 0 0:=A1a (n:=2) Tryz.underlying206 rfl rfl (by kernel_rfl)
theorem Q6a:F7a Tryz.prog 206 8:=u2a (by rw[Tryz.underlying206];simp) (by kernel_rfl)
theorem Y8b:Has Tryz.prog 115:=i0a Tryz.func115 (by kernel_rfl) rfl
theorem Q5c:Has Tryz.prog 116:=i0a Tryz.func116 (by kernel_rfl) rfl
theorem Z0c:Has Tryz.prog 117:=i0a Tryz.func117 (by kernel_rfl) rfl
theorem A1c:Has Tryz.prog 118:=i0a Tryz.func118 (by kernel_rfl) rfl
theorem X9a:Has Tryz.prog 119:=i0a Tryz.func119 (by kernel_rfl) rfl
theorem h0c:Has Tryz.prog 120:=i0a Tryz.func120 (by kernel_rfl) rfl
theorem N6c:Has Tryz.prog 121:=i0a Tryz.func121 (by kernel_rfl) rfl
theorem j5b:Has Tryz.prog 126:=i0a Tryz.func126 (by kernel_rfl) rfl
theorem W9c:∀w,(zeroValue 219).run Tryz.prog w=.ok (.nilFunc) w:=fun _=>by kernel_rfl
theorem b0d:Sz Tryz.prog 219 1:=H3a (by kernel_rfl)
theorem o1c:One Tryz.prog 219:=H2a Tryz.underlying219 (by intro _ h;cases h) (by intro _ _ h;cases h)
theorem d6b:Has Tryz.prog 127:=i0a Tryz.func127 (by kernel_rfl) rfl
theorem W7c:Has Tryz.prog 128:=i0a Tryz.func128 (by kernel_rfl) rfl
theorem r9b:Has Tryz.prog 129:=i0a Tryz.func129 (by kernel_rfl) rfl
theorem q3b:ArT Tryz.prog 221 9 1:=r7b Tryz.underlying221 (by kernel_rfl) (fun _ _=>by kernel_rfl)
theorem e0d:∀w,(zeroValue 222).run Tryz.prog w=.ok (.agg #[.int .i64 0,.int .i64 0,.int .i64 0]) w:=fun _=>by kernel_rfl
theorem Z2b:ArT Tryz.prog 222 3 1:=r7b Tryz.underlying222 (by kernel_rfl) (fun _ _=>by kernel_rfl)
theorem o3c:F7a Tryz.prog 222 3:=u2a (by rw[Tryz.underlying222];simp) (by kernel_rfl)
theorem w0c:Has Tryz.prog 130:=i0a Tryz.func130 (by kernel_rfl) rfl
theorem z7c:Has Tryz.prog 131:=i0a Tryz.func131 (by kernel_rfl) rfl
theorem c4c:FA Tryz.prog 195 0 0:=A1a (n:=3) Tryz.underlying195 rfl rfl (by kernel_rfl)
theorem I6c:Has Tryz.prog 132:=i0a Tryz.func132 (by kernel_rfl) rfl
theorem H7c:Has Tryz.prog 133:=i0a Tryz.func133 (by kernel_rfl) rfl
theorem z5c:Has Tryz.prog 134:=i0a Tryz.func134 (by kernel_rfl) rfl
theorem W1b:∀w,(zeroValue 228).run Tryz.prog w=.ok (.agg #[]) w:=fun _=>by kernel_rfl
theorem V8b:Sz Tryz.prog 228 0:=H3a (by kernel_rfl)
theorem B6b:Bld Tryz.prog 228 [] []:=Y3a Tryz.underlying228 (fun _=>by kernel_rfl) (fun _=>by kernel_rfl)
theorem n5c:Has Tryz.prog 135:=i0a Tryz.func135 (by kernel_rfl) rfl
theorem S6c:Has Tryz.prog 136:=i0a Tryz.func136 (by kernel_rfl) rfl
theorem M5b:Has Tryz.prog 137:=i0a Tryz.func137 (by kernel_rfl) rfl
theorem s1c:Has Tryz.prog 138:=i0a Tryz.func138 (by kernel_rfl) rfl
theorem g7a:SlZ Tryz.prog 236 4 1 (.bool false) 1:=⟨Tryz.underlying236,by kernel_rfl,rfl,by decide⟩
theorem h3b:Has Tryz.prog 139:=i0a Tryz.func139 (by kernel_rfl) rfl
theorem R6c:Has Tryz.prog 140:=i0a Tryz.func140 (by kernel_rfl) rfl
theorem n9b:Has Tryz.prog 141:=i0a Tryz.func141 (by kernel_rfl) rfl
theorem b1c:Bld Tryz.prog 206 [.slice none 0 0,.slice none 0 0,.slice none 0 0,.slice none 0 0,.slice none 0 0,.slice none 0 0,.slice none 0 0,.int .i64 0] [(0,3),(3,4),(7,1)]:=Y3a Tryz.underlying206 (fun _=>by kernel_rfl) (fun _=>by kernel_rfl)
theorem n1c:Has Tryz.prog 142:=i0a Tryz.func142 (by kernel_rfl) rfl
theorem s9b:Has Tryz.prog 143:=i0a Tryz.func143 (by kernel_rfl) rfl
theorem h2c:FA Tryz.prog 206 1 3:=A1a (n:=3) Tryz.underlying206 rfl rfl (by kernel_rfl)
theorem R9b:Has Tryz.prog 144:=i0a Tryz.func144 (by kernel_rfl) rfl
theorem J5c:Has Tryz.prog 145:=i0a Tryz.func145 (by kernel_rfl) rfl
theorem u7c:Has Tryz.prog 146:=i0a Tryz.func146 (by kernel_rfl) rfl
theorem m6c:Has Tryz.prog 147:=i0a Tryz.func147 (by kernel_rfl) rfl
theorem j8c:Has Tryz.prog 148:=i0a Tryz.func148 (by kernel_rfl) rfl
theorem w1c:Has Tryz.prog 155:=i0a Tryz.func155 (by kernel_rfl) rfl
theorem U7c:Has Tryz.prog 156:=i0a Tryz.func156 (by kernel_rfl) rfl
theorem J1c:Has Tryz.prog 157:=i0a Tryz.func157 (by kernel_rfl) rfl
theorem v7c:Has Tryz.prog 158:=i0a Tryz.func158 (by kernel_rfl) rfl
theorem b3b:Has Tryz.prog 159:=i0a Tryz.func159 (by kernel_rfl) rfl
theorem k3a:Has Tryz.prog 160:=i0a Tryz.func160 (by kernel_rfl) rfl
theorem i2b:Has Tryz.prog 161:=i0a Tryz.func161 (by kernel_rfl) rfl
theorem s5c:Has Tryz.prog 162:=i0a Tryz.func162 (by kernel_rfl) rfl
theorem Q9a:Has Tryz.prog 163:=i0a Tryz.func163 (by kernel_rfl) rfl
theorem A0b:Has Tryz.prog 164:=i0a Tryz.func164 (by kernel_rfl) rfl
theorem V5b:Has Tryz.prog 165:=i0a Tryz.func165 (by kernel_rfl) rfl
theorem S8a:Has Tryz.prog 166:=i0a Tryz.func166 (by kernel_rfl) rfl
theorem H5c:Has Tryz.prog 167:=i0a Tryz.func167 (by kernel_rfl) rfl
theorem j6b:Has Tryz.prog 168:=i0a Tryz.func168 (by kernel_rfl) rfl
theorem v4c:∀w,(zeroValue 168).run Tryz.prog w=.ok (.nilFunc) w:=fun _=>by kernel_rfl
theorem R4c:Sz Tryz.prog 168 1:=H3a (by kernel_rfl)
theorem p5c:Has Tryz.prog 169:=i0a Tryz.func169 (by kernel_rfl) rfl
theorem m9b:Fld Tryz.prog 252 0 0:=S8c Tryz.underlying252 rfl rfl Tryz.underlying250 (by intro _ h;cases h) (by intro _ _ h;cases h)
theorem A7c:Has Tryz.prog 170:=i0a Tryz.func170 (by kernel_rfl) rfl
theorem H8a:Has Tryz.prog 171:=i0a Tryz.func171 (by kernel_rfl) rfl
theorem w2b:Has Tryz.prog 172:=i0a Tryz.func172 (by kernel_rfl) rfl
theorem A6b:Has Tryz.prog 173:=i0a Tryz.func173 (by kernel_rfl) rfl
theorem P9b:Has Tryz.prog 174:=i0a Tryz.func174 (by kernel_rfl) rfl
theorem M7c:Has Tryz.prog 175:=i0a Tryz.func175 (by kernel_rfl) rfl
theorem d5b:Has Tryz.prog 176:=i0a Tryz.func176 (by kernel_rfl) rfl
theorem W8b:Has Tryz.prog 177:=i0a Tryz.func177 (by kernel_rfl) rfl
theorem v5b:Has Tryz.prog 178:=i0a Tryz.func178 (by kernel_rfl) rfl
theorem I5b:Has Tryz.prog 179:=i0a Tryz.func179 (by kernel_rfl) rfl
theorem K9b:Has Tryz.prog 180:=i0a Tryz.func180 (by kernel_rfl) rfl
theorem D9b:Has Tryz.prog 181:=i0a Tryz.func181 (by kernel_rfl) rfl
theorem c0b:Has Tryz.prog 182:=i0a Tryz.func182 (by kernel_rfl) rfl
theorem R8b:Has Tryz.prog 183:=i0a Tryz.func183 (by kernel_rfl) rfl
theorem E1c:Has Tryz.prog 184:=i0a Tryz.func184 (by kernel_rfl) rfl
theorem U2c:FA Tryz.prog 206 2 7:=A1a (n:=0) Tryz.underlying206 rfl rfl (by kernel_rfl)
theorem E6c:Has Tryz.prog 185:=i0a Tryz.func185 (by kernel_rfl) rfl
theorem C5c:Has Tryz.prog 186:=i0a Tryz.func186 (by kernel_rfl) rfl
theorem L0c:Has Tryz.prog 187:=i0a Tryz.func187 (by kernel_rfl) rfl
theorem V6c:Has Tryz.prog 188:=i0a Tryz.func188 (by kernel_rfl) rfl
theorem Z7c:Has Tryz.prog 189:=i0a Tryz.func189 (by kernel_rfl) rfl
theorem h9b:Has Tryz.prog 192:=i0a Tryz.func192 (by kernel_rfl) rfl
theorem A6a:Has Tryz.prog 197:=i0a Tryz.func197 (by kernel_rfl) rfl
theorem Q8a:Has Tryz.prog 198:=i0a Tryz.func198 (by kernel_rfl) rfl
theorem f8c:Has Tryz.prog 199:=i0a Tryz.func199 (by kernel_rfl) rfl
theorem O5c:Has Tryz.prog 200:=i0a Tryz.func200 (by kernel_rfl) rfl
theorem b2b:Has Tryz.prog 201:=i0a Tryz.func201 (by kernel_rfl) rfl
theorem a7c:Has Tryz.prog 202:=i0a Tryz.func202 (by kernel_rfl) rfl
theorem b2c:F7a Tryz.prog 253 8:=u2a (by rw[Tryz.underlying253];simp) (by kernel_rfl)
theorem C7c:Has Tryz.prog 203:=i0a Tryz.func203 (by kernel_rfl) rfl
theorem Q8c:∀w,(zeroValue 253).run Tryz.prog w=.ok (.agg #[.nilFunc,.nilFunc,.nilFunc,.nilFunc,.nilFunc,.nilFunc,.nilFunc,.nilFunc]) w:=fun _=>by kernel_rfl
theorem A7a:Bld Tryz.prog 252 [.nilFunc] [(0,1)]:=Y3a Tryz.underlying252 (fun _=>by kernel_rfl) (fun _=>by kernel_rfl)
theorem I9c:Sz Tryz.prog 253 8:=H3a (by kernel_rfl)
theorem O7c:Has Tryz.prog 204:=i0a Tryz.func204 (by kernel_rfl) rfl
theorem J4c:∀w,(zeroValue 259).run Tryz.prog w=.ok (.agg #[.bool false,.bool false,.bool false,.bool false,.bool false,.bool false,.bool false,.bool false,.bool false,.bool false,.bool false,.bool false,.bool false,.bool false,.bool false,.bool false,.bool false,.bool false,.bool false,.bool false,.bool false,.bool false,.bool false,.bool false,.bool false,.bool false,.bool false,.bool false,.bool false,.bool false,.bool false,.bool false]) w:=fun _=>by kernel_rfl
theorem T3c:F7a Tryz.prog 259 32:=u2a (by rw[Tryz.underlying259];simp) (by kernel_rfl)
theorem Y7c:Has Tryz.prog 205:=i0a Tryz.func205 (by kernel_rfl) rfl
theorem U9b:Has Tryz.prog 206:=i0a Tryz.func206 (by kernel_rfl) rfl
theorem a8c:Has Tryz.prog 207:=i0a Tryz.func207 (by kernel_rfl) rfl
theorem E5c:Has Tryz.prog 210:=i0a Tryz.func210 (by kernel_rfl) rfl
theorem D5c:Has Tryz.prog 211:=i0a Tryz.func211 (by kernel_rfl) rfl
theorem X5c:Has Tryz.prog 212:=i0a Tryz.func212 (by kernel_rfl) rfl
theorem N5c:Has Tryz.prog 213:=i0a Tryz.func213 (by kernel_rfl) rfl
theorem d8c:Has Tryz.prog 214:=i0a Tryz.func214 (by kernel_rfl) rfl
theorem V5c:Has Tryz.prog 215:=i0a Tryz.func215 (by kernel_rfl) rfl
theorem F5c:Has Tryz.prog 216:=i0a Tryz.func216 (by kernel_rfl) rfl
theorem n7c:Has Tryz.prog 217:=i0a Tryz.func217 (by kernel_rfl) rfl
theorem a1c:Has Tryz.prog 218:=i0a Tryz.func218 (by kernel_rfl) rfl
theorem d6c:Has Tryz.prog 219:=i0a Tryz.func219 (by kernel_rfl) rfl
theorem p3b:ArT Tryz.prog 259 32 1:=r7b Tryz.underlying259 (by kernel_rfl) (fun _ _=>by kernel_rfl)
theorem T8b:Has Tryz.prog 220:=i0a Tryz.func220 (by kernel_rfl) rfl
theorem P5b:Has Tryz.prog 222:=i0a Tryz.func222 (by kernel_rfl) rfl
theorem y5b:Has Tryz.prog 223:=i0a Tryz.func223 (by kernel_rfl) rfl
theorem R9a:Has Tryz.prog 224:=i0a Tryz.func224 (by kernel_rfl) rfl
theorem O6c:Has Tryz.prog 225:=i0a Tryz.func225 (by kernel_rfl) rfl
theorem F9b:Has Tryz.prog 226:=i0a Tryz.func226 (by kernel_rfl) rfl
theorem U6c:Has Tryz.prog 227:=i0a Tryz.func227 (by kernel_rfl) rfl
theorem b0a:Tryz.prog.follows .mixedOrders=true:=by kernel_rfl
def tab:Tab where
 fa:=.n 6210 2 (.n 4481 1 (.n 2816 0 (.n 1731 3 (.n 1729 1 (.n 1728 0 .l .l) (.n 1730 2 .l .l)) (.n 2433 1 (.n 2432 0 .l .l) (.n 2434 2 .l .l))) (.n 4353 1 (.n 2818 2 (.n 2817 1 .l .l) (.n 4352 0 .l .l)) (.n 4355 3 (.n 4354 2 .l .l) (.n 4480 0 .l .l)))) (.n 5953 1 (.n 5122 5 (.n 5120 0 (.n 4482 2 .l .l) (.n 5121 4 .l .l)) (.n 5633 1 (.n 5632 0 .l .l) (.n 5952 0 .l .l))) (.n 5957 5 (.n 5955 3 (.n 5954 2 .l .l) (.n 5956 4 .l .l)) (.n 6208 0 (.n 5958 6 .l .l) (.n 6209 1 .l .l))))) (.n 7106 2 (.n 6912 0 (.n 6214 9 (.n 6212 7 (.n 6211 3 .l .l) (.n 6213 8 .l .l)) (.n 6720 0 (.n 6215 10 .l .l) (.n 6721 1 .l .l))) (.n 6916 4 (.n 6914 2 (.n 6913 1 .l .l) (.n 6915 3 .l .l)) (.n 7104 0 (.n 6917 5 .l .l) (.n 7105 1 .l .l)))) (.n 7362 2 (.n 7233 1 (.n 7108 10 (.n 7107 6 .l .l) (.n 7232 0 .l .l)) (.n 7360 0 (.n 7234 5 .l .l) (.n 7361 1 .l .l))) (.n 12480 0 (.n 8513 3 (.n 8512 0 .l .l) (.n 8514 4 .l .l)) (.n 13185 3 (.n 13184 0 .l .l) (.n 13186 7 .l .l)))))
 fl:=.n 16128 0 .l .l
 sl:=.n 66 4 (.n 30 3 (.n 24 6 (.n 23 11 (.n 22 6 .l .l) .l) (.n 25 7 .l .l)) (.n 36 1 (.n 35 1 .l .l) (.n 41 3 .l .l))) (.n 90 11 (.n 84 1 (.n 78 7 .l .l) (.n 86 2 .l .l)) (.n 95 5 (.n 91 6 .l .l) (.n 236 1 .l .l)))
 ld:=.n 86 0 (.n 35 0 (.n 24 0 (.n 9 0 (.n 4 0 (.n 3 0 .l .l) .l) (.n 23 0 (.n 22 0 .l .l) .l)) (.n 30 0 (.n 27 4 (.n 25 0 .l .l) .l) (.n 31 0 .l .l))) (.n 68 4 (.n 41 0 (.n 38 3 (.n 36 0 .l .l) .l) (.n 66 0 (.n 44 3 .l .l) .l)) (.n 78 0 (.n 77 0 (.n 70 6 .l .l) .l) (.n 83 0 .l .l)))) (.n 115 6 (.n 97 11 (.n 91 0 (.n 90 0 (.n 88 2 .l .l) .l) (.n 95 0 (.n 93 7 .l .l) .l)) (.n 111 11 (.n 108 6 (.n 105 5 .l .l) .l) (.n 113 6 .l .l))) (.n 206 8 (.n 169 0 (.n 168 0 (.n 133 7 .l .l) .l) (.n 195 4 .l .l)) (.n 253 8 (.n 222 3 (.n 219 0 .l .l) .l) (.n 259 32 .l .l))))
 bo:=.n 4 0 .l .l
theorem x1d:tab.Ok Tryz.prog where
 fa:=⟨.of Q7c rfl rfl,⟨.of D7c rfl rfl,⟨.of U9a rfl rfl,⟨.of A5b rfl rfl,⟨.of b6c rfl rfl,⟨.of y1c rfl rfl,trivial,trivial⟩,⟨.of L5c rfl rfl,trivial,trivial⟩⟩,⟨.of j3b rfl rfl,⟨.of M2b rfl rfl,trivial,trivial⟩,⟨.of y3a rfl rfl,trivial,trivial⟩⟩⟩,⟨.of G5c rfl rfl,⟨.of m8c rfl rfl,⟨.of X6c rfl rfl,trivial,trivial⟩,⟨.of i8c rfl rfl,trivial,trivial⟩⟩,⟨.of W6c rfl rfl,⟨.of a6c rfl rfl,trivial,trivial⟩,⟨.of Z6c rfl rfl,trivial,trivial⟩⟩⟩⟩,⟨.of r5c rfl rfl,⟨.of z5b rfl rfl,⟨.of I2b rfl rfl,⟨.of h8c rfl rfl,trivial,trivial⟩,⟨.of e2b rfl rfl,trivial,trivial⟩⟩,⟨.of e6b rfl rfl,⟨.of n3b rfl rfl,trivial,trivial⟩,⟨.of B7c rfl rfl,trivial,trivial⟩⟩⟩,⟨.of S7c rfl rfl,⟨.of k6c rfl rfl,⟨.of F6c rfl rfl,trivial,trivial⟩,⟨.of C6c rfl rfl,trivial,trivial⟩⟩,⟨.of f7c rfl rfl,⟨.of o8c rfl rfl,trivial,trivial⟩,⟨.of F7c rfl rfl,trivial,trivial⟩⟩⟩⟩⟩,⟨.of Q2c rfl rfl,⟨.of i3c rfl rfl,⟨.of o6c rfl rfl,⟨.of a6b rfl rfl,⟨.of o5c rfl rfl,trivial,trivial⟩,⟨.of J6c rfl rfl,trivial,trivial⟩⟩,⟨.of N6b rfl rfl,⟨.of x6c rfl rfl,trivial,trivial⟩,⟨.of n7b rfl rfl,trivial,trivial⟩⟩⟩,⟨.of c3c rfl rfl,⟨.of d4c rfl rfl,⟨.of X2c rfl rfl,trivial,trivial⟩,⟨.of I3c rfl rfl,trivial,trivial⟩⟩,⟨.of o4c rfl rfl,⟨.of K3c rfl rfl,trivial,trivial⟩,⟨.of R3c rfl rfl,trivial,trivial⟩⟩⟩⟩,⟨.of p3c rfl rfl,⟨.of A2c rfl rfl,⟨.of W3c rfl rfl,⟨.of s3c rfl rfl,trivial,trivial⟩,⟨.of C3c rfl rfl,trivial,trivial⟩⟩,⟨.of Z2c rfl rfl,⟨.of i2c rfl rfl,trivial,trivial⟩,⟨.of j2c rfl rfl,trivial,trivial⟩⟩⟩,⟨.of c4c rfl rfl,⟨.of F3c rfl rfl,⟨.of a4c rfl rfl,trivial,trivial⟩,⟨.of N3c rfl rfl,trivial,trivial⟩⟩,⟨.of h2c rfl rfl,⟨.of B3c rfl rfl,trivial,trivial⟩,⟨.of U2c rfl rfl,trivial,trivial⟩⟩⟩⟩⟩⟩
 fl:=⟨.of m9b rfl rfl,trivial,trivial⟩
 sl:=⟨j1a.slT,⟨Z8b.slT,⟨w8c.slT,⟨z4c.slT,⟨U5a.slT,trivial,trivial⟩,trivial⟩,⟨j7b.slT,trivial,trivial⟩⟩,⟨V2a.slT,⟨O0a.slT,trivial,trivial⟩,⟨W2a.slT,trivial,trivial⟩⟩⟩,⟨S4c.slT,⟨p5a.slT,⟨j9b.slT,trivial,trivial⟩,⟨h3a.slT,trivial,trivial⟩⟩,⟨n9a.slT,⟨M8c.slT,trivial,trivial⟩,⟨g7a.slT,trivial,trivial⟩⟩⟩⟩
 ld:=⟨e9a,⟨O2a,⟨R9c,⟨e1d,⟨m2a,⟨K0a,trivial,trivial⟩,trivial⟩,⟨h5c,⟨t9a,trivial,trivial⟩,trivial⟩⟩,⟨U1c,⟨b5a,⟨C6b,trivial,trivial⟩,trivial⟩,⟨L1c,trivial,trivial⟩⟩⟩,⟨E1a,⟨i7b,⟨a1a,⟨K3a,trivial,trivial⟩,trivial⟩,⟨p2a,⟨e6a,trivial,trivial⟩,trivial⟩⟩,⟨k8a,⟨O4a,⟨k5b,trivial,trivial⟩,trivial⟩,⟨m5c,trivial,trivial⟩⟩⟩⟩,⟨t2c,⟨u6c,⟨B9c,⟨q0d,⟨j2b,trivial,trivial⟩,trivial⟩,⟨W3b,⟨v9b,trivial,trivial⟩,trivial⟩⟩,⟨F2c,⟨N2c,⟨g2c,trivial,trivial⟩,trivial⟩,⟨n3c,trivial,trivial⟩⟩⟩,⟨Q6a,⟨e5b,⟨Q0b,⟨D6b,trivial,trivial⟩,trivial⟩,⟨m3b,trivial,trivial⟩⟩,⟨b2c,⟨o3c,⟨o1c,trivial,trivial⟩,trivial⟩,⟨T3c,trivial,trivial⟩⟩⟩⟩⟩
 bo:=⟨Tryz.underlying4,trivial,trivial⟩
instance:HasTab Tryz.prog:=⟨tab,x1d⟩
theorem L8c{a b:ByteArray}:(a.toList==b.toList)=decide (a=b):=by
 by_cases h:a=b
 ·subst h;simp
 ·rw[decide_eq_false h,beq_eq_false_iff_ne];intro hl;refine h (ByteArray.ext ?_);have:=congrArg List.toArray hl;simpa[ByteArray.toList_eq] using this
section
variable {P:Program} {r:Option Nat} {N:Nat} {D:List Deferred} {e:Env} {w w0:World} {ops:Array Oper} {rest:List Oper} {K:List Deferred→Env→World→Prop} {L:List Ent} {M:List Nat}
variable {d:Nat} {t:TypeId} {p:String} {af:Array Edge} {x y:Operand} {xt yt:TypeId} {kd:IntKind}
theorem t1b{ty:Nat}{s:ByteArray}(hT:P.underlying ty=some .string)(hx:ev e x=.string s)(hd:Nat.ble (d+1) N=true)(h:WL P r N ops rest K D (upd e d (.int .i64 s.size)) w):
 WL P r N ops (⟨some d,.call { callee:=.builtin .len,args:=#[x],argTypes:=#[ty] },t,p,af,none⟩::rest) K D e w :=
 k1a rfl rfl hd (by simp) (by simp[execOp,resolve,invoke,builtin,Builtin.len_,hx,run_underlying hT,goInt]) h
theorem C9a{ty:Nat}{s:ByteArray}{i:Int}(hT:P.underlying ty=some .string)(hx:ev e x=.string s)(hy:ev e y=.int kd i)(h0:0≤i)(h1:i.toNat<s.size)(hd:Nat.ble (d+1) N=true)
 (h:WL P r N ops rest K D (upd e d (.int .u8 (s[i.toNat]).toNat)) w):WL P r N ops (⟨some d,.index ty x y,t,p,af,none⟩::rest) K D e w :=
 k1a rfl rfl hd (by simp) (by simp[execOp,Instr.index,hx,hy,asIntOf,run_underlying hT,h0,h1]) h
end
section
variable {P:Program} {N:Nat} {e:Env} {w:World} {ops:Array Oper} {rest:List Oper} {C:World→Prop} {K:Env→Prop}
variable {d:Nat} {t:TypeId} {p:String} {af:Array Edge} {x y:Operand} {xt yt:TypeId} {kd:IntKind}
theorem h1c{a b:ByteArray}(hx:ev e x=.string a)(hy:ev e y=.string b)(hd:Nat.ble (d+1) N=true)(h1:a=b→QL P N ops C rest K (upd e d (.bool true)))(h2:a≠b→QL P N ops C rest K (upd e d (.bool false))):
 QL P N ops C (⟨some d,.binOp .eql xt x y yt,t,p,af,none⟩::rest) K e:=by
 by_cases a0:a=b
 ·exact C3a rfl rfl hd (fun w _=>by simp[execOp,hx,hy,eqGuard_at_string,binOp,Op.stringOp,a0]) (h1 a0)
 ·exact C3a rfl rfl hd (fun w _=>by simp[execOp,hx,hy,eqGuard_at_string,binOp,Op.stringOp,L8c,a0]) (h2 a0)
end
def Yld(P:Program)(l:Nat)(args:Array Value)(w:World)(R:Value→World→Prop):Prop :=
 ∃rc:Loop,w.heap[l]?=some (.loop rc)∧args.size=rc.params.size ∧
  RoundIn Fence.wide 0 P l rc.fn ((rc.params.zip args).foldl (fun tmps (t,a)=>tmps.setIfInBounds t a) rc.tmps) rc.assign rc.body w fun en w'=>∃v,en=.returned v∧R v w'
theorem Yld.mono{P:Program}{l:Nat}{args:Array Value}{w:World}{R R':Value→World→Prop}(h:Yld P l args w R)(hr:∀v w',R v w'→R' v w'):Yld P l args w R':=by
 obtain⟨rc,h1,h2,h3⟩:=h;exact⟨rc,h1,h2,h3.mono fun _ _ ⟨v,he,hv⟩=>⟨v,he,hr v _ hv⟩⟩
theorem F8b{P:Program}{r:Option Nat}{l n:Nat}{f:FuncId}{tmps:Array Value}{a0 body:Code}{w:World}{R:Ending→World→Prop}(h:RoundIn Fence.wide 0 P l f tmps a0 body w R):RoundIn (fc r) n P l f tmps a0 body w R :=
 ⟨trivial,fun c cs _=>h.2 c cs (room_wide _)⟩
section
variable {P:Program} {r:Option Nat} {N:Nat} {D:List Deferred} {e:Env} {w:World}
variable {ops:Array Oper} {rest:List Oper} {K:List Deferred→Env→World→Prop} {d:Nat} {t:TypeId} {p:String} {af:Array Edge}
theorem x5b{g:Operand}{l:Nat}{args:Array Operand}{at_:Array TypeId}{vs:List Value}{R:Value→World→Prop}(hg:ev e g=.func (.yield l) #[] #[])
 (f0:args.toList.map (ev e)=vs) (hd:Nat.ble (d+1) N=true)
 (hc:Yld P l vs.toArray w R) (h:∀v w',R v w'→WL P r N ops rest K D (upd e d v) w') :
 WL P r N ops (⟨some d,.call { callee:=.value g,args:=args,argTypes:=at_ },t,p,af,none⟩::rest) K D e w:=by
 obtain⟨rc,h1,h2,h3⟩:=hc;subst f0;have a0:(args.map (ev e))=(args.toList.map (ev e)).toArray:=by apply Array.ext';simp
 unfold WL at *;intro a Q hs d0 he hK;have e0:d<a.tmps.size:=by rw[hs];exact Nat.le_of_ble_eq_true hd
 simp only[wpListIn,Region.wanted,if_true];refine⟨D0a _ w _,?_⟩;rw[Oper.semAt_eq _ _ _ (by simp),v2a,he];have b0:(execOp (ev e) ⟨some d,.call { callee:=.value g,args:=args,argTypes:=at_ },t,p,af,none⟩).run P w =
  .ok (.round l rc.fn ((rc.params.zip (args.toList.map (ev e)).toArray).foldl (fun tmps (t,a)=>tmps.setIfInBounds t a) rc.tmps) rc.assign rc.body) w:=by
  have:=run_yield (P:=P) h1 h2;simp[execOp,resolve,Deferred.ofValue,invoke,hg,a0,this]
 rw[b0,Oper.uponIn_round];refine⟨fun hh=>by simp[fc,Fence.wide] at hh,F8b (h3.mono ?_)⟩;rintro en w' ⟨v,rfl,hv⟩;exact h v w' hv (a.put (some d) v) Q (by simp[Act.put,hs]) (by simp[Act.put,d0]) (by rw[e1a v e0,he]) hK
def n5a(l:Nat)(jump:Option Code)(R:Value→World→Prop)(w:World):Prop :=
 ∃rc:Loop,w.heap[l]?=some (.loop rc)∧R (.bool jump.isNone) (w.putObj l (.loop { rc with state:=if jump.isNone then .ready else .done,pending:=jump }))
theorem a0c{l p q N:Nat}{rc:Loop}{x y:Value}{a0 body:Code}{R:Value→World→Prop}(hl:w.heap[l]?=some (.loop rc))(hr:rc.state=.ready)(hN:rc.tmps.size=N)(f0:W0a { tmps:=rc.tmps,defers:=[] }=e)(b0:rc.params=#[p,q])(has:rc.assign=a0)(e0:rc.body=body)(hp:Nat.ble (p+1) N=true)(hq:Nat.ble (q+1) N=true)
 (h:W P (some l) N a0 ⟨fun D e w1=>w1.heap[l]?=some (.loop rc) ∧
   W P (some l) N body ⟨fun _ _ w3=>n5a l none R w3,fun id _ _ w3=>n5a l (some (.exit id)) R w3,fun _ _ w3=>n5a l (some .ret) R w3⟩ D e (w1.putObj l (.loop { rc with state:=.busy })),
   fun _ _ _ _=>False,fun _ _ _=>False⟩ [] (upd (upd e p x) q y) w):Yld P l #[x,y] w R:=by
 subst f0 has e0;have h0:=Nat.le_of_ble_eq_true hp;have i0:=Nat.le_of_ble_eq_true hq;refine⟨rc,hl,by simp[b0],?_⟩;have hz:(rc.params.zip #[x,y]).foldl (fun tmps (t,a)=>tmps.setIfInBounds t a) rc.tmps=(rc.tmps.setIfInBounds p x).setIfInBounds q y:=by rw[b0];simp
 rw[hz];refine roundIn_of_wpIn (F:=Fence.wide) trivial ?_;unfold W at h;have he:W0a { tmps:=(rc.tmps.setIfInBounds p x).setIfInBounds q y,defers:=[] }=upd (upd (W0a { tmps:=rc.tmps,defers:=[] }) p x) q y:=by
  have h1:=e1a (a:={ tmps:=rc.tmps,defers:=[] }) (d:=p) x (by simp;omega);have h2:=e1a (a:={ tmps:=rc.tmps.setIfInBounds p x,defers:=[] }) (d:=q) y (by simp;omega);simp only[Act.put] at h1 h2;rw[h2,←h1]
 refine wpIn_mono (h { tmps:=(rc.tmps.setIfInBounds p x).setIfInBounds q y,defers:=[] } (by simp[hN]) rfl he) fun ex a w1 hq=>?_;cases ex with
 | normal =>
   obtain⟨hs,g0,hb⟩:=hq;refine⟨_,run_beginRound g0 hr,wpIn_mono (hb a hs rfl rfl) fun ex a w3 hq=>?_⟩;cases ex with
   | normal=>obtain⟨_,d0,h3,hR⟩:=hq;exact⟨_,_,run_endRound none h3,_,rfl,hR⟩
   | ret=>obtain⟨_,d0,h3,hR⟩:=hq;exact⟨_,_,run_endRound (some .ret) h3,_,rfl,hR⟩
   | exit id=>obtain⟨_,d0,h3,hR⟩:=hq;exact⟨_,_,run_endRound (some (.exit id)) h3,_,rfl,hR⟩
   | goto l=>exact hq.elim
   | panic c=>exact hq.elim
   | outgrown=>exact hq.elim
 | exit id=>exact hq.2
 | ret=>exact hq.2
 | goto l=>exact hq.elim
 | panic c=>exact hq.elim
 | outgrown=>exact hq.elim
def I4c(fn:FuncId)(tm:Array Value)(ps:Array Tmp)(assign body:Code)(df:Nat):Loop:={ state:=.ready,pending:=none,fn,tmps:=tm,params:=ps,assign,body,defers:=df }
def f8a(b:Nat):Deferred:={ target:=.collected b,args:=#[] }
theorem z7a{g:Operand}{ps:Array Tmp}{a0 body:Code}{f:FuncId}{caps:Array Value}{vs:Value→Array Value}{n t:List Deferred→Env→World→Prop}{b:Nat→List Deferred→Env→World→Prop}
 (hH:Has P f) (hg:ev e g=.func (.func f) #[] caps) (r0:∀y,#[y]++caps=vs y)
 (h:∀(rc:Loop) (wi:World),rc.state=.ready→rc.pending=none→rc.tmps.size=N→W0a { tmps:=rc.tmps,defers:=[] }=e→rc.params=ps→rc.assign=a0→rc.body=body →
   wi.heap[w.heap.size]?=some (.deferred (some []))→wi.heap[w.heap.size+1]?=some (.loop rc)→Below w.heap.size w wi→wi.heap.size=w.heap.size+2 →
   M0a P f (vs (.func (.yield (w.heap.size+1)) #[] #[])) wi fun _ w3 =>
    ∃rc:Loop,w3.heap[w.heap.size+1]?=some (.loop rc)∧rc.state≠.busy ∧
     ((rc.pending=none∧n (f8a w.heap.size::D) e (w3.putObj (w.heap.size+1) (.loop { rc with state:=.exhausted }))) ∨
      (rc.pending=some .ret∧t (f8a w.heap.size::D) e (w3.putObj (w.heap.size+1) (.loop { rc with state:=.exhausted }))))) :
 W P none N (.rangeFunc g ps a0 body) ⟨n,b,t⟩ D e w:=by
 unfold W;intro a hs hd he;have i0:W0a { tmps:=a.tmps,defers:=[] }=e:=he;refine wpIn_rangeFunc (F:=fc none) (n:=0) ?_;intro fn _;have j0:((w.alloc (.deferred (some []))).alloc (.loop (I4c fn a.tmps ps a0 body w.heap.size))).heap[w.heap.size]?=some (.deferred (some [])) :=
  (Below.heap_alloc _ _ _ (by simp)).trans (World.alloc_heap_new w _)
 have n0:((w.alloc (.deferred (some []))).alloc (.loop (I4c fn a.tmps ps a0 body w.heap.size))).heap[w.heap.size+1]?=some (.loop (I4c fn a.tmps ps a0 body w.heap.size)):=by
  have:=World.alloc_heap_new (w.alloc (.deferred (some []))) (.loop (I4c fn a.tmps ps a0 body w.heap.size));rwa [World.size_alloc] at this
 have o0:Below w.heap.size w ((w.alloc (.deferred (some []))).alloc (.loop (I4c fn a.tmps ps a0 body w.heap.size))):=(((Below.refl _ w).alloc (Nat.le_refl _) _).alloc (by simp) _);have h1:=h (I4c fn a.tmps ps a0 body w.heap.size) _ rfl rfl hs i0 rfl rfl rfl j0 n0 o0 (by simp);rw[←r0] at h1;have p0:a.eval g=.func (.func f) #[] caps:=by rw[v2a,he];exact hg
 have f0:=run_enterLoop_outer (P:=P) (w:=w) fn a.tmps ps a0 body;change (Instr.enterLoop fn a.tmps ps a0 body none).run P w=.ok (w.heap.size+1,[f8a w.heap.size]) ((w.alloc (.deferred (some []))).alloc (.loop (I4c fn a.tmps ps a0 body w.heap.size))) at f0;clear j0 n0 o0;generalize ((w.alloc (.deferred (some []))).alloc (.loop (I4c fn a.tmps ps a0 body w.heap.size)))=W1 at h1 f0;have h0:(resolve a.eval (rangeCall g (w.heap.size+1)) 0).run P W1=.ok { target:=.fn (.func f) caps,args:=#[.func (.yield (w.heap.size+1)) #[] #[]] } W1:=by
  simp only[resolve,p0];simp[go_sem]
 have g0:(invoke (.fn (.func f) caps) #[.func (.yield (w.heap.size+1)) #[] #[]]).run P W1=.ok (.enter f (#[.func (.yield (w.heap.size+1)) #[] #[]]++caps)) W1:=by
  simp[invoke,go_sem,hH _ _]
 refine⟨w.heap.size+1,[f8a w.heap.size],W1,{ target:=.fn (.func f) caps,args:=#[.func (.yield (w.heap.size+1)) #[] #[]] },W1,f,#[.func (.yield (w.heap.size+1)) #[] #[]]++caps,W1,f0,h0,fun _ _=>trivial,g0,fun hh=>(by simp[fc,Fence.wide] at hh),?_⟩;refine u5a (Calls.mono h1 ?_);rintro en w3 ⟨_,rfl,rc,hl,q0,b0⟩;have d0:=run_endLoop (P:=P) hl q0;generalize (w3.putObj (w.heap.size+1) (.loop { rc with state:=.exhausted }))=W4 at d0 b0;refine⟨rc.pending,W4,d0,?_⟩;subst hd;have e0:W0a { tmps:=a.tmps,defers:=[f8a w.heap.size]++a.defers }=e:=i0;rcases b0 with⟨hp,hn⟩|⟨hp,ht⟩
 ·rw[hp];show a.tmps.size=N∧n (f8a w.heap.size::a.defers) (W0a _) W4;rw[e0];exact⟨hs,hn⟩
 ·rw[hp];refine wpIn_ret ?_;show a.tmps.size=N∧t (f8a w.heap.size::a.defers) (W0a _) W4;rw[e0];exact⟨hs,ht⟩
theorem p0a.putObj{w:World}{l:Nat}{o:Obj}{b:Blk}(h:p0a w b)(a0:b.1≠l):p0a (w.putObj l o) b:=by
 unfold p0a at *;rw[World.putObj_heap_other a0];exact h
theorem F0a.putObj{M:List Nat}{w0 w:World}{l:Nat}(o:Obj)(h:F0a M w0 w)(hl:w0.heap.size≤l∨l∈M):F0a M w0 (w.putObj l o) :=
 ⟨h.os,h.tape,h.output,by simpa using h.size,fun k hk hm=>by
  rw[World.putObj_heap_other];exact h.block k hk hm;intro hh;subst hh;rcases hl with hl|hl
  ·omega
  ·exact hm hl⟩
theorem F0a.step{Ms:List Nat}{w0 w w':World}(h:F0a [] w0 w)(k:F0a Ms w w')(hM:∀g∈Ms,w0.heap.size≤g):F0a [] w0 w' :=
 ⟨k.os.trans h.os,k.tape.trans h.tape,k.output.trans h.output,Nat.le_trans h.size k.size,fun i hi hm=>(k.block i (Nat.lt_of_lt_of_le hi h.size) (fun hh=>by have:=hM i hh;omega)).trans (h.block i hi hm)⟩
theorem V1a(w:World)(l:Nat)(o:Obj):y0a [l] w (w.putObj l o):=⟨by simp,fun k _ hm=>World.putObj_heap_other (by simpa using hm)⟩
end
section
variable {P:Program} {r:Option Nat} {N:Nat} {l:List Oper} {D:List Deferred}
theorem w5c{Q:Exit→Act→World→Prop}(q0:((List.range l.length).all fun i=>(m1a l i).all fun j=>decide (j<i))=true)(I:(Nat→Bool)→Env→World→Prop)
 (step:∀(f:Nat→Bool) (e:Env) (w:World) (i:Nat) (o:Oper),I f e w→l[i]?=some o→f i=false→(∀j∈m1a l i,f j=true) →
   WL P r N l.toArray [o] (fun D' e' w'=>D'=D∧I (fun j=>f j||j==i) e' w') D e w)
 (p0:∀(f:Nat→Bool) (a:Act) (w:World),a.tmps.size=N→a.defers=D→I f (W0a a) w→(∀i,i<l.length→f i=true)→Q .normal a w) :
 ∀(fuel:Nat) (f:Nat→Bool) (listed:Array Bool) (a:Act) (w:World),listed.size=l.length→(∀i,i<l.length→(Lst listed i↔f i=true))→((List.range l.length).filter fun i=>!f i).length≤fuel →
  a.tmps.size=N→a.defers=D→I f (W0a a) w→wpAnyIn (fc r) 0 P .any l.toArray Q fuel listed a w:=by
 intro fuel;have b0:∀(f:Nat→Bool) (listed:Array Bool),listed.size=l.length→(∀i,i<l.length→(Lst listed i↔f i=true))→Region.ready .any l.toArray listed=[]→∀i,i<l.length→f i=true:=by
  intro f listed g0 hf hr i hi;cases e0:f i with
  | true=>rfl
  | false =>
    obtain⟨k,hk,v0,f0⟩:=b7a (listed:=listed) (n:=l.length) ⟨i,hi,fun hh=>by rw[(hf i hi).1 hh] at e0;cases e0⟩;have:k∈Region.ready .any l.toArray listed:=(L4a g0).2 ⟨hk,v0,fun j hj=>f0 j (a9a q0 hj)⟩;rw[hr] at this;cases this
 induction fuel with
 | zero =>
   intro f listed a w g0 hf u0 hs hd hI;have i0:∀i,i<l.length→f i=true:=by
    intro i hi;cases e0:f i with
    | true=>rfl
    | false =>
      have:i∈(List.range l.length).filter fun i=>!f i:=List.mem_filter.2 ⟨List.mem_range.2 hi,by simp[e0]⟩;have o0:(List.range l.length).filter (fun i=>!f i)=[]:=List.length_eq_zero_iff.1 (by omega);rw[o0] at this;cases this
   refine⟨?_,p0 f a w hs hd hI i0⟩;apply List.eq_nil_iff_forall_not_mem.2;intro i hi;obtain⟨h1,h2,_⟩:=(L4a g0).1 hi;exact h2 ((hf i h1).2 (i0 i h1))
 | succ fuel ih =>
   intro f listed a w g0 hf u0 hs hd hI;refine⟨fun h0=>p0 f a w hs hd hI (b0 f listed g0 hf h0),fun i hi=>?_⟩;obtain⟨h1,h2,h3⟩:=(L4a g0).1 hi;have n0:l[i]?=some l[i]:=List.getElem?_eq_getElem h1;have e0:f i=false:=by
    cases e0:f i with
    | false=>rfl
    | true=>exact absurd ((hf i h1).2 e0) h2
   have x0:∀j∈m1a l i,j<l.length:=fun j hj=>Nat.lt_trans (a9a q0 hj) h1;have r0:=step f (W0a a) w i l[i] hI n0 e0 (fun j hj=>(hf j (x0 j hj)).1 (h3 j hj));unfold WL at r0;have d0:=r0 a (fun ex a' w'=>ex=.normal∧wpAnyIn (fc r) 0 P .any l.toArray Q fuel (listed.setIfInBounds i true) a' w') hs hd rfl (fun a' w' y0 hk=>by
    obtain⟨t0,s0⟩:=hk;refine⟨rfl,ih (fun j=>f j||j==i) _ a' w' (by simp[g0]) (fun j hj=>?_) ?_ y0 t0 s0⟩
    ·rw[E2a (by omega)];have:=hf j hj;simp only[Bool.or_eq_true,beq_iff_eq];constructor
     ·rintro(h|h)
      ·exact .inr h
      ·exact .inl (this.1 h)
     ·rintro(h|h)
      ·exact .inr (this.2 h)
      ·exact .inl h
    ·have:=T3b (X:=List.range l.length) (p:=fun j=>!f j) (q:=fun j=>!(f j||j==i)) (fun x hx=>by simp at hx ⊢;exact hx.1) (List.mem_range.2 h1) (by simp[e0]) (by simp);omega)
   unfold wpOpIn;have j0:(l.toArray)[i]?=some l[i]:=by simp[h1]
   simp only[j0];simp only[wpListIn] at d0
   split
   ·rename_i hw;simp only[hw,if_true] at d0;refine⟨d0.1,?_⟩;have h4:=d0.2
    revert h4
    generalize (Oper.semAt (fc r).round a.eval l[i]).run P w=z0;intro h4;cases z0 with
    | ok x w' =>
      cases x<;>simp only[Oper.uponIn] at h4 ⊢ <;>
       first
        | exact h4.2
        | exact⟨h4.1,CallsIn.mono h4.2 (fun e A0 he=>by
         cases e
         ·exact he.2
         ·exact absurd he.1 (by simp)
         ·obtain⟨a0,w0,hh⟩:=he;exact absurd hh.1 (by simp))⟩
        | exact⟨h4.1,RowsIn.mono h4.2 (fun _ _ he=>he.2)⟩
        | exact⟨h4.1,RoundIn.mono h4.2 (fun e A0 he=>by
         cases e
         ·exact he.2
         ·exact absurd he.1 (by simp)
         ·obtain⟨a0,w0,hh⟩:=he;exact absurd hh.1 (by simp))⟩
    | halt x w'=>cases x<;>simp only[Oper.uponIn] at h4 ⊢<;>exact absurd h4.1 (by simp)
   ·rename_i hw;simp only[hw] at d0;exact⟨d0.1,d0.2.2⟩
theorem b1a{ops:Array Oper}{rest:List Oper}{K:List Deferred→Env→World→Prop}{e:Env}{w:World}(i:Nat){v:Value}(hi:e i=v)(h:WL P r N ops rest K D (upd e i v) w):WL P r N ops rest K D e w:=by
 rwa [I9a e hi] at h
theorem H8b{id:Nat}{n t:List Deferred→Env→World→Prop}{b:Nat→List Deferred→Env→World→Prop}{e:Env}{w:World}(hm:P.follows .mixedOrders=true)
 (d0:((List.range l.length).all fun i=>(m1a l i).all fun j=>decide (j<i))=true) (I:(Nat→Bool)→Env→World→Prop) (h0:I (fun _=>false) e w.drew)
 (step:∀(f:Nat→Bool) (e:Env) (w:World) (i:Nat) (o:Oper),I f e w→l[i]?=some o→f i=false→(∀j∈m1a l i,f j=true) →
   WL P r N l.toArray [o] (fun D' e' w'=>D'=D∧I (fun j=>f j||j==i) e' w') D e w)
 (b0:∀(f:Nat→Bool) (e:Env) (w:World),I f e w→(∀i,i<l.length→f i=true)→n D e w):W P r N (.region id l.toArray true) ⟨n,b,t⟩ D e w:=by
 unfold W;intro a hs hd he;subst he;refine wpIn_region_any hm ?_;refine w5c d0 I step (fun f a w hs hd hI a0=>⟨hs,by rw[hd];exact b0 f _ w hI a0⟩) _ (fun _=>false) _ a w.drew (by simp) (fun i hi=>?_) ?_ hs hd h0
 ·unfold Lst;simp[hi]
 ·simpa using List.length_filter_le _ (List.range l.length)
end
def E2c:Op→Bool
 | .move _ | .assign _ | .pick _ _ _ | .load _ _ | .binOp _ _ _ _ _ | .unOp _ _ _ | .fieldAddr _ _ _ | .field _ _ _ | .indexAddr _ _ _ | .index _ _ _ | .extract _ _ | .build _ _ | .nilCheck _=>true
 | _=>false
theorem b8b{P:Program}{s:Result Value}{w':World}{n:Next}(h:s.andThen (fun a w'=>(Sem.run P (pure (Next.value a)) w'))=.ok n w'):∃v,n=.value v:=by
 cases s with
 | ok a w1=>simp at h;exact⟨a,h.1.symm⟩
 | halt x w1=>simp[Result.andThen] at h
theorem F1b{α:Type}{s:Result α}{f:α→World→Result Next}{w':World}{n:Next}(h:s.andThen f=.ok n w')(hf:∀a w,f a w=.ok n w'→∃v,n=.value v):∃v,n=.value v:=by
 cases s with
 | ok a w1=>exact hf a w1 (by simpa[Result.andThen] using h)
 | halt x w1=>simp[Result.andThen] at h
theorem j7a{P:Program}{ρ:Operand→Value}{o:Oper}{w w':World}{n:Next}(ho:E2c o.op=true)(h:(execOp ρ o).run P w=.ok n w'):∃v,n=.value v:=by
 obtain⟨_,op,_,_,_,_⟩:=o;simp only at ho;cases op<;>first|(cases ho;done)|skip
 all_goals simp only[execOp,Sem.run_bind] at h
 all_goals first
  | exact b8b h
  | (simp at h;exact⟨_,h.1.symm⟩)
  | (cases hb:(Sem.run P (asBool (ρ _)) w) with
     | ok a w1=>rw[hb] at h;simp at h;exact⟨_,h.1.symm⟩
     | halt x w1=>rw[hb] at h;simp[Result.andThen] at h)
  | (repeat' split at h
     all_goals first
      | (simp[Sem.run_pure] at h;exact⟨_,h.1.symm⟩)
      | (simp[runtimePanic] at h;done)
      | (simp only[Sem.run_bind] at h;exact F1b h (fun _ _ h=>by
       repeat' split at h
       all_goals (exact F1b h (fun _ _ h=>by simp at h;split at h<;>first|(simp at h;exact⟨_,h.1.symm⟩)|(simp at h;done))))))
section
variable {P:Program} {r:Option Nat} {N:Nat} {l:List Oper} {D:List Deferred} {C:World→Prop} {K:List Deferred→Env→World→Prop}
def PV(P:Program)(l:List Oper)(C:World→Prop)(o:Oper)(e:Env)(v:Value):Prop :=
 (g1a l.toArray e o=true∧∀w,C w→(execOp (ev e) o).run P w=.ok (.value v) w)∨(g1a l.toArray e o=false∧v=undef)
theorem PV.congr{o:Oper}{e e':Env}{v:Value}(hs:Op.isSelect o.op=false)(h:∀s∈Oper.looksAt l.toArray o,e s=e' s)(hp:PV P l C o e v):PV P l C o e' v:=by
 unfold PV at *;rw[←V0a h,←v1a hs h];exact hp
theorem PV.uniq{o:Oper}{e:Env}{v v':Value}{w:World}(hw:C w)(h:PV P l C o e v)(h':PV P l C o e v'):v=v':=by
 rcases h with⟨h1,h2⟩|⟨h1,h2⟩<;>rcases h' with⟨h3,h4⟩|⟨h3,h4⟩
 ·have:=(h2 w hw).symm.trans (h4 w hw);cases this;rfl
 ·rw[h1] at h3;cases h3
 ·rw[h1] at h3;cases h3
 ·rw[h2,h4]
def WM(P:Program)(r:Option Nat)(N:Nat)(l:List Oper)(C:World→Prop)(pur:Nat→Bool)(K:List Deferred→Env→World→Prop)(D:List Deferred):List Nat→Env→World→Prop
 | [],e,w=>C w∧K D e w
 | i::rest,e,w=>C w∧∃o d,l[i]?=some o∧o.dst=some d∧d<N ∧
  ((pur i=true∧∃v,PV P l C o e v∧WM P r N l C pur K D rest (upd e d v) w) ∨
   (pur i=false∧WL P r N l.toArray [o] (fun D' e' w'=>D'=D∧WM P r N l C pur K D rest e' w') D e w))
variable {pur:Nat→Bool}
theorem WM.inC{a0:List Nat}{e:Env}{w:World}(h:WM P r N l C pur K D a0 e w):C w:=by cases a0<;>exact h.1
theorem I2a(e:Env){c d:Nat}(u v:Value)(h:c≠d):upd (upd e c u) d v=upd (upd e d v) c u:=by
 funext i
 by_cases h1:i=c
 ·subst h1;rw[F1a _ _ h,j3a,j3a]
 ·by_cases h2:i=d
  ·subst h2;rw[j3a,F1a _ _ h1,j3a]
  ·rw[F1a _ _ h2,F1a _ _ h1,F1a _ _ h1,F1a _ _ h2]
theorem O6a(e:Env)(N:Nat)(D:List Deferred)(hz:∀i,N≤i→e i=undef):∃a:Act,a.tmps.size=N∧a.defers=D∧W0a a=e:=by
 refine⟨{ tmps:=Array.ofFn (n:=N) fun i=>e i.1,defers:=D },by simp,rfl,?_⟩
 funext i
 simp only[W0a,Array.getD_eq_getD_getElem?];by_cases hi:i<N
 ·simp[hi]
 ·simp[hi,hz i (by omega)]
theorem Q4a{o:Oper}{d:Nat}{K1:List Deferred→Env→World→Prop}{e e1:Env}{w:World}(hd:o.dst=some d)(hN:d<N)(j0:Op.isSelect o.op=false)(e0:∀c,o.op≠.defer c)(hz:∀i,N≤i→e1 i=undef)
 (b0:∀s∈Oper.looksAt l.toArray o,e s=e1 s) (h:WL P r N l.toArray [o] K1 D e1 w):WL P r N l.toArray [o] (fun D' e' w'=>∃v,e'=upd e d v∧K1 D' (upd e1 d v) w') D e w:=by
 unfold WL at *;intro a Q hs hD he hK;obtain⟨a1,i0,h0,f0⟩:=O6a e1 N D hz;have h1:=h a1 (fun ex a' w'=>ex=.normal∧K1 a'.defers (W0a a') w') i0 h0 f0 (fun a' w' _ hk=>⟨rfl,hk⟩);have hw:Region.wanted o (yielded l.toArray a.tmps)=Region.wanted o (yielded l.toArray a1.tmps):=by rw[s1a,s1a,he,f0];exact V0a b0
 have d0:∀(v:Value) (w':World),K1 (a1.put o.dst v).defers (W0a (a1.put o.dst v)) w'→Q .normal (a.put o.dst v) w':=by
  intro v w' hk;rw[hd] at hk ⊢;rw[e1a v (by rw[i0];exact hN),f0] at hk;refine hK _ _ (by simp[Act.put,hs]) ⟨v,by rw[e1a v (by rw[hs];exact hN),he],?_⟩;have e3:(a1.put (some d) v).defers=(a.put (some d) v).defers:=by simp[Act.put,h0,hD]
  rw[←e3];exact hk
 simp only[wpListIn] at h1 ⊢;rw[hw]
 split
 ·rename_i o0;simp only[o0,if_true] at h1;refine⟨D0a _ _ _,?_⟩;have h4:=h1.2;have n0:Oper.semAt (fc r).round a.eval o=Oper.semAt (fc r).round a1.eval o:=by
   rw[Oper.semAt_eq _ _ _ e0,Oper.semAt_eq _ _ _ e0,v2a,v2a,he,f0];exact v1a j0 b0
  rw[n0]
  revert h4
  generalize (Oper.semAt (fc r).round a1.eval o).run P w=q0;intro h4;cases q0 with
  | ok x w' =>
    cases x with
    | value v=>simp only[Oper.uponIn] at h4 ⊢;exact d0 v w' h4.2
    | skip=>simp only[Oper.uponIn] at h4 ⊢;exact d0 undef w' h4.2
    | defer dd =>
      simp only[Oper.uponIn] at h4 ⊢;have hk:=h4.2;rw[hd] at hk ⊢;have e5:({ a1 with defers:=dd::a1.defers }:Act).tmps.size=N:=i0;have p0:W0a ({ a1 with defers:=dd::a1.defers }:Act)=e1:=f0;have ee:W0a ({ a with defers:=dd::a.defers }:Act)=e:=he;rw[e1a (a:={ a1 with defers:=dd::a1.defers }) undef (by rw[e5];exact hN),p0] at hk;refine hK _ _ (by simp[Act.put,hs]) ⟨undef,by rw[e1a (a:={ a with defers:=dd::a.defers }) undef (by show d<a.tmps.size;rw[hs];exact hN),ee],?_⟩;have e3:(({ a1 with defers:=dd::a1.defers }:Act).put (some d) undef).defers=(({ a with defers:=dd::a.defers }:Act).put (some d) undef).defers:=by simp[Act.put,h0,hD]
      rw[←e3];exact hk
    | enter f args =>
      simp only[Oper.uponIn] at h4 ⊢;exact⟨h4.1,CallsIn.mono h4.2 (fun en r0 hh=>by
       cases en
       ·exact d0 _ _ hh.2
       ·exact absurd hh.1 (by simp)
       ·obtain⟨a0,w0,hh⟩:=hh;exact absurd hh.1 (by simp))⟩
    | row s0 args=>simp only[Oper.uponIn] at h4 ⊢;exact⟨h4.1,RowsIn.mono h4.2 (fun _ _ hh=>d0 _ _ hh.2)⟩
    | round l' f tmps g0 body =>
      simp only[Oper.uponIn] at h4 ⊢;exact⟨h4.1,RoundIn.mono h4.2 (fun en r0 hh=>by
       cases en
       ·exact d0 _ _ hh.2
       ·exact absurd hh.1 (by simp)
       ·obtain⟨a0,w0,hh⟩:=hh;exact absurd hh.1 (by simp))⟩
    | _=>simp only[Oper.uponIn] at h4
  | halt x w'=>cases x<;>simp only[Oper.uponIn] at h4 ⊢<;>exact absurd h4.1 (by simp)
 ·rename_i o0;simp only[o0] at h1;exact⟨D0a _ _ _,d0 undef w h1.2.2⟩
theorem m4c{o:Oper}{d:Nat}{K1:List Deferred→Env→World→Prop}{e:Env}{w:World}(hd:o.dst=some d)(hN:d<N)(hz:∀i,N≤i→e i=undef)
 (h:WL P r N l.toArray [o] K1 D e w):∃D' v w',K1 D' (upd e d v) w':=by
 unfold WL at h;obtain⟨a1,f0,g0,e0⟩:=O6a e N D hz;have h1:=h a1 (fun ex a' w'=>ex=.normal∧K1 a'.defers (W0a a') w') f0 g0 e0 (fun a' w' _ hk=>⟨rfl,hk⟩);have b0:∀(v:Value) (w':World),K1 (a1.put o.dst v).defers (W0a (a1.put o.dst v)) w'→∃D' v w',K1 D' (upd e d v) w':=by
  intro v w' hk;rw[hd,e1a v (by rw[f0];exact hN),e0] at hk;exact⟨_,v,w',hk⟩
 simp only[wpListIn] at h1
 split at h1
 ·have h4:=h1.2
  revert h4
  generalize (Oper.semAt (fc r).round a1.eval o).run P w=h0;intro h4;cases h0 with
  | ok x w' =>
    cases x with
    | value v=>simp only[Oper.uponIn] at h4;exact b0 v w' h4.2
    | skip=>simp only[Oper.uponIn] at h4;exact b0 undef w' h4.2
    | defer dd =>
      simp only[Oper.uponIn] at h4;have hk:=h4.2;rw[hd,e1a (a:={ a1 with defers:=dd::a1.defers }) undef (by show d<a1.tmps.size;rw[f0];exact hN),show W0a ({ a1 with defers:=dd::a1.defers }:Act)=e from e0] at hk;exact⟨_,_,_,hk⟩
    | enter f args =>
      simp only[Oper.uponIn] at h4;obtain⟨en,w2,_,hR,_⟩:=h4.2.2 [] (room_wide _);cases en
      ·exact b0 _ _ hR.2
      ·exact absurd hR.1 (by simp)
      ·obtain⟨a0,w0,hh⟩:=hR;exact absurd hh.1 (by simp)
    | row i0 args =>
      simp only[Oper.uponIn] at h4;obtain⟨v,w2,hR,_⟩:=h4.2 default [] (room_wide _);exact b0 _ _ hR.2
    | round l' f tmps d0 body =>
      simp only[Oper.uponIn] at h4;obtain⟨en,w2,hR,_⟩:=h4.2.2 default [] (room_wide _);cases en
      ·exact b0 _ _ hR.2
      ·exact absurd hR.1 (by simp)
      ·obtain⟨a0,w0,hh⟩:=hR;exact absurd hh.1 (by simp)
    | _=>simp only[Oper.uponIn] at h4
  | halt x w'=>cases x<;>simp only[Oper.uponIn] at h4<;>exact absurd h4.1 (by simp)
 ·exact b0 undef w h1.2.2
def z9a(l:List Oper)(pur:Nat→Bool)(j i:Nat):Bool :=
 match l[j]?,l[i]? with
 | some p,some q=>(pur i||pur j)&&(match p.dst,q.dst with
   | some c,some d=>!(c==d)&&!(Oper.looksAt l.toArray p).contains d&&!(Oper.looksAt l.toArray q).contains c
   | _,_=>false)
 | _,_=>false
def S4a(l:List Oper):Bool:=l.all fun o=>!Op.isSelect o.op&&!Op.isDefer o.op
theorem J0a(h:S4a l=true){i:Nat}{o:Oper}(ho:l[i]?=some o):Op.isSelect o.op=false∧∀c,o.op≠.defer c:=by
 have:=List.all_eq_true.1 h o (List.mem_of_getElem? ho);simp only[Bool.and_eq_true,Bool.not_eq_true'] at this;exact⟨this.1,fun c hc=>by rw[hc] at this;simp[Op.isDefer] at this⟩
theorem U8a{j i:Nat}{p q:Oper}{c d:Nat}(h:z9a l pur j i=true)(hj:l[j]?=some p)(hi:l[i]?=some q)(hc:p.dst=some c)(hd:q.dst=some d):
 (pur i=true∨pur j=true)∧c≠d∧d∉Oper.looksAt l.toArray p∧c∉Oper.looksAt l.toArray q:=by
 unfold z9a at h;simp only[hj,hi,hc,hd,Bool.and_eq_true,Bool.or_eq_true,Bool.not_eq_true',beq_eq_false_iff_ne,List.contains_eq_mem,decide_eq_false_iff_not] at h;exact⟨h.1,h.2.1.1,h.2.1.2,h.2.2⟩
theorem H1a{e:Env}{c:Nat}{u:Value}{s:Nat}{X:List Nat}(hc:c∉X)(hs:s∈X):upd e c u s=e s:=F1a _ _ (fun h=>hc (h▸hs))
theorem Q1a{e:Env}{d:Nat}{v:Value}(hN:d<N)(hz:∀i,N≤i→e i=undef):∀i,N≤i→upd e d v i=undef:=fun i hi=>by rw[F1a _ _ (by omega)];exact hz i hi
theorem WM.first(a0:S4a l=true){i:Nat}{i0:List Nat}:∀(f0:List Nat) (e:Env) (w:World),(∀j∈f0,z9a l pur j i=true)→(∀i,N≤i→e i=undef)→WM P r N l C pur K D (f0++i::i0) e w →
 ∃o d,l[i]?=some o∧o.dst=some d∧d<N ∧
  ((pur i=true∧∃v,PV P l C o e v∧WM P r N l C pur K D (f0++i0) (upd e d v) w) ∨
   (pur i=false∧WL P r N l.toArray [o] (fun D' e' w'=>D'=D∧∃v,e'=upd e d v∧WM P r N l C pur K D (f0++i0) e' w') D e w)):=by
 intro f0
 induction f0 with
 | nil =>
   intro e w _ hz h;obtain⟨hC,o,d,ho,hd,hN,h⟩:=h;refine⟨o,d,ho,hd,hN,?_⟩;rcases h with h|⟨hp,h⟩
   ·exact .inl h
   ·refine .inr ⟨hp,?_⟩;have h2:=Q4a (e:=e) (e1:=e) hd hN (J0a a0 ho).1 (J0a a0 ho).2 hz (fun _ _=>rfl) h;unfold WL at *;exact fun a Q hs hD he hK=>h2 a Q hs hD he (fun a' w' p0 ⟨v,h1,h3,h4⟩=>hK a' w' p0 ⟨h3,v,h1,by rw[h1];exact h4⟩)
 | cons q f0 ih =>
   intro e w n0 hz h;obtain⟨hC,p,c,hp,hc,e0,h⟩:=h;have hq:=n0 q (by simp);have b0:∀j∈f0,z9a l pur j i=true:=fun j hj=>n0 j (by simp[hj]);rcases h with⟨o0,u,hu,h⟩|⟨o0,h⟩
   ·obtain⟨o,d,ho,hd,hN,h2⟩:=ih (upd e c u) w b0 (Q1a e0 hz) h;obtain⟨_,r0,s0,j0⟩:=U8a hq hp ho hc hd;refine⟨o,d,ho,hd,hN,?_⟩;rcases h2 with⟨g0,v,hv,h2⟩|⟨g0,h2⟩
    ·refine .inl ⟨g0,v,hv.congr (J0a a0 ho).1 (fun s hs=>H1a j0 hs),hC,p,c,hp,hc,e0,.inl ⟨o0,u,hu.congr (J0a a0 hp).1 (fun s hs=>(H1a s0 hs).symm),?_⟩⟩;rw[←I2a _ _ _ r0];exact h2
    ·refine .inr ⟨g0,?_⟩;have h3:=Q4a (e:=e) (e1:=upd e c u) hd hN (J0a a0 ho).1 (J0a a0 ho).2 (Q1a e0 hz) (fun s hs=>(H1a j0 hs).symm) h2;unfold WL at *;refine fun a Q hs hD he hK=>h3 a Q hs hD he (fun a' w' p0 hh=>hK a' w' p0 ?_);obtain⟨v,h1,h4,v',h5,h6⟩:=hh;have C0:v=v':=by have:=congrFun h5 d;rwa [j3a,j3a] at this
     subst C0;refine⟨h4,v,h1,?_⟩;rw[h1];refine⟨h6.inC,p,c,hp,hc,e0,.inl ⟨o0,u,hu.congr (J0a a0 hp).1 (fun s hs=>(H1a s0 hs).symm),?_⟩⟩;rw[←I2a _ _ _ r0];exact h6
   ·have h0:=Q4a (e:=e) (e1:=e) hc e0 (J0a a0 hp).1 (J0a a0 hp).2 hz (fun _ _=>rfl) h;obtain⟨_,u1,w1,_,z0,_,h1⟩:=m4c hc e0 hz h0;rw[←z0] at h1;obtain⟨o,d,ho,hd,hN,h2⟩:=ih (upd e c u1) w1 b0 (Q1a e0 hz) h1;obtain⟨y0,r0,s0,j0⟩:=U8a hq hp ho hc hd;have g0:pur i=true:=by
     rcases y0 with h|h
     ·exact h
     ·rw[o0] at h;cases h
    rcases h2 with⟨_,v0,B0,_⟩|⟨d0,_⟩
    ·have q0:PV P l C o e v0:=B0.congr (J0a a0 ho).1 (fun s hs=>H1a j0 hs);refine⟨o,d,ho,hd,hN,.inl ⟨g0,v0,q0,hC,p,c,hp,hc,e0,.inr ⟨o0,?_⟩⟩⟩;have h3:=Q4a (e:=upd e d v0) (e1:=e) hc e0 (J0a a0 hp).1 (J0a a0 hp).2 hz (fun s hs=>H1a s0 hs) h;unfold WL at *;refine fun a Q hs hD he hK=>h3 a Q hs hD he (fun a' w' p0 hh=>hK a' w' p0 ?_);obtain⟨u,hu,t0,h4⟩:=hh;refine⟨t0,?_⟩;obtain⟨o',d',x0,u0,_,h5⟩:=ih (upd e c u) w' b0 (Q1a e0 hz) h4;obtain rfl:o'=o:=Option.some.inj (x0.symm.trans ho);obtain rfl:d'=d:=Option.some.inj (u0.symm.trans hd);rcases h5 with⟨_,v,hv,h5⟩|⟨d0,_⟩
     ·have A0:PV P l C o' e v:=hv.congr (J0a a0 ho).1 (fun s hs=>H1a j0 hs);obtain rfl:v=v0:=PV.uniq hC A0 q0;rw[hu,←I2a _ _ _ r0];exact h5
     ·rw[g0] at d0;cases d0
    ·rw[g0] at d0;cases d0
theorem v3a{f:Nat→Bool}(hc:∀i,f i=true→∀j∈m1a l i,f j=true):∀(k:Nat) (m:List Nat),(∀i∈m,f i=true)→∀i∈L2b l k m,f i=true:=by
 intro k
 induction k with
 | zero=>exact fun m h=>h
 | succ k ih =>
   intro m h;refine ih _ fun i hi=>?_;rw[List.mem_eraseDups,List.mem_append] at hi;rcases hi with hi|hi
   ·exact h i hi
   ·obtain⟨j,hj,a0⟩:=List.mem_flatMap.1 hi;exact hc j (h j hj) i a0
def s7c(l:List Oper)(pur:Nat→Bool):Bool :=
 S4a l&&((List.range l.length).all fun i=>(m1a l i).all fun j=>decide (j<i))&&((List.range l.length).all fun i=>(List.range i).all fun j=>(j4a l i).contains j||z9a l pur j i)
def r3b(l:List Oper)(f:Nat→Bool):List Nat:=(List.range l.length).filter fun i=>!f i
theorem e9b(f:Nat→Bool){i:Nat}(hi:i<l.length)(hf:f i=false):∃b0 a0,r3b l f=b0++i::a0∧r3b l (fun j=>f j||j==i)=b0++a0∧∀j∈b0,j<i∧f j=false:=by
 have hr:List.range l.length=List.range i++i::(List.range' (i+1) (l.length-(i+1))):=by
  have h1:l.length=i+(l.length-i):=by omega
  have h2:l.length-i=(l.length-(i+1))+1:=by omega
  rw[List.range_eq_range',List.range_eq_range',show List.range' 0 l.length=List.range' 0 (i+((l.length-(i+1))+1)) by rw[←h2,←h1],←List.range'_append_1];simp[List.range'_succ]
 refine⟨(List.range i).filter fun j=>!f j,(List.range' (i+1) (l.length-(i+1))).filter fun j=>!f j,?_,?_,?_⟩
 ·unfold r3b;rw[hr,List.filter_append,List.filter_cons];simp[hf]
 ·unfold r3b;rw[hr,List.filter_append,List.filter_cons];simp only[beq_self_eq_true,Bool.or_true,Bool.not_true,Bool.false_eq_true,if_false]
  congr 1
  ·apply List.filter_congr;intro j hj;have:=List.mem_range.1 hj;have:(j==i)=false:=by simp;omega
   simp[this]
  ·apply List.filter_congr;intro j hj;have:=List.mem_range'.1 hj;have:(j==i)=false:=by simp;omega
   simp[this]
 ·intro j hj;rw[List.mem_filter] at hj;exact⟨List.mem_range.1 hj.1,by simpa using hj.2⟩
theorem P9c{id:Nat}{n t:List Deferred→Env→World→Prop}{b:Nat→List Deferred→Env→World→Prop}{e:Env}{w:World}(hm:P.follows .mixedOrders=true)(pur:Nat→Bool)(ix:List Nat)
 (e0:s7c l pur=true) (r0:(List.range l.length==ix)=true) (C:World→Prop) (h:WM P r N l C pur n D ix e w.drew):W P r N (.region id l.toArray true) ⟨n,b,t⟩ D e w:=by
 obtain rfl:List.range l.length=ix:=eq_of_beq r0;unfold s7c at e0;simp only[Bool.and_eq_true] at e0;obtain⟨⟨h0,o0⟩,q0⟩:=e0;have hz:(∀i,N≤i→e i=undef)→W P r N (.region id l.toArray true) ⟨n,b,t⟩ D e w:=by
  intro hz;refine H8b hm o0 (fun f e w=>(∀i,N≤i→e i=undef)∧(∀i,f i=true→∀j∈m1a l i,f j=true)∧WM P r N l C pur n D (r3b l f) e w) ⟨hz,by simp,?_⟩ ?_ ?_
  ·have:r3b l (fun _=>false)=List.range l.length:=by unfold r3b;simp
   rw[this];exact h
  ·rintro f e w i o ⟨hz,d0,hM⟩ ho p0 i0;have g0:i<l.length:=(List.getElem?_eq_some_iff.1 ho).1;obtain⟨x0,_,h1,h2,h3⟩:=e9b (l:=l) f g0 p0;rw[h1] at hM;have v0:∀j∈j4a l i,f j=true:=v3a d0 _ _ i0;obtain⟨o',_,s0,hd,hN,h4⟩:=WM.first h0 x0 e w (fun j hj=>by
    have:=List.all_eq_true.1 (List.all_eq_true.1 q0 i (List.mem_range.2 g0)) j (List.mem_range.2 (h3 j hj).1);simp only[Bool.or_eq_true,List.contains_eq_mem,decide_eq_true_eq] at this;rcases this with h|h
    ·have:=v0 j h;rw[(h3 j hj).2] at this;cases this
    ·exact h) hz hM
   obtain rfl:o'=o:=Option.some.inj (s0.symm.trans ho);have a0:∀k,(f k||k==i)=true→∀j∈m1a l k,(f j||j==i)=true:=by
    intro k hk j hj;simp only[Bool.or_eq_true,beq_iff_eq] at hk ⊢;rcases hk with hk|rfl
    ·exact .inl (d0 k hk j hj)
    ·exact .inl (i0 j hj)
   rcases h4 with⟨t0,v,hv,h4⟩|⟨t0,h4⟩
   ·have j0:=hM.inC;rcases hv with⟨hw,hv⟩|⟨hw,rfl⟩
    ·unfold WL;intro a Q hs hD he hK;simp only[wpListIn];have f0:Region.wanted o' (yielded l.toArray a.tmps)=true:=by rw[s1a,he];exact hw
     simp only[f0,if_true];refine⟨D0a _ _ _,?_⟩;rw[Oper.semAt_eq _ _ _ (J0a h0 ho).2,v2a,he,hv w j0,Oper.uponIn_value];refine hK _ _ (by simp[Act.put,hd,hs]) ⟨by simp[Act.put,hd,hD],?_⟩;rw[hd,e1a v (by rw[hs];exact hN),he];exact⟨Q1a hN hz,a0,by rw[h2];exact h4⟩
    ·unfold WL;intro a Q hs hD he hK;simp only[wpListIn];have f0:Region.wanted o' (yielded l.toArray a.tmps)=false:=by rw[s1a,he];exact hw
     simp only[f0];refine⟨D0a _ _ _,?_⟩;refine hK _ _ (by simp[Act.put,hd,hs]) ⟨by simp[Act.put,hd,hD],?_⟩;rw[hd,e1a undef (by rw[hs];exact hN),he];exact⟨Q1a hN hz,a0,by rw[h2];exact h4⟩
   ·unfold WL at *;refine fun a Q hs hD he hK=>h4 a Q hs hD he (fun a' w' u0 hh=>hK a' w' u0 ?_);obtain⟨n0,v,hv,h5⟩:=hh;exact⟨n0,by rw[hv];exact Q1a hN hz,a0,by rw[h2];exact h5⟩
  ·rintro f e w ⟨hz,d0,hM⟩ b0;have:r3b l f=[]:=by
    unfold r3b;rw[List.filter_eq_nil_iff];intro i hi;simp[b0 i (List.mem_range.1 hi)]
   rw[this] at hM;exact hM.2
 unfold W at *;intro a hs hd he;refine hz (fun i hi=>?_) a hs hd he;rw[←he];simp only[W0a,Array.getD_eq_getD_getElem?];rw[Array.getElem?_eq_none (by omega)];rfl
theorem K1c{id:Nat}{n t:List Deferred→Env→World→Prop}{b:Nat→List Deferred→Env→World→Prop}{e:Env}{w:World}(hm:P.follows .mixedOrders=true)(pur:Nat→Bool)(ix:List Nat)
 (b0:s7c l pur=true) (a0:(List.range l.length==ix)=true) (C:World→Prop) (hC:C w.drew) (h:∀w1,C w1→WM P r N l C pur n D ix e w1):W P r N (.region id l.toArray true) ⟨n,b,t⟩ D e w :=
 P9c hm pur ix b0 a0 C (h _ hC)
theorem j5a{e:Env}{w:World}(hC:C w)(h:K D e w):WM P r N l C pur K D [] e w:=⟨hC,h⟩
theorem z1a{i:Nat}{rest:List Nat}{e:Env}{w:World}{o:Oper}(hC:C w)(hp:pur i=true)(ho:l[i]?=some o)(hv:E2c o.op=true)(h:QL P N l.toArray C [o] (fun e'=>WM P r N l C pur K D rest e' w) e):WM P r N l C pur K D (i::rest) e w:=by
 unfold QL at h;obtain⟨pa,hl,hq,hk⟩:=h;obtain⟨d,v,h1,h2,h3,h4⟩:=hq 0 o rfl;obtain rfl:pa=[(d,v)]:=by
  match pa,hl,h1 with
  | [x],_,h1=>simpa using h1
 refine⟨hC,o,d,ho,h2,h3,.inl ⟨hp,v,?_,hk⟩⟩;rcases h4 with⟨h5,h6⟩|h5
 ·refine .inl ⟨h5,fun w hw=>?_⟩;rcases h6 w hw with h7|⟨f,args,h7,_⟩
  ·exact h7
  ·obtain⟨_,a0⟩:=j7a hv h7;cases a0
 ·exact .inr h5
theorem q8a{i d:Nat}{rest:List Nat}{e:Env}{w:World}{o:Oper}(hC:C w)(hp:pur i=false)(ho:l[i]?=some o)(hd:o.dst=some d)(hN:Nat.ble (d+1) N=true)
 (h:WL P r N l.toArray [o] (fun D' e' w'=>D'=D∧WM P r N l C pur K D rest e' w') D e w):WM P r N l C pur K D (i::rest) e w :=
 ⟨hC,o,d,ho,hd,Nat.le_of_ble_eq_true hN,.inr ⟨hp,h⟩⟩
end
structure E where
 op:Int
 w:Int
 n:Int
 kids:List E
theorem E.induct{C:E→Prop}(h:∀e,(∀k∈e.kids,C k)→C e):∀e,C e:=by
 have key:∀(n:Nat) (e:E),SizeOf.sizeOf e≤n→C e:=by
  intro n
  induction n with
  | zero=>intro e he;cases e;simp at he
  | succ n ih =>
    intro e he;refine h e fun k hk=>ih k ?_;have h1:=List.sizeOf_lt_of_mem hk;cases e;simp at he h1;omega
 exact fun e=>key _ e (Nat.le_refl _)
def RdE(M:List Nat)(w:World)(e:E)(cs:List Value):Prop :=
 ∃A n c,cs=[.int .i64 e.op,.int .i64 e.w,.int .i64 e.n,.slice A n c]∧i64 e.op∧i64 e.w∧i64 e.n∧n=e.kids.length∧n≤c∧c≤maxLen∧n≤140737488355328 ∧
  (0<n→∃b o,A=some ⟨b,o,none⟩∧b∉M∧∀(i:Nat) (h:i<e.kids.length),∃cs',t1a w b (o+i*4) cs'∧RdE M w e.kids[i] cs')
termination_by SizeOf.sizeOf e
decreasing_by
 have h1:=List.sizeOf_lt_of_mem (List.getElem_mem h);cases e;simp at h1 ⊢;omega
theorem RdE.length{M:List Nat}{w:World}{e:E}{cs:List Value}(h:RdE M w e cs):cs.length=4:=by
 rw[RdE] at h;obtain⟨_,_,_,rfl,_⟩:=h;rfl
theorem RdE.keep{M:List Nat}{w w':World}(hk:y0a M w w'):∀(e:E) (cs:List Value),RdE M w e cs→RdE M w' e cs:=by
 intro e
 induction e using E.induct with
 | _ e ih =>
   intro cs h;rw[RdE] at h ⊢;obtain⟨A,n,c,h1,h2,h3,h4,h5,h6,h7,h8,h9⟩:=h;refine⟨A,n,c,h1,h2,h3,h4,h5,h6,h7,h8,fun hn=>?_⟩;obtain⟨b,o,hA,hb,b0⟩:=h9 hn;refine⟨b,o,hA,hb,fun i hi=>?_⟩;obtain⟨a0,hc,hr⟩:=b0 i hi;exact⟨a0,hc.keep hk hb,ih _ (List.getElem_mem hi) a0 hr⟩
theorem RdE.less{M M':List Nat}{w:World}(hM:∀g∈M',g∈M):∀(e:E) (cs:List Value),RdE M w e cs→RdE M' w e cs:=by
 intro e
 induction e using E.induct with
 | _ e ih =>
   intro cs h;rw[RdE] at h ⊢;obtain⟨A,n,c,h1,h2,h3,h4,h5,h6,h7,h8,h9⟩:=h;refine⟨A,n,c,h1,h2,h3,h4,h5,h6,h7,h8,fun hn=>?_⟩;obtain⟨b,o,hA,hb,b0⟩:=h9 hn;refine⟨b,o,hA,fun hh=>hb (hM b hh),fun i hi=>?_⟩;obtain⟨a0,hc,hr⟩:=b0 i hi;exact⟨a0,hc,ih _ (List.getElem_mem hi) a0 hr⟩
theorem RdE.more{M M':List Nat}{w:World}(hM:∀g∈M',g∈M∨w.heap.size≤g):∀(e:E) (cs:List Value),RdE M w e cs→RdE M' w e cs:=by
 intro e
 induction e using E.induct with
 | _ e ih =>
   intro cs h;rw[RdE] at h ⊢;obtain⟨A,n,c,h1,h2,h3,h4,h5,h6,h7,h8,h9⟩:=h;refine⟨A,n,c,h1,h2,h3,h4,h5,h6,h7,h8,fun hn=>?_⟩;obtain⟨b,o,hA,hb,b0⟩:=h9 hn;refine⟨b,o,hA,fun hh=>?_,fun i hi=>?_⟩
   ·rcases hM b hh with h|h
    ·exact hb h
    ·obtain⟨a0,hc,hr⟩:=b0 0 (by omega);have hl:=hr.length;have:=World.block_lt_of_cell? w _ (hc 0 a0[0] (List.getElem?_eq_getElem (by omega)));simp at this;omega
   ·obtain⟨a0,hc,hr⟩:=b0 i hi;exact⟨a0,hc,ih _ (List.getElem_mem hi) a0 hr⟩
theorem RdE.open_{M:List Nat}{w:World}{e:E}{cs:List Value}(h:RdE M w e cs):
 ∃A n c,cs=[.int .i64 e.op,.int .i64 e.w,.int .i64 e.n,.slice A n c]∧i64 e.op∧i64 e.w∧i64 e.n∧n=e.kids.length∧n≤c∧c≤maxLen∧n≤140737488355328 ∧
 (0<n→∃b o,A=some ⟨b,o,none⟩∧b∉M∧∀(i:Nat) (h:i<e.kids.length),∃a0,t1a w b (o+i*4) a0∧RdE M w e.kids[i] a0):=by
 rw[RdE] at h;exact h
mutual
def E.cnt:E→Nat
 | ⟨_,_,_,ks⟩=>E.cnts ks+1
def E.cnts:List E→Nat
 | []=>0
 | k::ks=>E.cnt k+E.cnts ks
end
mutual
def E.size:E→Int→Int
 | ⟨_,_,_,ks⟩,lim=>if lim≤0 then 0 else E.sizes ks lim 1
def E.sizes:List E→Int→Int→Int
 | [],_,n=>n
 | k::ks,lim,n=>if n<lim then E.sizes ks lim (n+E.size k (lim-n)) else n
end
theorem E.size_def(e:E)(a0:Int):e.size a0=if a0≤0 then 0 else E.sizes e.kids a0 1:=by cases e;simp only[E.size]
theorem E.cnt_def(e:E):e.cnt=E.cnts e.kids+1:=by cases e;simp only[E.cnt]
theorem E.cnt_pos(e:E):1≤e.cnt:=by cases e;simp[E.cnt]
theorem E.size_eq:∀(e:E) (a0:Int),0≤a0→e.size a0=min (e.cnt:Int) a0:=by
 intro e
 induction e using E.induct with
 | _ e ih =>
   obtain⟨_,_,n,ks⟩:=e;intro a0 hl;have key:∀(ks:List E),(∀k∈ks,∀a0:Int,0≤a0→k.size a0=min (k.cnt:Int) a0)→∀(a0 n:Int),0≤n→n≤a0→E.sizes ks a0 n=min (n+(E.cnts ks:Int)) a0:=by
    intro ks
    induction ks with
    | nil=>intro _ a0 n h0 h1;simp only[E.sizes,E.cnts];omega
    | cons k ks g0 =>
      intro hk a0 n h0 h1;have e0:=hk k (by simp) (a0-n) (by omega);have f0:=E.cnt_pos k;simp only[E.sizes,E.cnts];by_cases b0:n<a0
      ·rw[if_pos b0,e0,g0 (fun k' d0=>hk k' (by simp[d0])) a0 _ (by omega) (by omega)];omega
      ·rw[if_neg b0];omega
   simp only[E.size,E.cnt];by_cases h0:a0≤0
   ·rw[if_pos h0];omega
   ·rw[if_neg h0,key ks (fun k hk=>ih k hk) a0 1 (by omega) (by omega)];omega
theorem E.sizes_stop(ks:List E)(k:Nat)(a0 nn:Int)(h:ks.length≤k∨a0≤nn):E.sizes (ks.drop k) a0 nn=nn:=by
 rcases h with h|h
 ·rw[List.drop_eq_nil_of_le h];simp only[E.sizes]
 ·cases hd:ks.drop k with
  | nil=>simp only[E.sizes]
  | cons x xs=>simp only[E.sizes];rw[if_neg (by omega)]
theorem E.size_le(e:E)(a0:Int)(h:0≤a0):0≤e.size a0∧e.size a0≤a0:=by
 rw[E.size_eq e a0 h];omega
def G3a:Nat→Int
 | 0=>1
 | n+1=>G3a n*2
theorem I7a(n:Nat):0<G3a n:=by
 induction n with
 | zero=>decide
 | succ n ih=>simp only[G3a];omega
theorem g6c(n m:Nat)(h:n≤m):G3a n≤G3a m:=by
 induction m with
 | zero=>simp at h;subst h;exact Int.le_refl _
 | succ m ih =>
   by_cases e:n=m+1
   ·subst e;exact Int.le_refl _
   ·have:=ih (by omega);have:=I7a m;simp only[G3a];omega
def n8a(op:Int):Int:=if 1≤op∧op≤3 then 0 else if op=4 then 1 else if 5≤op∧op≤13 then 2 else if op=14 then 3 else -1
theorem h2a(op:Int):(1≤op∧op≤3∧n8a op=0)∨(op=4∧n8a op=1)∨(5≤op∧op≤13∧n8a op=2)∨(op=14∧n8a op=3)∨((op<1∨14<op)∧n8a op=-1):=by
 unfold n8a;by_cases h1:1≤op∧op≤3
 ·rw[if_pos h1];omega
 ·rw[if_neg h1];by_cases h2:op=4
  ·rw[if_pos h2];omega
  ·rw[if_neg h2];by_cases h3:5≤op∧op≤13
   ·rw[if_pos h3];omega
   ·rw[if_neg h3];by_cases h4:op=14
    ·rw[if_pos h4];omega
    ·rw[if_neg h4];omega
def E.kw(e:E)(i:Nat):Int:=((e.kids[i]?).map E.w).getD 0
def E.Shape(e:E):Prop :=
 1≤e.w∧e.w≤8∧((e.op=1∧e.kids.length=0∧0≤e.n∧e.n<G3a e.w.toNat)∨((e.op=2∨e.op=3)∧e.kids.length=0∧0≤e.n∧e.n<32) ∨
  (e.op=4∧e.kids.length=1∧e.n=0∧e.kw 0=e.w)∨(5≤e.op∧e.op≤10∧e.kids.length=2∧e.n=0∧e.kw 0=e.w∧e.kw 1=e.w) ∨
  (11≤e.op∧e.op≤13∧e.kids.length=2∧e.n=0∧e.w=1∧e.kw 0=e.kw 1)∨(e.op=14∧e.kids.length=3∧e.n=0∧e.kw 0=1∧e.kw 1=e.w∧e.kw 2=e.w))
instance (e:E):Decidable e.Shape:=by unfold E.Shape;infer_instance
def E.shapeB(e:E):Bool:=decide e.Shape
theorem y8a{e:E}(h:e.Shape):Value.bool true=.bool e.shapeB:=by unfold E.shapeB;rw[decide_eq_true h]
theorem k6a{e:E}(h:¬e.Shape):Value.bool false=.bool e.shapeB:=by unfold E.shapeB;rw[decide_eq_false h]
theorem O5b{e:E}(h:e.op=1):e.Shape↔(1≤e.w∧e.w≤8∧e.kids.length=0∧0≤e.n∧e.n<G3a e.w.toNat):=by
 unfold E.Shape;constructor
 ·rintro⟨h1,h2,h3⟩;rcases h3 with h3|h3|h3|h3|h3|h3<;>first|exact⟨h1,h2,h3.2⟩|(exfalso;omega)
 ·rintro⟨h1,h2,h3⟩;exact⟨h1,h2,.inl ⟨h,h3⟩⟩
theorem f5a{e:E}(h:e.op=2∨e.op=3):e.Shape↔(1≤e.w∧e.w≤8∧e.kids.length=0∧0≤e.n∧e.n<32):=by
 unfold E.Shape;constructor
 ·rintro⟨h1,h2,h3⟩;rcases h3 with h3|h3|h3|h3|h3|h3<;>first|exact⟨h1,h2,h3.2⟩|(exfalso;omega)
 ·rintro⟨h1,h2,h3⟩;exact⟨h1,h2,.inr (.inl ⟨h,h3⟩)⟩
theorem f5b{e:E}(h:e.op=4):e.Shape↔(1≤e.w∧e.w≤8∧e.kids.length=1∧e.n=0∧e.kw 0=e.w):=by
 unfold E.Shape;constructor
 ·rintro⟨h1,h2,h3⟩;rcases h3 with h3|h3|h3|h3|h3|h3<;>first|exact⟨h1,h2,h3.2⟩|(exfalso;omega)
 ·rintro⟨h1,h2,h3⟩;exact⟨h1,h2,.inr (.inr (.inl ⟨h,h3⟩))⟩
theorem T5a{e:E}(h:5≤e.op∧e.op≤10):e.Shape↔(1≤e.w∧e.w≤8∧e.kids.length=2∧e.n=0∧e.kw 0=e.w∧e.kw 1=e.w):=by
 unfold E.Shape;constructor
 ·rintro⟨h1,h2,h3⟩;rcases h3 with h3|h3|h3|h3|h3|h3<;>first|exact⟨h1,h2,h3.2.2⟩|(exfalso;omega)
 ·rintro⟨h1,h2,h3⟩;exact⟨h1,h2,.inr (.inr (.inr (.inl ⟨h.1,h.2,h3⟩)))⟩
theorem T6a{e:E}(h:11≤e.op∧e.op≤13):e.Shape↔(e.kids.length=2∧e.n=0∧e.w=1∧e.kw 0=e.kw 1):=by
 unfold E.Shape;constructor
 ·rintro⟨_,_,h3⟩;rcases h3 with h3|h3|h3|h3|h3|h3<;>first|exact h3.2.2|(exfalso;omega)
 ·intro h3;exact⟨by omega,by omega,.inr (.inr (.inr (.inr (.inl ⟨h.1,h.2,h3⟩))))⟩
theorem Y1b{e:E}(h:e.op=14):e.Shape↔(1≤e.w∧e.w≤8∧e.kids.length=3∧e.n=0∧e.kw 0=1∧e.kw 1=e.w∧e.kw 2=e.w):=by
 unfold E.Shape;constructor
 ·rintro⟨h1,h2,h3⟩;rcases h3 with h3|h3|h3|h3|h3|h3<;>first|exact⟨h1,h2,h3.2⟩|(exfalso;omega)
 ·rintro⟨h1,h2,h3⟩;exact⟨h1,h2,.inr (.inr (.inr (.inr (.inr ⟨h,h3⟩))))⟩
theorem Q5a{e:E}(h:e.Shape):1≤e.w∧e.w≤8∧n8a e.op=e.kids.length∧1≤e.op∧e.op≤14:=by
 have ha:=h2a e.op;obtain⟨h1,h2,h3⟩:=h;refine⟨h1,h2,?_⟩;rcases h3 with⟨h4,h5,_⟩|⟨h4,h5,_⟩|⟨h4,h5,_⟩|⟨h4,a0,h5,_⟩|⟨h4,a0,h5,_⟩|⟨h4,h5,_⟩<;>omega
theorem SN{e:E}(h:¬(1≤e.w∧e.w≤8∧n8a e.op=e.kids.length∧1≤e.op∧e.op≤14)):Value.bool false=.bool e.shapeB:=k6a (fun x=>h (Q5a x))
theorem ST1{e:E}(h:e.op=1)(g:1≤e.w∧e.w≤8∧e.kids.length=0∧0≤e.n∧e.n<G3a e.w.toNat):Value.bool true=.bool e.shapeB:=y8a ((O5b h).2 g)
theorem SF1{e:E}(h:e.op=1)(g:¬(1≤e.w∧e.w≤8∧e.kids.length=0∧0≤e.n∧e.n<G3a e.w.toNat)):Value.bool false=.bool e.shapeB:=k6a (fun x=>g ((O5b h).1 x))
theorem ST2{e:E}(h:e.op=2∨e.op=3)(g:1≤e.w∧e.w≤8∧e.kids.length=0∧0≤e.n∧e.n<32):Value.bool true=.bool e.shapeB:=y8a ((f5a h).2 g)
theorem SF2{e:E}(h:e.op=2∨e.op=3)(g:¬(1≤e.w∧e.w≤8∧e.kids.length=0∧0≤e.n∧e.n<32)):Value.bool false=.bool e.shapeB:=k6a (fun x=>g ((f5a h).1 x))
theorem ST4{e:E}(h:e.op=4)(g:1≤e.w∧e.w≤8∧e.kids.length=1∧e.n=0∧e.kw 0=e.w):Value.bool true=.bool e.shapeB:=y8a ((f5b h).2 g)
theorem SF4{e:E}(h:e.op=4)(g:¬(1≤e.w∧e.w≤8∧e.kids.length=1∧e.n=0∧e.kw 0=e.w)):Value.bool false=.bool e.shapeB:=k6a (fun x=>g ((f5b h).1 x))
theorem ST5{e:E}(h:5≤e.op∧e.op≤10)(g:1≤e.w∧e.w≤8∧e.kids.length=2∧e.n=0∧e.kw 0=e.w∧e.kw 1=e.w):Value.bool true=.bool e.shapeB:=y8a ((T5a h).2 g)
theorem SF5{e:E}(h:5≤e.op∧e.op≤10)(g:¬(1≤e.w∧e.w≤8∧e.kids.length=2∧e.n=0∧e.kw 0=e.w∧e.kw 1=e.w)):Value.bool false=.bool e.shapeB:=k6a (fun x=>g ((T5a h).1 x))
theorem u8c{e:E}(h:11≤e.op∧e.op≤13)(g:e.kids.length=2∧e.n=0∧e.w=1∧e.kw 0=e.kw 1):Value.bool true=.bool e.shapeB:=y8a ((T6a h).2 g)
theorem s3b{e:E}(h:11≤e.op∧e.op≤13)(g:¬(e.kids.length=2∧e.n=0∧e.w=1∧e.kw 0=e.kw 1)):Value.bool false=.bool e.shapeB:=k6a (fun x=>g ((T6a h).1 x))
theorem H1d{e:E}(h:e.op=14)(g:1≤e.w∧e.w≤8∧e.kids.length=3∧e.n=0∧e.kw 0=1∧e.kw 1=e.w∧e.kw 2=e.w):Value.bool true=.bool e.shapeB:=y8a ((Y1b h).2 g)
theorem V8c{e:E}(h:e.op=14)(g:¬(1≤e.w∧e.w≤8∧e.kids.length=3∧e.n=0∧e.kw 0=1∧e.kw 1=e.w∧e.kw 2=e.w)):Value.bool false=.bool e.shapeB:=k6a (fun x=>g ((Y1b h).1 x))
theorem G1a{M:List Nat}{w:World}{e:E}{b o:Nat}(b0:∀(i:Nat) (h:i<e.kids.length),∃a0,t1a w b (o+i*4) a0∧RdE M w e.kids[i] a0)(i:Nat)(hi:i<e.kids.length):
 w.cell? ⟨b,o+i*4+1,none⟩=some (.int .i64 (e.kw i)):=by
 obtain⟨a0,hc,hr⟩:=b0 i hi;obtain⟨_,_,_,rfl,_⟩:=hr.open_;have:=hc 1 _ rfl;rw[this];simp[E.kw,hi]
mutual
def E.good:E→Int→Bool
 | ⟨op,w,n,ks⟩,lim=>decide (1≤lim)&&E.shapeB ⟨op,w,n,ks⟩&&E.goods ks (lim-1)
def E.goods:List E→Int→Bool
 | [],_=>true
 | k::ks,lim=>E.good k lim&&E.goods ks lim
end
theorem E.good_def(e:E)(a0:Int):e.good a0=(decide (1≤a0)&&e.shapeB&&E.goods e.kids (a0-1)):=by cases e;simp only[E.good]
theorem E.goods_iff(ks:List E)(a0:Int):E.goods ks a0=true↔∀k∈ks,k.good a0=true:=by
 induction ks with
 | nil=>simp[E.goods]
 | cons k ks ih=>simp[E.goods,ih]
def E.wf(e:E):Bool:=decide (e.cnt≤600)&&e.good 40
structure w2a where
 name:ByteArray
 w:Int
 init:Int
 thread:Int
 ghost:Bool
 module_:Int
def F2a(cs:List Value)(c:w2a):Prop:=cs=[.string c.name,.int .i64 c.w,.int .i64 c.init,.int .i64 c.thread,.bool c.ghost,.int .i64 c.module_]∧i64 c.w∧i64 c.init∧i64 c.thread∧i64 c.module_
abbrev q7c(M:List Nat)(w:World)(v:Value)(l:List w2a):Prop:=RdS M w 6 F2a v l
def wAt(cells:List w2a)(n:Int):Int:=if 0≤n then((cells[n.toNat]?).map w2a.w).getD (-1) else -1
def E.OverN(e:E)(cells:List w2a)(pair:Bool):Prop :=
 (e.op=3→pair=true)∧((e.op=3∨e.op=2)→e.n<cells.length∧wAt cells e.n=e.w)
instance (e:E) (cells:List w2a) (pair:Bool):Decidable (e.OverN cells pair):=by unfold E.OverN;infer_instance
mutual
def E.over(cells:List w2a)(pair:Bool):E→Bool
 | ⟨op,w,n,ks⟩=>decide (E.OverN ⟨op,w,n,ks⟩ cells pair)&&E.overs cells pair ks
def E.overs(cells:List w2a)(pair:Bool):List E→Bool
 | []=>true
 | k::ks=>E.over cells pair k&&E.overs cells pair ks
end
theorem E.over_def(cells:List w2a)(a0:Bool)(e:E):e.over cells a0=(decide (e.OverN cells a0)&&E.overs cells a0 e.kids):=by cases e;simp only[E.over]
theorem E.overs_iff(cells:List w2a)(a0:Bool)(ks:List E):E.overs cells a0 ks=true↔∀k∈ks,k.over cells a0=true:=by
 induction ks with
 | nil=>simp[E.overs]
 | cons k ks ih=>simp[E.overs,ih]
def E.valid(cells:List w2a)(pair:Bool)(e:E):Bool:=e.wf&&e.over cells pair
section
variable {α:Type}
theorem RdS.keepW{M:List Nat}{w w':World}{size:Nat}{R R':List Value→α→Prop}{v:Value}{l:List α}(h:RdS M w size R v l)(hk:y0a M w w')(hR:∀cs x,R cs x→R' cs x):RdS M w' size R' v l:=(h.keep hk).mono hR
theorem RdS.lessW{M M':List Nat}{w:World}{size:Nat}{R R':List Value→α→Prop}{v:Value}{l:List α}(h:RdS M w size R v l)(hM:∀g∈M',g∈M)(hR:∀cs x,R cs x→R' cs x):RdS M' w size R' v l:=(h.less hM).mono hR
theorem RdS.moreW{M M':List Nat}{w:World}{size:Nat}{R R':List Value→α→Prop}{v:Value}{l:List α}(h:RdS M w size R v l)(hs:0<size)(hM:∀g∈M',g∈M∨w.heap.size≤g)(hR:∀cs x,R cs x→R' cs x):RdS M' w size R' v l:=(h.more hs hM).mono hR
end
structure L1a where
 cell:Int
 to:E
structure y1a where
 kind:Int
 frm:Int
 to:Int
 guard:E
 set:List L1a
 release:Bool
 target:Int
 module_:Int
structure c6b where
 head:Int
 body:List Int
 variant:E
structure X0a where
 name:ByteArray
 points:Int
 asserts:List E
 modules:List Int
 steps:List y1a
 loops:List c6b
 asleep:Bool
structure v4a where
 name:ByteArray
 owner:ByteArray
 rely:E
 guar:E
 frame:List Int
structure B5b where
 cell:Int
 inv:E
 module_:Int
structure f0a where
 cells:List w2a
 modules:List v4a
 locks:List B5b
 threads:List X0a
abbrev V9c(M:List Nat)(w:World)(v:Value)(l:List E):Prop:=RdS M w 4 (fun cs e=>RdE M w e cs) v l
def U0a(M:List Nat)(w:World)(cs:List Value)(a:L1a):Prop:=∃ce,cs=.int .i64 a.cell::ce∧i64 a.cell∧RdE M w a.to ce
abbrev k5c(M:List Nat)(w:World)(v:Value)(l:List L1a):Prop:=RdS M w 5 (U0a M w) v l
def q2a(M:List Nat)(w:World)(cs:List Value)(s:y1a):Prop:=∃g0 g1 g2 g3 vs,cs=[.int .i64 s.kind,.int .i64 s.frm,.int .i64 s.to,g0,g1,g2,g3,vs,.bool s.release,.int .i64 s.target,.int .i64 s.module_] ∧
 i64 s.kind∧i64 s.frm∧i64 s.to∧i64 s.target∧i64 s.module_∧RdE M w s.guard [g0,g1,g2,g3]∧k5c M w vs s.set
abbrev E0d(M:List Nat)(w:World)(v:Value)(l:List y1a):Prop:=RdS M w 11 (q2a M w) v l
def E5a(M:List Nat)(w:World)(cs:List Value)(l:c6b):Prop:=∃vb g0 g1 g2 g3,cs=[.int .i64 l.head,vb,g0,g1,g2,g3]∧i64 l.head∧RdI M w vb l.body∧RdE M w l.variant [g0,g1,g2,g3]
abbrev w1d(M:List Nat)(w:World)(v:Value)(l:List c6b):Prop:=RdS M w 6 (E5a M w) v l
def N0a(M:List Nat)(w:World)(cs:List Value)(t:X0a):Prop:=∃va vm vs vl,cs=[.string t.name,.int .i64 t.points,va,vm,vs,vl,.bool t.asleep]∧i64 t.points ∧
 V9c M w va t.asserts∧RdI M w vm t.modules∧E0d M w vs t.steps∧w1d M w vl t.loops
abbrev V0d(M:List Nat)(w:World)(v:Value)(l:List X0a):Prop:=RdS M w 7 (N0a M w) v l
def C1a(M:List Nat)(w:World)(cs:List Value)(c:v4a):Prop:=∃g0 g1 g2 g3 k0 k1 k2 k3 vf,cs=[.string c.name,.string c.owner,g0,g1,g2,g3,k0,k1,k2,k3,vf] ∧
 RdE M w c.rely [g0,g1,g2,g3]∧RdE M w c.guar [k0,k1,k2,k3]∧RdI M w vf c.frame
abbrev d1d(M:List Nat)(w:World)(v:Value)(l:List v4a):Prop:=RdS M w 11 (C1a M w) v l
def w5a(M:List Nat)(w:World)(cs:List Value)(l:B5b):Prop:=∃g0 g1 g2 g3,cs=[.int .i64 l.cell,g0,g1,g2,g3,.int .i64 l.module_]∧i64 l.cell∧i64 l.module_∧RdE M w l.inv [g0,g1,g2,g3]
abbrev j1d(M:List Nat)(w:World)(v:Value)(l:List B5b):Prop:=RdS M w 6 (w5a M w) v l
def q1a(M:List Nat)(w:World)(p:f0a)(cs:List Value):Prop:=∃vc vm vl vt,cs=[vc,vm,vl,vt]∧q7c M w vc p.cells∧d1d M w vm p.modules∧j1d M w vl p.locks∧V0d M w vt p.threads
section
variable {M M':List Nat} {w w':World}
theorem U0a.keep(hk:y0a M w w'):∀cs a,U0a M w cs a→U0a M w' cs a:=fun _ _ ⟨ce,h1,h2,h3⟩=>⟨ce,h1,h2,RdE.keep hk _ _ h3⟩
theorem q2a.keep(hk:y0a M w w'):∀cs s,q2a M w cs s→q2a M w' cs s:=fun _ _ ⟨g0,g1,g2,g3,vs,h1,h2,h3,h4,h5,h6,h7,h8⟩=>⟨g0,g1,g2,g3,vs,h1,h2,h3,h4,h5,h6,RdE.keep hk _ _ h7,RdS.keepW h8 hk (U0a.keep hk)⟩
theorem E5a.keep(hk:y0a M w w'):∀cs s,E5a M w cs s→E5a M w' cs s:=fun _ _ ⟨vb,g0,g1,g2,g3,h1,h2,h3,h4⟩=>⟨vb,g0,g1,g2,g3,h1,h2,h3.keep hk,RdE.keep hk _ _ h4⟩
theorem N0a.keep(hk:y0a M w w'):∀cs s,N0a M w cs s→N0a M w' cs s:=fun _ _ ⟨va,vm,vs,vl,h1,h2,h3,h4,h5,h6⟩=>⟨va,vm,vs,vl,h1,h2,RdS.keepW h3 hk (fun _ _=>RdE.keep hk _ _),h4.keep hk,RdS.keepW h5 hk (q2a.keep hk),RdS.keepW h6 hk (E5a.keep hk)⟩
theorem C1a.keep(hk:y0a M w w'):∀cs s,C1a M w cs s→C1a M w' cs s:=fun _ _ ⟨g0,g1,g2,g3,k0,k1,k2,k3,vf,h1,h2,h3,h4⟩=>⟨g0,g1,g2,g3,k0,k1,k2,k3,vf,h1,RdE.keep hk _ _ h2,RdE.keep hk _ _ h3,h4.keep hk⟩
theorem w5a.keep(hk:y0a M w w'):∀cs s,w5a M w cs s→w5a M w' cs s:=fun _ _ ⟨g0,g1,g2,g3,h1,h2,h3,h4⟩=>⟨g0,g1,g2,g3,h1,h2,h3,RdE.keep hk _ _ h4⟩
theorem q1a.keep(hk:y0a M w w'){p:f0a}{cs:List Value}:q1a M w p cs→q1a M w' p cs:=fun⟨vc,vm,vl,vt,h1,h2,h3,h4,h5⟩=>⟨vc,vm,vl,vt,h1,h2.keep hk,RdS.keepW h3 hk (C1a.keep hk),RdS.keepW h4 hk (w5a.keep hk),RdS.keepW h5 hk (N0a.keep hk)⟩
theorem U0a.less(hk:∀g∈M',g∈M):∀cs a,U0a M w cs a→U0a M' w cs a:=fun _ _ ⟨ce,h1,h2,h3⟩=>⟨ce,h1,h2,RdE.less hk _ _ h3⟩
theorem q2a.less(hk:∀g∈M',g∈M):∀cs s,q2a M w cs s→q2a M' w cs s:=fun _ _ ⟨g0,g1,g2,g3,vs,h1,h2,h3,h4,h5,h6,h7,h8⟩=>⟨g0,g1,g2,g3,vs,h1,h2,h3,h4,h5,h6,RdE.less hk _ _ h7,RdS.lessW h8 hk (U0a.less hk)⟩
theorem E5a.less(hk:∀g∈M',g∈M):∀cs s,E5a M w cs s→E5a M' w cs s:=fun _ _ ⟨vb,g0,g1,g2,g3,h1,h2,h3,h4⟩=>⟨vb,g0,g1,g2,g3,h1,h2,h3.less hk,RdE.less hk _ _ h4⟩
theorem N0a.less(hk:∀g∈M',g∈M):∀cs s,N0a M w cs s→N0a M' w cs s:=fun _ _ ⟨va,vm,vs,vl,h1,h2,h3,h4,h5,h6⟩=>⟨va,vm,vs,vl,h1,h2,RdS.lessW h3 hk (fun _ _=>RdE.less hk _ _),h4.less hk,RdS.lessW h5 hk (q2a.less hk),RdS.lessW h6 hk (E5a.less hk)⟩
theorem C1a.less(hk:∀g∈M',g∈M):∀cs s,C1a M w cs s→C1a M' w cs s:=fun _ _ ⟨g0,g1,g2,g3,k0,k1,k2,k3,vf,h1,h2,h3,h4⟩=>⟨g0,g1,g2,g3,k0,k1,k2,k3,vf,h1,RdE.less hk _ _ h2,RdE.less hk _ _ h3,h4.less hk⟩
theorem w5a.less(hk:∀g∈M',g∈M):∀cs s,w5a M w cs s→w5a M' w cs s:=fun _ _ ⟨g0,g1,g2,g3,h1,h2,h3,h4⟩=>⟨g0,g1,g2,g3,h1,h2,h3,RdE.less hk _ _ h4⟩
theorem q1a.less(hk:∀g∈M',g∈M){p:f0a}{cs:List Value}:q1a M w p cs→q1a M' w p cs:=fun⟨vc,vm,vl,vt,h1,h2,h3,h4,h5⟩=>⟨vc,vm,vl,vt,h1,h2.less hk,RdS.lessW h3 hk (C1a.less hk),RdS.lessW h4 hk (w5a.less hk),RdS.lessW h5 hk (N0a.less hk)⟩
theorem U0a.more(hk:∀g∈M',g∈M∨w.heap.size≤g):∀cs a,U0a M w cs a→U0a M' w cs a:=fun _ _ ⟨ce,h1,h2,h3⟩=>⟨ce,h1,h2,RdE.more hk _ _ h3⟩
theorem q2a.more(hk:∀g∈M',g∈M∨w.heap.size≤g):∀cs s,q2a M w cs s→q2a M' w cs s:=fun _ _ ⟨g0,g1,g2,g3,vs,h1,h2,h3,h4,h5,h6,h7,h8⟩=>⟨g0,g1,g2,g3,vs,h1,h2,h3,h4,h5,h6,RdE.more hk _ _ h7,RdS.moreW h8 (by omega) hk (U0a.more hk)⟩
theorem E5a.more(hk:∀g∈M',g∈M∨w.heap.size≤g):∀cs s,E5a M w cs s→E5a M' w cs s:=fun _ _ ⟨vb,g0,g1,g2,g3,h1,h2,h3,h4⟩=>⟨vb,g0,g1,g2,g3,h1,h2,h3.more (by omega) hk,RdE.more hk _ _ h4⟩
theorem N0a.more(hk:∀g∈M',g∈M∨w.heap.size≤g):∀cs s,N0a M w cs s→N0a M' w cs s:=fun _ _ ⟨va,vm,vs,vl,h1,h2,h3,h4,h5,h6⟩=>⟨va,vm,vs,vl,h1,h2,RdS.moreW h3 (by omega) hk (fun _ _=>RdE.more hk _ _),h4.more (by omega) hk,RdS.moreW h5 (by omega) hk (q2a.more hk),RdS.moreW h6 (by omega) hk (E5a.more hk)⟩
theorem C1a.more(hk:∀g∈M',g∈M∨w.heap.size≤g):∀cs s,C1a M w cs s→C1a M' w cs s:=fun _ _ ⟨g0,g1,g2,g3,k0,k1,k2,k3,vf,h1,h2,h3,h4⟩=>⟨g0,g1,g2,g3,k0,k1,k2,k3,vf,h1,RdE.more hk _ _ h2,RdE.more hk _ _ h3,h4.more (by omega) hk⟩
theorem w5a.more(hk:∀g∈M',g∈M∨w.heap.size≤g):∀cs s,w5a M w cs s→w5a M' w cs s:=fun _ _ ⟨g0,g1,g2,g3,h1,h2,h3,h4⟩=>⟨g0,g1,g2,g3,h1,h2,h3,RdE.more hk _ _ h4⟩
theorem q1a.more(hk:∀g∈M',g∈M∨w.heap.size≤g){p:f0a}{cs:List Value}:q1a M w p cs→q1a M' w p cs:=fun⟨vc,vm,vl,vt,h1,h2,h3,h4,h5⟩=>⟨vc,vm,vl,vt,h1,h2.more (by omega) hk,RdS.moreW h3 (by omega) hk (C1a.more hk),RdS.moreW h4 (by omega) hk (w5a.more hk),RdS.moreW h5 (by omega) hk (N0a.more hk)⟩
end
structure E0a where
 cells:List Int
 values:List Int
  deriving DecidableEq
structure q0a where
 mem:List Int
 at_:List Int
 buf:List (List E0a)
  deriving DecidableEq
structure A0a where
 thread:Int
 step:Int
 cell:Int
  deriving DecidableEq
def I0a(M:List Nat)(w:World)(cs:List Value)(e:E0a):Prop:=∃vc vv,cs=[vc,vv]∧RdI M w vc e.cells∧RdI M w vv e.values
abbrev j7c(M:List Nat)(w:World)(v:Value)(l:List E0a):Prop:=RdS M w 2 (I0a M w) v l
def F3a(M:List Nat)(w:World)(cs:List Value)(l:List E0a):Prop:=∃v,cs=[v]∧j7c M w v l
abbrev u0d(M:List Nat)(w:World)(v:Value)(l:List (List E0a)):Prop:=RdS M w 1 (F3a M w) v l
def t0a(M:List Nat)(w:World)(c:q0a)(cs:List Value):Prop:=∃vm va vb,cs=[vm,va,vb]∧RdI M w vm c.mem∧RdI M w va c.at_∧u0d M w vb c.buf
def M1a(cs:List Value)(c:A0a):Prop:=cs=[.int .i64 c.thread,.int .i64 c.step,.int .i64 c.cell]∧i64 c.thread∧i64 c.step∧i64 c.cell
abbrev Q8b(M:List Nat)(w:World)(v:Value)(l:List A0a):Prop:=RdS M w 3 M1a v l
section
variable {M M':List Nat} {w w':World}
theorem I0a.keep(hk:y0a M w w'):∀cs a,I0a M w cs a→I0a M w' cs a:=fun _ _ ⟨vc,vv,h1,h2,h3⟩=>⟨vc,vv,h1,h2.keep hk,h3.keep hk⟩
theorem F3a.keep(hk:y0a M w w'):∀cs a,F3a M w cs a→F3a M w' cs a:=fun _ _ ⟨v,h1,h2⟩=>⟨v,h1,RdS.keepW h2 hk (I0a.keep hk)⟩
theorem t0a.keep(hk:y0a M w w'){c:q0a}{cs:List Value}:t0a M w c cs→t0a M w' c cs:=fun⟨vm,va,vb,h1,h2,h3,h4⟩=>⟨vm,va,vb,h1,h2.keep hk,h3.keep hk,RdS.keepW h4 hk (F3a.keep hk)⟩
theorem I0a.less(hk:∀g∈M',g∈M):∀cs a,I0a M w cs a→I0a M' w cs a:=fun _ _ ⟨vc,vv,h1,h2,h3⟩=>⟨vc,vv,h1,h2.less hk,h3.less hk⟩
theorem F3a.less(hk:∀g∈M',g∈M):∀cs a,F3a M w cs a→F3a M' w cs a:=fun _ _ ⟨v,h1,h2⟩=>⟨v,h1,RdS.lessW h2 hk (I0a.less hk)⟩
theorem t0a.less(hk:∀g∈M',g∈M){c:q0a}{cs:List Value}:t0a M w c cs→t0a M' w c cs:=fun⟨vm,va,vb,h1,h2,h3,h4⟩=>⟨vm,va,vb,h1,h2.less hk,h3.less hk,RdS.lessW h4 hk (F3a.less hk)⟩
theorem I0a.more(hk:∀g∈M',g∈M∨w.heap.size≤g):∀cs a,I0a M w cs a→I0a M' w cs a:=fun _ _ ⟨vc,vv,h1,h2,h3⟩=>⟨vc,vv,h1,h2.more (by omega) hk,h3.more (by omega) hk⟩
theorem F3a.more(hk:∀g∈M',g∈M∨w.heap.size≤g):∀cs a,F3a M w cs a→F3a M' w cs a:=fun _ _ ⟨v,h1,h2⟩=>⟨v,h1,RdS.moreW h2 (by omega) hk (I0a.more hk)⟩
theorem t0a.more(hk:∀g∈M',g∈M∨w.heap.size≤g){c:q0a}{cs:List Value}:t0a M w c cs→t0a M' w c cs:=fun⟨vm,va,vb,h1,h2,h3,h4⟩=>⟨vm,va,vb,h1,h2.more (by omega) hk,h3.more (by omega) hk,RdS.moreW h4 (by omega) hk (F3a.more hk)⟩
end
end Go.Fw
