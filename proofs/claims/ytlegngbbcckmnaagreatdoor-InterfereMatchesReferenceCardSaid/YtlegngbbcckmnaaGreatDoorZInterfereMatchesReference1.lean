/-
  Part 1 of 9 of a proof: InterfereMatchesReference of package relyguardlaw16 returns true for every input, and its arguments read as before.
  Conditions: those of the given row (the listed package variables as the program's text lays them).
-/
import Derived.RangeFuncIn
import Derived.RangeFuncLeaves
import Derived.RangeFuncSeq
import Derived.TacticsIn
import Derived.OrdersIn
import Derived.Below
import Derived.Laws.Entries
import Derived.Laws.Rows
import Derived.Laws.World
import Derived.Laws.Sem
import Derived.Laws.NewBlocks
import Derived.Deep.Draws
import Derived.Maps.AppendAt
import Derived.Laws.MakeOwn
import Derived.Lib.AppendZerosOnto
import Derived.Test.YtlegngbbcckmnaaGreatDoorRows
import Derived.RangeFuncRecord
set_option maxRecDepth 100000
set_option maxHeartbeats 4000000
namespace Go.Proofs.YtlegngbbcckmnaaGreatDoor
end Go.Proofs.YtlegngbbcckmnaaGreatDoor
namespace Go.Fw
open Go.Proofs.YtlegngbbcckmnaaGreatDoor Go.Proofs Go.RowKit Tryz

theorem Z{α:Sort _}{a:α}:a=a:=rfl
theorem iF{a b:Prop}(h:¬b)(g:¬a:=by omega):(a↔b):=iff_of_false g h
abbrev Bw(a b:World):=Below a.heap.size a b
abbrev LV:=List Value
theorem cB{a b:Bool}(h:a=b):Value.bool a=.bool b:=h▸rfl
abbrev pL(A:Option Addr)(a b:Nat)(B:Option Addr)(c d:Nat)(C:Option Addr)(e f:Nat)(D:Option Addr)(g h:Nat):List Value:=[.slice A a b,.slice B c d,.slice C e f,.slice D g h]
theorem U:True:=trivial
abbrev Env:=Nat→Value
def upd(e:Env)(d:Nat)(v:Value):Env:=fun i=>bif Nat.beq i d then v else e i
theorem Y2a(e:Env)(d:Nat)(v:Value):upd e d v d=v:=by simp[upd]
theorem v1a(e:Env){d i:Nat}(v:Value)(h:i≠d):upd e d v i=e i:=by
 have:Nat.beq i d=false:=by
  cases hb:Nat.beq i d with
  | false=>rfl
  | true=>exact absurd (Nat.eq_of_beq_eq_true hb) h
 simp[upd,this]
theorem b8b(e:Env){d:Nat}{v:Value}(h:e d=v):upd e d v=e:=by
 funext i
 by_cases hi:i=d
 ·subst hi;rw[Y2a,h]
 ·rw[v1a _ _ hi]
def ev(e:Env):Operand→Value
 | .tmp t=>e t
 | .const v=>v
 | .global g=>.pointer (some ⟨g,0,none⟩)
 | .func f=>.func (.func f) #[] #[]
def P0a(a:Act):Env:=fun i=>a.tmps.getD i undef
theorem v2a(a:Act):a.eval=ev (P0a a):=by
 funext x;cases x<;>rfl
theorem b1a{a:Act}{d:Nat}(v:Value)(h:d<a.tmps.size):P0a (a.put (some d) v)=upd (P0a a) d v:=by
 funext i
 by_cases hi:i=d
 ·subst hi;simp[P0a,Act.put,Y2a,h]
 ·have a0:d≠i:=fun e=>hi e.symm;simp[P0a,Act.put,v1a _ _ hi,Array.getElem?_setIfInBounds_ne a0]
structure W4b where
 norm:List Deferred→Env→World→Prop
 brk:Nat→List Deferred→Env→World→Prop
 ret:List Deferred→Env→World→Prop
def W4b.post(N:Nat)(k:W4b):Exit→Act→World→Prop
 | .normal,a,w=>a.tmps.size=N∧k.norm a.defers (P0a a) w
 | .exit id,a,w=>a.tmps.size=N∧k.brk id a.defers (P0a a) w
 | .ret,a,w=>a.tmps.size=N∧k.ret a.defers (P0a a) w
 | _,_,_=>False
def fc(r:Option Nat):Fence:={ Fence.wide with round:=r }
@[irreducible] def W(P:Program)(r:Option Nat)(N:Nat)(c:Code)(k:W4b)(D:List Deferred)(e:Env)(w:World):Prop :=
 ∀a:Act,a.tmps.size=N→a.defers=D→P0a a=e→c.wpIn (fc r) 0 P (k.post N) a w
@[irreducible] def WL(P:Program)(r:Option Nat)(N:Nat)(ops:Array Oper)(l:List Oper)(k:List Deferred→Env→World→Prop)(D:List Deferred)(e:Env)(w:World):Prop :=
 ∀(a:Act) (Q:Exit→Act→World→Prop),a.tmps.size=N→a.defers=D→P0a a=e →
  (∀a' w',a'.tmps.size=N→k a'.defers (P0a a') w'→Q .normal a' w')→wpListIn (fc r) 0 P ops Q l a w
section
variable {P:Program} {r:Option Nat} {N:Nat} {n t:List Deferred→Env→World→Prop} {b:Nat→List Deferred→Env→World→Prop} {D:List Deferred} {e:Env} {w:World}
theorem p3d(h:n D e w):W P r N .skip ⟨n,b,t⟩ D e w:=by
 unfold W;intro a hs hd he;subst hd he;exact wpIn_skip ⟨hs,h⟩
theorem x9c{l:Nat}(h:n D e w):W P r N (.label l) ⟨n,b,t⟩ D e w:=by
 unfold W;intro a hs hd he;subst hd he;exact wpIn_label ⟨hs,h⟩
theorem m4d(h:t D e w):W P r N .ret ⟨n,b,t⟩ D e w:=by
 unfold W;intro a hs hd he;subst hd he;exact wpIn_ret ⟨hs,h⟩
theorem v3d{id:Nat}(h:b id D e w):W P r N (.exit id) ⟨n,b,t⟩ D e w:=by
 unfold W;intro a hs hd he;subst hd he;exact wpIn_exit ⟨hs,h⟩
theorem k7c{c:Code}{k k':W4b}(h:W P r N c k' D e w)(hn:∀D e w,k'.norm D e w→k.norm D e w)(hb:∀i D e w,k'.brk i D e w→k.brk i D e w)
 (hr:∀D e w,k'.ret D e w→k.ret D e w):W P r N c k D e w:=by
 unfold W at *;intro a hs hd he;refine wpIn_mono (h a hs hd he) fun ex a w hq=>?_;cases ex<;>first|exact hq.elim|exact⟨hq.1,hn _ _ _ hq.2⟩|exact⟨hq.1,hb _ _ _ _ hq.2⟩|exact⟨hq.1,hr _ _ _ hq.2⟩
theorem v9c{x y:Code}(h:W P r N x ⟨fun D e w=>W P r N y ⟨n,b,t⟩ D e w,b,t⟩ D e w):W P r N (.seq x y) ⟨n,b,t⟩ D e w:=by
 unfold W at h ⊢;intro a hs hd he;refine wpIn_seq (wpIn_mono (h a hs hd he) fun ex a w hq=>?_);cases ex with
 | normal=>obtain⟨a0,hq⟩:=hq;exact hq a a0 rfl rfl
 | exit id=>exact hq
 | ret=>exact hq
 | goto l=>exact hq
 | panic c=>exact hq
 | outgrown=>exact hq
theorem q3d{x y:Code}(I:List Deferred→Env→World→Prop)(h:W P r N x ⟨I,b,t⟩ D e w)(h':∀D e w,I D e w→W P r N y ⟨n,b,t⟩ D e w):W P r N (.seq x y) ⟨n,b,t⟩ D e w :=
 v9c (k7c h h' (fun _ _ _ _ h=>h) (fun _ _ _ h=>h))
theorem f5d{c:Operand}{x y:Code}{k:W4b}{z:Bool}(hc:ev e c=.bool z)(h:W P r N (bif z then x else y) k D e w):W P r N (.cond c x y) k D e w:=by
 unfold W at *;intro a hs hd he;refine wpIn_cond (t:=z) (by rw[v2a,he,hc]) ?_;cases z<;>exact h a hs hd he
theorem X2d{c:Operand}{x y:Code}{k:W4b}(hc:ev e c=.bool true)(h:W P r N x k D e w):W P r N (.cond c x y) k D e w:=f5d hc h
theorem Y2d{c:Operand}{x y:Code}{k:W4b}(hc:ev e c=.bool false)(h:W P r N y k D e w):W P r N (.cond c x y) k D e w:=f5d hc h
def T5b(id:Nat)(n:List Deferred→Env→World→Prop)(b:Nat→List Deferred→Env→World→Prop):Nat→List Deferred→Env→World→Prop :=
 fun i=>if i=id then n else b i
theorem Q9c{id:Nat}{c:Code}(h:W P r N c ⟨n,T5b id n b,t⟩ D e w):W P r N (.block id c) ⟨n,b,t⟩ D e w:=by
 unfold W at *;intro a hs hd he;refine wpIn_block (wpIn_mono (h a hs hd he) fun ex a w hq=>?_);cases ex with
 | exit i =>
   show(if i=id then _ else _)
   by_cases hi:i=id
   ·rw[if_pos hi];obtain⟨h1,h2⟩:=hq;refine⟨h1,?_⟩;simpa[T5b,hi] using h2
   ·rw[if_neg hi];obtain⟨h1,h2⟩:=hq;refine⟨h1,?_⟩;simpa[T5b,hi] using h2
 | normal=>exact hq
 | ret=>exact hq
 | goto l=>exact hq
 | panic c=>exact hq
 | outgrown=>exact hq
theorem o9b{id:Nat}{n:List Deferred→Env→World→Prop}{b:Nat→List Deferred→Env→World→Prop}(h:n D e w):T5b id n b id D e w:=by
 simpa[T5b] using h
theorem I0c{id a0:Nat}{n:List Deferred→Env→World→Prop}{b:Nat→List Deferred→Env→World→Prop}(b0:Nat.beq id a0=false)(h:b id D e w):T5b a0 n b id D e w:=by
 have:id≠a0:=fun h=>by subst h;simp at b0
 simpa[T5b,this] using h
end
theorem I6a{p:Nat→Prop}(h:∃n,p n):∃n,p n∧∀m,p m→n≤m:=by
 obtain⟨n,hn⟩:=h
 induction n using Nat.strongRecOn with
 | _ n ih =>
   by_cases hm:∃m,m<n∧p m
   ·obtain⟨m,a0,hp⟩:=hm;exact ih m a0 hp
   ·exact⟨n,hn,fun m hp=>Nat.le_of_not_lt fun a0=>hm ⟨m,a0,hp⟩⟩
open Classical in
noncomputable def leastOf(p:Nat→Prop):Nat:=if h:∃n,p n then Classical.choose (I6a h) else 0
theorem F9a{p:Nat→Prop}(h:∃n,p n):p (leastOf p)∧∀m,p m→leastOf p≤m:=by
 unfold leastOf;rw[dif_pos h];exact Classical.choose_spec (I6a h)
section
variable {P:Program} {r:Option Nat} {N:Nat} {k:W4b} {D:List Deferred} {e:Env} {w:World}
theorem J1d{c:Code}{n t:List Deferred→Env→World→Prop}{b:Nat→List Deferred→Env→World→Prop}(I:Nat→List Deferred→Env→World→Prop){μ:Nat}(h0:I μ D e w)
 (a0:∀μ D e w,I μ D e w→W P r N c ⟨fun D' e' w'=>∃m,m<μ∧I m D' e' w',b,t⟩ D e w):W P r N (.loop c) ⟨n,b,t⟩ D e w:=by
 unfold W at *;intro a hs hd he;subst hd he;refine wpIn_loop (fun a w=>a.tmps.size=N∧∃n,I n a.defers (P0a a) w) (fun a w=>leastOf fun n=>I n a.defers (P0a a) w) ⟨hs,μ,h0⟩ ?_;rintro a w ⟨hs,hI⟩;obtain⟨h1,_⟩:=F9a hI;refine wpIn_mono (a0 _ a.defers (P0a a) w h1 a hs rfl rfl) fun ex a' w' hq=>?_;cases ex with
 | normal =>
   obtain⟨c0,m,hm,b0⟩:=hq;exact⟨⟨c0,m,b0⟩,Nat.lt_of_le_of_lt ((F9a ⟨m,b0⟩).2 m b0) hm⟩
 | exit id=>exact hq
 | ret=>exact hq
 | goto l=>exact hq
 | panic c=>exact hq
 | outgrown=>exact hq
theorem q0a{c:Code}(i:Nat){v:Value}(hi:e i=v)(h:W P r N c k D (upd e i v) w):W P r N c k D e w:=by
 rwa [b8b e hi] at h
theorem Y4c{id:Nat}{l:List Oper}{n t:List Deferred→Env→World→Prop}{b:Nat→List Deferred→Env→World→Prop}(h:WL P r N l.toArray l n D e w):W P r N (.region id l.toArray false) ⟨n,b,t⟩ D e w:=by
 unfold W WL at *;intro a hs hd he;exact wpIn_region_lit (h a _ hs hd he fun a' w' a0 hk=>⟨a0,hk⟩)
variable {ops:Array Oper} {rest:List Oper} {K:List Deferred→Env→World→Prop}
theorem S0a(h:K D e w):WL P r N ops [] K D e w:=by
 unfold WL;intro a Q hs hd he hK;subst hd he;exact hK a w hs h
theorem I0a(o:Oper)(w:World)(ρ:Operand→Value):∀f,o.about P w ρ=some f→(fc r).fn f:=fun _ _=>trivial
theorem U0a{o:Oper}{d:Nat}{v:Value}{w':World}(hg:o.guard=none)(b0:o.dst=some d)(hd:Nat.ble (d+1) N=true)
 (d0:(execOp (ev e) o).run P w=.ok (.value v) w') (h:WL P r N ops rest K D (upd e d v) w') (a0:∀c,o.op≠.defer c:=by simp):WL P r N ops (o::rest) K D e w:=by
 unfold WL at *;intro a Q hs e0 he hK;have f0:d<a.tmps.size:=by rw[hs];exact Nat.le_of_ble_eq_true hd
 have c0:=h (a.put (some d) v) Q (by simp[Act.put,hs]) (by simp[Act.put,e0]) (by rw[b1a v f0,he]) hK;simp only[wpListIn,Region.wanted,hg,if_true];refine⟨I0a o w _,?_⟩;have:Oper.semAt (fc r).round a.eval o=execOp (ev e) o:=by rw[Oper.semAt_eq _ _ _ a0,v2a,he]
 rw[this,d0,Oper.uponIn_value,b0];exact c0
theorem t9a{o:Oper}{w':World}(hg:o.guard=none)(b0:o.dst=none)
 (d0:(execOp (ev e) o).run P w=.ok .skip w') (h:WL P r N ops rest K D e w') (a0:∀c,o.op≠.defer c:=by simp):WL P r N ops (o::rest) K D e w:=by
 unfold WL at *;intro a Q hs e0 he hK;have c0:=h a Q hs e0 he hK;simp only[wpListIn,Region.wanted,hg,if_true];refine⟨I0a o w _,?_⟩;have:Oper.semAt (fc r).round a.eval o=execOp (ev e) o:=by rw[Oper.semAt_eq _ _ _ a0,v2a,he]
 rw[this,d0,Oper.uponIn_skip,b0];exact c0
def A0a(P:Program)(f:FuncId)(args:Array Value)(w:World)(R:Value→World→Prop):Prop :=
 Calls P f args w fun en w'=>∃v,en=.returned v∧R v w'
theorem A0a.mono{f:FuncId}{args:Array Value}{R R':Value→World→Prop}(h:A0a P f args w R)(hr:∀v w',R v w'→R' v w'):A0a P f args w R' :=
 Calls.mono h fun _ _ ⟨v,he,hv⟩=>⟨v,he,hr v _ hv⟩
theorem F5a{f:FuncId}{args:Array Value}{n:Nat}{R:Ending→World→Prop}(h:Calls P f args w R):CallsIn (fc r) n P f args w R :=
 ⟨trivial,fun cs _=>(callsIn_wide (n:=0).2 h).2 cs (room_wide _)⟩
theorem E7b{o:Oper}{d:Nat}{f:FuncId}{args:Array Value}{R:Value→World→Prop}(hg:o.guard=none)(b0:o.dst=some d)(hd:Nat.ble (d+1) N=true)
 (c0:(execOp (ev e) o).run P w=.ok (.enter f args) w) (hc:A0a P f args w R) (h:∀v w',R v w'→WL P r N ops rest K D (upd e d v) w') (a0:∀c,o.op≠.defer c:=by simp):WL P r N ops (o::rest) K D e w:=by
 unfold WL at *;intro a Q hs d0 he hK;have e0:d<a.tmps.size:=by rw[hs];exact Nat.le_of_ble_eq_true hd
 simp only[wpListIn,Region.wanted,hg,if_true];refine⟨I0a o w _,?_⟩;have:Oper.semAt (fc r).round a.eval o=execOp (ev e) o:=by rw[Oper.semAt_eq _ _ _ a0,v2a,he]
 rw[this,c0,Oper.uponIn_enter];refine⟨fun hh=>by simp[fc,Fence.wide] at hh,F5a (Calls.mono hc ?_)⟩;rintro en w' ⟨v,rfl,hv⟩;rw[b0];exact h v w' hv (a.put (some d) v) Q (by simp[Act.put,hs]) (by simp[Act.put,d0]) (by rw[b1a v e0,he]) hK
def isB(want:Bool):Value→Bool
 | .bool b=>b==want
 | _=>false
theorem G0b{a:Act}{j s:Nat}(hs:(ops[j]?).bind (·.dst)=some s)(a0:Bool)(b0:s<a.tmps.size):(yielded ops a.tmps j==some a0)=isB a0 (P0a a s):=by
 unfold yielded P0a;rw[hs];simp only[Option.bind_some,Array.getD_eq_getD_getElem?];rw[Array.getElem?_eq_getElem b0];simp only[Option.getD_some];cases a.tmps[s]<;>simp[isB]
theorem T2a{d:Option Nat}{op:Op}{t:TypeId}{p:String}{af:Array Edge}{j s:Nat}{a0:Bool}(hs:(ops[j]?).bind (·.dst)=some s)(d0:Nat.ble (s+1) N=true)
 (hb:isB a0 (e s)=true) (h:WL P r N ops (⟨d,op,t,p,af,none⟩::rest) K D e w):WL P r N ops (⟨d,op,t,p,af,some (j,a0)⟩::rest) K D e w:=by
 unfold WL at *;intro a Q b0 c0 he hK;have hh:=h a Q b0 c0 he hK;have hw:Region.wanted ⟨d,op,t,p,af,some (j,a0)⟩ (yielded ops a.tmps)=true:=by
  simp only[Region.wanted];rw[G0b hs a0 (by rw[b0];exact Nat.le_of_ble_eq_true d0),he];exact hb
 simp only[wpListIn,hw,if_true];simp only[wpListIn,Region.wanted,if_true] at hh;exact hh
theorem W2d{d:Nat}{op:Op}{t:TypeId}{p:String}{af:Array Edge}{j s:Nat}{a0:Bool}(hs:(ops[j]?).bind (·.dst)=some s)(e0:Nat.ble (s+1) N=true)
 (hb:isB a0 (e s)=false) (hd:Nat.ble (d+1) N=true) (h:WL P r N ops rest K D (upd e d undef) w):WL P r N ops (⟨some d,op,t,p,af,some (j,a0)⟩::rest) K D e w:=by
 unfold WL at *;intro a Q c0 d0 he hK;have b0:d<a.tmps.size:=by rw[c0];exact Nat.le_of_ble_eq_true hd
 have hh:=h (a.put (some d) undef) Q (by simp[Act.put,c0]) (by simp[Act.put,d0]) (by rw[b1a undef b0,he]) hK;have hw:Region.wanted ⟨some d,op,t,p,af,some (j,a0)⟩ (yielded ops a.tmps)=false:=by
  simp only[Region.wanted];rw[G0b hs a0 (by rw[c0];exact Nat.le_of_ble_eq_true e0),he];exact hb
 simp only[wpListIn,hw];exact⟨I0a _ _ _,hh⟩
def T0b(args:Array Value):Env:=fun i=>args.getD i undef
theorem C1b(args:Array Value)(m:Nat):P0a { tmps:=args++Array.replicate m undef,defers:=[] }=T0b args:=by
 funext i
 simp only[P0a,T0b,Array.getD_eq_getD_getElem?];rw[Array.getElem?_append]
 split
 ·rfl
 ·rename_i h;rw[Array.getElem?_eq_none (xs:=args) (by omega)];simp only[Array.getElem?_replicate]
  split<;>rfl
def g4a(P:Program)(fn:Func)(R:Value→World→Prop)(D:List Deferred)(e:Env)(w:World):Prop :=
 D=[]∧∀tmps:Array Value,P0a { tmps,defers:=[] }=e→∃v,(results fn tmps).run P w=.ok v w∧R v w
theorem w9b{f:FuncId}{fn:Func}{c:Code}{args:Array Value}{R:Value→World→Prop}(hf:P.funcs[f]?=some fn)(hb:fn.body=some c)(hN:fn.ntmps=N)(a0:Nat.ble args.size N=true)
 (h:W P none N c ⟨g4a P fn R,fun _ _ _ _=>False,g4a P fn R⟩ [] (T0b args) w):A0a P f args w R:=by
 subst hN;unfold W at h;have b0:(args++Array.replicate (fn.ntmps-args.size) undef).size=fn.ntmps:=by
  have:=Nat.le_of_ble_eq_true a0;simp;omega
 have h1:=h { tmps:=args++Array.replicate (fn.ntmps-args.size) undef,defers:=[] } b0 rfl (C1b _ _);refine callsIn_wide (n:=0).1 (callsIn_of_wp hf hb trivial (wpIn_mono h1 fun ex a w hq=>?_));cases ex with
 | normal=>obtain⟨_,hD,hq⟩:=hq;obtain⟨v,h1,h2⟩:=hq a.tmps rfl;exact⟨hD,v,h1,v,rfl,h2⟩
 | ret=>obtain⟨_,hD,hq⟩:=hq;obtain⟨v,h1,h2⟩:=hq a.tmps rfl;exact⟨hD,v,h1,v,rfl,h2⟩
 | exit id=>exact hq.2
 | goto l=>exact hq
 | panic c=>exact hq.elim
 | outgrown=>exact hq.elim
theorem J1a{fn:Func}{R:Value→World→Prop}(h:fn.results=#[])(hR:R (.tuple #[]) w):g4a P fn R [] e w :=
 ⟨rfl,fun tmps he=>⟨_,by simp[results,h],hR⟩⟩
theorem w0a{fn:Func}{R:Value→World→Prop}{t:Nat}(h:fn.results=#[.tmp t]){v:Value}(hR:R v w)(hv:e t=v:=by conv=>lhs;whnf):g4a P fn R [] e w :=
 ⟨rfl,fun tmps he=>by subst he;subst hv;exact⟨_,by simp[results,h];rfl,by simpa[P0a] using hR⟩⟩
theorem o3b{fn:Func}{R:Value→World→Prop}{t u:Nat}(h:fn.results=#[.tmp t,.tmp u]){v v':Value}(hR:R (.tuple #[v,v']) w)(hv:e t=v:=by conv=>lhs;whnf)(hv':e u=v':=by conv=>lhs;whnf):g4a P fn R [] e w :=
 ⟨rfl,fun tmps he=>by subst he;subst hv;subst hv';exact⟨_,by simp[results,h];rfl,by simpa[P0a] using hR⟩⟩
end
abbrev Blk:=Nat×TypeId×LV
def p0a(w:World)(b:Blk):Prop:=w.heap[b.1]?=some (.cells b.2.2.toArray b.2.1 (0,0))
abbrev Ent:=Option Nat×TypeId×LV
structure H0a (M:List Nat) (w w':World):Prop where
 os:w'.os=w.os
 tape:w'.tape=w.tape
 output:w'.output=w.output
 size:w.heap.size≤w'.heap.size
 block:∀k,k<w.heap.size→k∉M→w'.heap[k]?=w.heap[k]?
theorem H0a.refl(M:List Nat)(w:World):H0a M w w:=⟨Z,Z,Z,Nat.le_refl _,fun _ _ _=>rfl⟩
theorem H0a.of{M:List Nat}{w w':World}(h:Below w.heap.size w w'):H0a M w w':=⟨h.os,h.tape,h.output,h.size,fun k hk _=>h.block k hk⟩
theorem H0a.nil{w w':World}(h:H0a [] w w'):Below w.heap.size w w':=⟨h.os,h.tape,h.output,h.size,fun k hk=>h.block k hk (by simp)⟩
theorem H0a.trans{M:List Nat}{a b c:World}(h:H0a M a b)(k:H0a M b c):H0a M a c :=
 ⟨k.os.trans h.os,k.tape.trans h.tape,k.output.trans h.output,Nat.le_trans h.size k.size,fun i hi hm=>(k.block i (Nat.lt_of_lt_of_le hi h.size) hm).trans (h.block i hi hm)⟩
structure St (M:List Nat) (w0 w:World) (L:List Ent):Prop where
 below:H0a M w0 w
 own:∀b∈L,∀g,b.1=some g→(w0.heap.size≤g∨g∈M)∧p0a w (g,b.2)
 apart:L.Pairwise fun b b'=>∀g,b.1=some g→b'.1≠some g
structure x0a (M:List Nat) (w w':World):Prop where
 size:w.heap.size≤w'.heap.size
 same:∀b,b<w.heap.size→b∉M→w'.heap[b]?=w.heap[b]?
theorem x0a.refl(M:List Nat)(w:World):x0a M w w:=⟨Nat.le_refl _,fun _ _ _=>rfl⟩
theorem x0a.trans{M:List Nat}{a b c:World}(h:x0a M a b)(k:x0a M b c):x0a M a c :=
 ⟨Nat.le_trans h.size k.size,fun i hi hm=>(k.same i (Nat.lt_of_lt_of_le hi h.size) hm).trans (h.same i hi hm)⟩
theorem x0a.of_nil{M:List Nat}{a b:World}(h:x0a [] a b):x0a M a b:=⟨h.size,fun i hi _=>h.same i hi (by simp)⟩
theorem x0a.of_below{M:List Nat}{a b:World}(h:Below a.heap.size a b):x0a M a b:=⟨h.size,fun i hi _=>h.block i hi⟩
theorem x0a.cell{M:List Nat}{w w':World}(h:x0a M w w'){a:Addr}{v:Value}(hm:a.block∉M)(hc:w.cell? a=some v):w'.cell? a=some v:=by
 have a0:=World.block_lt_of_cell? (w:=w) (a:=a) hc;rw[World.cell?_of_block (w:=w) (h.same a.block a0 hm)];exact hc
theorem p0a.lt{w:World}{b:Blk}(h:p0a w b):b.1<w.heap.size:=by
 unfold p0a at h;rcases Nat.lt_or_ge b.1 w.heap.size with b0|a0
 ·exact b0
 ·rw[Array.getElem?_eq_none a0] at h;cases h
theorem p0a.cell{w:World}{g t:Nat}{cs:LV}(h:p0a w (g,t,cs)){o:Nat}{v:Value}(hv:cs[o]?=some v):w.cell? ⟨g,o,none⟩=some v:=by
 unfold p0a at h;simp only[World.cell?,h];simpa using hv
theorem p0a.frozen{w:World}{g t:Nat}{cs:LV}(h:p0a w (g,t,cs))(o:Nat):w.frozen? ⟨g,o,none⟩=false:=by
 unfold p0a at h;simp[World.frozen?,h]
section
variable {w0 w w':World} {L:List Ent} {M:List Nat}
theorem St.refl(w:World):St [] w w []:=⟨H0a.refl _ _,by simp,by simp⟩
theorem St.size(S:St M w0 w L):w0.heap.size≤w.heap.size:=S.below.size
theorem St.fin(S:St [] w0 w L):Below w0.heap.size w0 w:=S.below.nil
theorem St.oldM(S:St M w0 w L){a:Addr}{v:Value}(hm:a.block∉M)(hc:w0.cell? a=some v):w.cell? a=some v:=by
 have a0:=World.block_lt_of_cell? (w:=w0) (a:=a) hc;rw[World.cell?_of_block (w:=w0) (S.below.block a.block a0 hm)];exact hc
theorem St.old(S:St [] w0 w L){a:Addr}{v:Value}(hc:w0.cell? a=some v):w.cell? a=some v:=S.oldM (by simp) hc
theorem St.keepM(S:St M w0 w L):x0a M w0 w:=⟨S.below.size,fun i hi hm=>S.below.block i hi hm⟩
theorem St.keep0(S:St [] w0 w L)(M:List Nat):x0a M w0 w:=⟨S.below.size,fun i hi _=>S.below.block i hi (by simp)⟩
theorem St.blk(S:St M w0 w L)(k:Nat){g t:Nat}{cs:LV}(hk:L[k]?=some (some g,t,cs)):p0a w (g,t,cs):=(S.own _ (List.mem_of_getElem? hk) g Z).2
theorem St.new(S:St M w0 w L)(k:Nat){g t:Nat}{cs:LV}(hk:L[k]?=some (some g,t,cs)):w0.heap.size≤g∨g∈M:=(S.own _ (List.mem_of_getElem? hk) g Z).1
theorem St.lt(S:St M w0 w L)(k:Nat){g t:Nat}{cs:LV}(hk:L[k]?=some (some g,t,cs)):g<w.heap.size:=(S.blk k hk).lt
theorem St.cell(S:St M w0 w L)(k:Nat){g t:Nat}{cs:LV}(hk:L[k]?=some (some g,t,cs)){o:Nat}{v:Value}(hv:cs[o]?=some v):w.cell? ⟨g,o,none⟩=some v :=
 (S.blk k hk).cell hv
theorem St.keeps(S:St M w0 w L)(hb:H0a M w0 w')(hk:∀b∈L,∀g,b.1=some g→w'.heap[g]?=w.heap[g]?):St M w0 w' L :=
 ⟨hb,fun b hm g hg=>⟨(S.own b hm g hg).1,(hk b hm g hg).trans (S.own b hm g hg).2⟩,S.apart⟩
theorem St.later(S:St M w0 w L)(hb:Below w.heap.size w w'):St M w0 w' L :=
 S.keeps (S.below.trans (H0a.of hb)) fun b hm g hg=>hb.block g (S.own b hm g hg).2.lt
theorem St.drew(S:St M w0 w L):St M w0 w.drew L:=⟨⟨S.below.os,S.below.tape,S.below.output,S.below.size,S.below.block⟩,S.own,S.apart⟩
theorem St.tail{x:Ent}(S:St M w0 w (x::L)):St M w0 w L:=⟨S.below,fun b hm=>S.own b (List.mem_cons_of_mem _ hm),(List.pairwise_cons.1 S.apart).2⟩
theorem St.nil(S:St M w0 w L):St M w0 w []:=⟨S.below,by simp,by simp⟩
theorem St.push(S:St M w0 w L){g t:Nat}{cs:LV}(hg:p0a w (g,t,cs))(b0:w0.heap.size≤g∨g∈M)(c0:∀b∈L,b.1≠some g):St M w0 w ((some g,t,cs)::L):=by
 refine⟨S.below,fun b hm g' a0=>?_,?_⟩
 ·rcases List.mem_cons.1 hm with rfl|hm
  ·cases a0;exact⟨b0,hg⟩
  ·exact S.own b hm g' a0
 ·refine List.pairwise_cons.2 ⟨fun b hb g' a0=>?_,S.apart⟩;cases a0;exact c0 b hb
theorem St.borrow1{g t:Nat}{cs:LV}(h:p0a w (g,t,cs)):St [g] w w [(some g,t,cs)] :=
 (⟨H0a.refl _ _,by simp,by simp⟩:St [g] w w []).push h (.inr (by simp)) (by simp)
theorem St.borrow2{g g' t t':Nat}{cs a0:LV}(h:p0a w (g,t,cs))(h':p0a w (g',t',a0))(b0:g≠g'):St [g,g'] w w [(some g,t,cs),(some g',t',a0)] :=
 ((⟨H0a.refl _ _,by simp,by simp⟩:St [g,g'] w w []).push h' (.inr (by simp)) (by simp)).push h (.inr (by simp)) (by simpa using fun e:g'=g=>b0 e.symm)
theorem St.push_new{w1:World}(S:St M w0 w1 L)(Sw:St M w0 w L){g t:Nat}{cs:LV}(hg:p0a w1 (g,t,cs))(a0:w.heap.size≤g):St M w0 w1 ((some g,t,cs)::L) :=
 S.push hg (.inl (Nat.le_trans Sw.size a0)) fun b hb he=>by have:=(Sw.own b hb g he).2.lt;simp at this;omega
theorem St.nilEnt(S:St M w0 w L)(t:TypeId):St M w0 w ((none,t,[])::L):=by
 refine⟨S.below,fun b hm g' a0=>?_,List.pairwise_cons.2 ⟨fun b hb g' a0=>(by cases a0),S.apart⟩⟩;rcases List.mem_cons.1 hm with rfl|hm
 ·cases a0
 ·exact S.own b hm g' a0
theorem H0a.alloc(h:H0a M w0 w)(o:Obj):H0a M w0 (w.alloc o) :=
 ⟨h.os,h.tape,h.output,Nat.le_trans h.size (by simp),fun k hk hm=>(Below.heap_alloc w o k (Nat.lt_of_lt_of_le hk h.size)).trans (h.block k hk hm)⟩
theorem H0a.setCell(h:H0a M w0 w){g:Nat}(o:Nat)(v:Value)(hg:w0.heap.size≤g∨g∈M):H0a M w0 (w.setCell ⟨g,o,none⟩ v) :=
 ⟨h.os,h.tape,h.output,by simpa using h.size,fun k hk hm=>(Below.heap_setCell w ⟨g,o,none⟩ v k (fun e=>by
  simp only at e;subst e;rcases hg with hg|hg
  ·omega
  ·exact hm hg)).trans (h.block k hk hm)⟩
theorem St.alloc(S:St M w0 w L)(t:TypeId)(cs:LV):St M w0 (w.alloc (.cells cs.toArray t)) ((some w.heap.size,t,cs)::L):=by
 have S1:St M w0 (w.alloc (.cells cs.toArray t)) L:=S.keeps (S.below.alloc _) fun b hm g hg=>Below.heap_alloc w _ g (S.own b hm g hg).2.lt;exact S1.push_new S (by show(w.heap.push _)[w.heap.size]?=_;simp) (Nat.le_refl _)
theorem G1a(w:World)(o:Obj)(M:List Nat):x0a M w (w.alloc o):=⟨by simp,fun b hb _=>Below.heap_alloc w o b hb⟩
theorem Z4a(w:World)(M:List Nat):x0a M w w.drew:=⟨Nat.le_refl _,fun _ _ _=>rfl⟩
theorem Q9a(w:World)(g o:Nat)(v:Value):x0a [g] w (w.setCell ⟨g,o,none⟩ v) :=
 ⟨by simp,fun b _ hm=>Below.heap_setCell w ⟨g,o,none⟩ v b (by simpa using hm)⟩
theorem x0a.mono{M':List Nat}(h:x0a M w w')(hs:∀g∈M,g∈M'):x0a M' w w':=⟨h.size,fun i hi hm=>h.same i hi fun hh=>hm (hs i hh)⟩
theorem b9a{w:World}{g t:Nat}{cs:LV}(h:p0a w (g,t,cs))(o:Nat)(v:Value):p0a (w.setCell ⟨g,o,none⟩ v) (g,t,cs.set o v):=by
 unfold p0a at *;simp only[World.setCell,Array.getElem?_modify,h];simp
theorem S4b{l:List Nat}(h:l.Pairwise (·≠·)){i j a:Nat}(hi:l[i]?=some a)(hj:l[j]?=some a):i=j:=by
 induction l generalizing i j with
 | nil=>simp at hi
 | cons x xs ih =>
   obtain⟨hx,a0⟩:=List.pairwise_cons.1 h;cases i<;>cases j
   ·rfl
   ·simp at hi hj;subst hi;exact absurd Z (hx _ (List.mem_of_getElem? hj))
   ·simp at hi hj;subst hj;exact absurd Z (hx _ (List.mem_of_getElem? hi))
   ·simp at hi hj;rw[ih a0 hi hj]
theorem P7a{l:List Ent}(h:l.Pairwise fun b b'=>∀g,b.1=some g→b'.1≠some g){i j g:Nat}{a b:Ent}(hi:l[i]?=some a)(hj:l[j]?=some b)(ha:a.1=some g)(hb:b.1=some g):i=j:=by
 induction l generalizing i j with
 | nil=>simp at hi
 | cons x xs ih =>
   obtain⟨hx,a0⟩:=List.pairwise_cons.1 h;cases i<;>cases j
   ·rfl
   ·simp at hi hj;subst hi;exact absurd hb (hx _ (List.mem_of_getElem? hj) g ha)
   ·simp at hi hj;subst hj;exact absurd ha (hx _ (List.mem_of_getElem? hi) g hb)
   ·simp at hi hj;rw[ih a0 hi hj]
theorem St.replace(S:St M w0 w L)(k:Nat){x y:Ent}(hk:L[k]?=some x)(hb:H0a M w0 w')(d0:∀b,b<w.heap.size→x.1≠some b→w'.heap[b]?=w.heap[b]?)
 (hy:∀g,y.1=some g→(w0.heap.size≤g∨g∈M)∧p0a w' (g,y.2)∧(x.1=some g∨w.heap.size≤g)):St M w0 w' (L.set k y):=by
 have o0:k<L.length:=(List.getElem?_eq_some_iff.1 hk).1;have other:∀(j:Nat) (b:Ent) (g:Nat),L[j]?=some b→j≠k→b.1=some g→x.1≠some g:=fun j b g hj i0 e0 hx=>i0 (P7a S.apart hj hk e0 hx);refine⟨hb,fun b hm g hg=>?_,?_⟩
 ·obtain⟨j,hj⟩:=List.getElem?_of_mem hm;rw[List.getElem?_set] at hj
  split at hj
  ·rename_i b0;subst b0;cases hj;exact⟨(hy g hg).1,(hy g hg).2.1⟩
  ·rename_i b0;have f0:=List.mem_of_getElem? hj;have ho:=S.own b f0 g hg;exact⟨ho.1,(d0 g ho.2.lt (other j b g hj (fun h=>b0 h.symm) hg)).trans ho.2⟩
 ·rw[List.pairwise_iff_getElem];intro i j hi hj n0 g c0 a0;simp only[List.length_set] at hi hj;have gi:L[i]?=some L[i]:=List.getElem?_eq_getElem hi;have gj:L[j]?=some L[j]:=List.getElem?_eq_getElem hj;have key:∀(m:Nat) (b:Ent),L[m]?=some b→m≠k→b.1=some g→y.1≠some g:=fun m b hm j0 e0 m0=>by
   rcases(hy g m0).2.2 with h|h
   ·exact other m b g hm j0 e0 h
   ·have:=(S.own b (List.mem_of_getElem? hm) g e0).2.lt;simp at this;omega
  rw[List.getElem_set] at c0 a0
  split at c0
  ·rename_i g0
   split at a0
   ·rename_i b0;omega
   ·rename_i b0;exact key j _ gj (fun h=>b0 h.symm) a0 c0
  ·rename_i g0
   split at a0
   ·exact key i _ gi (fun h=>g0 h.symm) c0 a0
   ·have:=P7a S.apart gi gj c0 a0;omega
theorem St.changed{G:List Nat}{L':List Ent}(S:St M w0 w L)(hb:H0a G w w')(hG:∀g∈G,w0.heap.size≤g∨g∈M)(a0:L'.map (·.1)=L.map (·.1))(b0:∀b∈L',∀g,b.1=some g→p0a w' (g,b.2)):St M w0 w' L':=by
 refine⟨⟨hb.os.trans S.below.os,hb.tape.trans S.below.tape,hb.output.trans S.below.output,Nat.le_trans S.size hb.size,fun k hk hm=>?_⟩,fun b hm g hg=>⟨?_,b0 b hm g hg⟩,?_⟩
 ·refine(hb.block k (Nat.lt_of_lt_of_le hk S.size) fun h=>?_).trans (S.below.block k hk hm);rcases hG k h with h'|h'
  ·omega
  ·exact hm h'
 ·obtain⟨i,hi⟩:=List.getElem?_of_mem hm;have h1:(L'.map (·.1))[i]?=some (some g):=by simp[hi,hg]
  rw[a0] at h1;simp only[List.getElem?_map,Option.map_eq_some_iff] at h1;obtain⟨c,hc,c0⟩:=h1;exact(S.own c (List.mem_of_getElem? hc) g c0).1
 ·have key:∀(X:List Ent),(X.Pairwise fun b b'=>∀g,b.1=some g→b'.1≠some g)↔((X.map (·.1)).Pairwise fun x y=>∀g,x=some g→y≠some g):=fun X=>by rw[List.pairwise_map]
  rw[key,a0,←key];exact S.apart
theorem St.changed1{g t t':Nat}{cs b0:LV}(S:St M w0 w L)(i:Nat)(hi:L[i]?=some (some g,t,cs))(hb:H0a [g] w w')(h1:p0a w' (g,t',b0)):St M w0 w' (L.set i (some g,t',b0)):=by
 have d0:i<L.length:=(List.getElem?_eq_some_iff.1 hi).1;refine S.changed hb (fun x hx=>?_) ?_ (fun b hm x hx=>?_)
 ·simp at hx;subst hx;exact S.new i hi
 ·apply List.ext_getElem?;intro m;simp only[List.getElem?_map,List.getElem?_set]
  split
  ·rename_i h;subst h;rw[hi];rfl
  ·rfl
 ·obtain⟨m,a0⟩:=List.getElem?_of_mem hm;rw[List.getElem?_set] at a0
  split at a0
  ·rename_i h;subst h;cases a0;cases hx;exact h1
  ·rename_i c0;have ho:=S.own b (List.mem_of_getElem? a0) x hx;exact(hb.block x ho.2.lt (fun hh=>by simp at hh;subst hh;exact c0 (P7a S.apart hi a0 Z hx))).trans ho.2
theorem St.changed2{g g' t t':Nat}{cs c0 ds d0:LV}(S:St M w0 w L)(i j:Nat)(hi:L[i]?=some (some g,t,cs))(hj:L[j]?=some (some g',t',ds))(hb:H0a [g,g'] w w')
 (h1:p0a w' (g,t,c0)) (h2:p0a w' (g',t',d0)):St M w0 w' ((L.set i (some g,t,c0)).set j (some g',t',d0)):=by
 have f0:i<L.length:=(List.getElem?_eq_some_iff.1 hi).1;have g0:j<L.length:=(List.getElem?_eq_some_iff.1 hj).1;refine S.changed hb (fun x hx=>?_) ?_ (fun b hm x hx=>?_)
 ·simp at hx;rcases hx with rfl|rfl
  ·exact S.new i hi
  ·exact S.new j hj
 ·apply List.ext_getElem?;intro m;simp only[List.getElem?_map,List.getElem?_set,List.length_set]
  split
  ·rename_i h;subst h;rw[hj];rfl
  ·split
   ·rename_i h;subst h;rw[hi];rfl
   ·rfl
 ·obtain⟨m,a0⟩:=List.getElem?_of_mem hm;rw[List.getElem?_set] at a0
  split at a0
  ·rename_i h;subst h
   split at a0
   ·cases a0;cases hx;exact h2
   ·cases a0
  ·rename_i e0;rw[List.getElem?_set] at a0
   split at a0
   ·rename_i h;subst h;cases a0;cases hx;exact h1
   ·rename_i b0;have ho:=S.own b (List.mem_of_getElem? a0) x hx;exact(hb.block x ho.2.lt (fun hh=>by
     simp at hh;rcases hh with rfl|rfl
     ·exact b0 (P7a S.apart hi a0 Z hx)
     ·exact e0 (P7a S.apart hj a0 Z hx))).trans ho.2
theorem St.set(S:St M w0 w L)(k:Nat){g t:Nat}{cs:LV}(hk:L[k]?=some (some g,t,cs))(o:Nat)(v:Value):
 St M w0 (w.setCell ⟨g,o,none⟩ v) (L.set k (some g,t,cs.set o v)):=by
 have hg:=S.own _ (List.mem_of_getElem? hk) g Z;refine S.replace k hk (S.below.setCell o v hg.1) (fun b _ b0=>Below.heap_setCell w ⟨g,o,none⟩ v b (fun h=>b0 (by rw[h]))) (fun g' a0=>?_);cases a0;exact⟨hg.1,b9a hg.2 o v,.inl Z⟩
end
variable {P:Program} {r:Option Nat} {N:Nat} {D:List Deferred} {e:Env} {w w0:World} {ops:Array Oper} {rest:List Oper} {K:List Deferred→Env→World→Prop} {L:List Ent} {M:List Nat}
section
variable {d:Nat} {t:TypeId} {p:String} {af:Array Edge}
theorem J0a{x:Operand}{v:Value}(hd:Nat.ble (d+1) N=true)(h:WL P r N ops rest K D (upd e d v) w)(hv:ev e x=v:=by conv=>lhs;whnf):WL P r N ops (⟨some d,.move x,t,p,af,none⟩::rest) K D e w :=
 U0a Z Z hd (by simp only[execOp,hv,Sem.run_pure]) h
theorem B0a{x:Operand}{v:Value}(hd:Nat.ble (d+1) N=true)(h:WL P r N ops rest K D (upd e d v) w)(hv:ev e x=v:=by conv=>lhs;whnf):WL P r N ops (⟨some d,.assign x,t,p,af,none⟩::rest) K D e w :=
 U0a Z Z hd (by simp only[execOp,hv,Sem.run_pure]) h
theorem E3d{el:TypeId}{x:Operand}{v:Value}{cs:LV}(S:St M w0 w L)(hv:ev e x=v)(a0:v.cells.toList=cs)(hd:Nat.ble (d+1) N=true)
 (h:∀g w1,St M w0 w1 ((some g,el,cs)::L)→x0a [] w w1→w.heap.size≤g→WL P r N ops rest K D (upd e d (.pointer (some ⟨g,0,none⟩))) w1) :
 WL P r N ops (⟨some d,.box el x,t,p,af,none⟩::rest) K D e w:=by
 refine U0a (v:=.pointer (some ⟨w.heap.size,0,none⟩)) (w':=w.alloc (.cells cs.toArray el)) Z Z hd ?_ (h _ _ (S.alloc el cs) (G1a _ _ _) (Nat.le_refl _));subst a0;simp[execOp,Instr.box,newVar,newRow,hv]
theorem o0a{el:TypeId}{x:Operand}{cs:LV}(S:St M w0 w L)(hd:Nat.ble (d+1) N=true)
 (h:∀g w1,St M w0 w1 ((some g,el,cs)::L)→x0a [] w w1→w.heap.size≤g→WL P r N ops rest K D (upd e d (.pointer (some ⟨g,0,none⟩))) w1) (hv:ev e x=.agg cs.toArray:=by conv=>lhs;whnf) :
 WL P r N ops (⟨some d,.box el x,t,p,af,none⟩::rest) K D e w:=E3d S hv (by simp[Value.cells]) hd h
theorem n2b{el:TypeId}{x:Operand}{v:Value}(S:St M w0 w L)(hv:ev e x=v)(a0:v.cells.toList=[v])(hd:Nat.ble (d+1) N=true)
 (h:∀g w1,St M w0 w1 ((some g,el,[v])::L)→x0a [] w w1→w.heap.size≤g→WL P r N ops rest K D (upd e d (.pointer (some ⟨g,0,none⟩))) w1) :
 WL P r N ops (⟨some d,.box el x,t,p,af,none⟩::rest) K D e w:=E3d S hv a0 hd h
theorem g0a{el:TypeId}{z:Value}{cs:LV}(S:St M w0 w L)(hz:∀w,(zeroValue el).run P w=.ok z w)(a0:z.cells.toList=cs)(hd:Nat.ble (d+1) N=true)
 (h:∀g w1,St M w0 w1 ((some g,el,cs)::L)→x0a [] w w1→w.heap.size≤g→WL P r N ops rest K D (upd e d (.pointer (some ⟨g,0,none⟩))) w1) :
 WL P r N ops (⟨some d,.alloc el,t,p,af,none⟩::rest) K D e w:=by
 refine U0a (v:=.pointer (some ⟨w.heap.size,0,none⟩)) (w':=w.alloc (.cells cs.toArray el)) Z Z hd ?_ (h _ _ (S.alloc el cs) (G1a _ _ _) (Nat.le_refl _));subst a0;simp[execOp,Instr.alloc,newVar,newRow,hz]
def FA(P:Program)(s f off:Nat):Prop:=∀(w:World) (a:Addr),(Instr.fieldAt s (.pointer (some a)) f).run P w=.ok (.pointer (some (a.add off))) w
theorem P1a{s f c0 n:Nat}{fs:Array Field}{b0:Field}(hu:P.underlying s=some (.struct fs))(hf:fs[f]?=some b0)(ho:b0.offset=c0)
 (hi:(P.info? b0.type).map (·.size)=some (n+1):=by kernel_rfl):FA P s f c0:=by
 intro w a;cases a0:P.info? b0.type with
 | none=>rw[a0] at hi;cases hi
 | some i =>
   rw[a0] at hi;have d0:i.size=n+1:=by simpa using hi
   simp[Instr.fieldAt,run_underlying hu,hf,Instr.sureAddr,fieldPlace,sizeOf,typeInfo,a0,d0,ho]
def One(P:Program)(t:TypeId):Prop:=∀(w:World) (a:Addr),(loadVar t a).run P w=(load a).run P w
theorem K2a{t:TypeId}{ds:TypeDesc}(hu:P.underlying t=some ds)(h1:∀fs,ds≠.struct fs)(h2:∀n e,ds≠.array n e):One P t:=by
 intro w a;have:(isAgg t).run P w=.ok false w:=by
  simp only[isAgg,Sem.run_bind,run_underlying hu,Result.andThen_ok];cases ds<;>rfl
 simp only[loadVar,Sem.run_bind,this,Result.andThen_ok];rfl
theorem G0a{ty b o:Nat}{x:Operand}{v:Value}(h1:One P ty)(hx:ev e x=.pointer (some ⟨b,o,none⟩))(hc:w.cell? ⟨b,o,none⟩=some v)(hd:Nat.ble (d+1) N=true)
 (h:WL P r N ops rest K D (upd e d v) w):WL P r N ops (⟨some d,.load ty x,t,p,af,none⟩::rest) K D e w :=
 U0a Z Z hd (by simp[execOp,hx,Instr.loadAt,Instr.sureAddr,h1 w,hc]) h
def Cells(w:World)(b o:Nat)(cs:LV):Prop:=∀j v,cs[j]?=some v→w.cell? ⟨b,o+j,none⟩=some v
theorem St.cells(S:St M w0 w L)(k:Nat){g t:Nat}{cs:LV}(hk:L[k]?=some (some g,t,cs)):Cells w g 0 cs :=
 fun j v hj=>by rw[Nat.zero_add];exact S.cell k hk hj
def M8a(P:Program)(t:TypeId)(n:Nat):Prop:=∀(w:World) (a:Addr),(loadVar t a).run P w=((loadCells a n).run P w).andThen fun cs w=>.ok (.agg cs) w
theorem C2a{t:TypeId}{n:Nat}(h1:(P.underlying t).elim False (fun ds=>(∃fs,ds=.struct fs)∨∃k el,ds=.array k el))(hn:(P.info? t).map (·.size)=some n:=by kernel_rfl):M8a P t n:=by
 intro w a;cases hu:P.underlying t with
 | none=>rw[hu] at h1;exact h1.elim
 | some ds =>
   rw[hu] at h1;have a0:(isAgg t).run P w=.ok true w:=by
    simp only[isAgg,Sem.run_bind,run_underlying hu,Result.andThen_ok];rcases h1 with⟨fs,rfl⟩|⟨k,el,rfl⟩<;>rfl
   have b0:(sizeOf t).run P w=.ok n w:=by
    cases hi:P.info? t with
    | none=>rw[hi] at hn;cases hn
    | some i=>rw[hi] at hn;simp at hn;simp[sizeOf,typeInfo,hi,hn]
   simp only[loadVar,Sem.run_bind,a0,Result.andThen_ok,if_true,b0];rfl
theorem k3a{ty n b o:Nat}{x:Operand}{cs:LV}(hM:M8a P ty n)(hx:ev e x=.pointer (some ⟨b,o,none⟩))(hc:Cells w b o cs)(hn:cs.length=n)(hd:Nat.ble (d+1) N=true)
 (h:WL P r N ops rest K D (upd e d (.agg cs.toArray)) w):WL P r N ops (⟨some d,.load ty x,t,p,af,none⟩::rest) K D e w :=
 U0a Z Z hd (by
  subst hn;have:=run_loadCells_list (P:=P) w ⟨b,o,none⟩ cs (fun j v hj=>by rw[Addr.add_lit];exact hc j v hj);simp[execOp,hx,Instr.loadAt,Instr.sureAddr,hM w,this]) h
def i64(n:Int):Prop:=-9223372036854775808≤n∧n≤9223372036854775807
theorem iO{n:Int}(h:-9223372036854775808≤n∧n≤9223372036854775807:=by omega):i64 n:=h
theorem Z5a{n:Int}(h:i64 n):IntKind.i64.wrap n=n:=by
 rw[IntKind.wrap_i64];unfold i64 at h;omega
variable {x y:Operand} {a b:Int} {xt yt:TypeId} {kd:IntKind}
theorem y0d(hx:ev e x=.int kd a)(hy:ev e y=.int kd b)(hd:Nat.ble (d+1) N=true)(h1:a=b→WL P r N ops rest K D (upd e d (.bool true)) w)(h2:a≠b→WL P r N ops rest K D (upd e d (.bool false)) w):
 WL P r N ops (⟨some d,.binOp .eql xt x y yt,t,p,af,none⟩::rest) K D e w:=by
 by_cases a0:a=b
 ·exact U0a Z Z hd (by simp[execOp,hx,hy,eqGuard_at_int,binOp_eql,a0]) (h1 a0)
 ·exact U0a Z Z hd (by simp[execOp,hx,hy,eqGuard_at_int,binOp_eql,a0]) (h2 a0)
theorem N4d(hx:ev e x=.int kd a)(hy:ev e y=.int kd b)(hd:Nat.ble (d+1) N=true)(h1:a≠b→WL P r N ops rest K D (upd e d (.bool true)) w)(h2:a=b→WL P r N ops rest K D (upd e d (.bool false)) w):
 WL P r N ops (⟨some d,.binOp .neq xt x y yt,t,p,af,none⟩::rest) K D e w:=by
 by_cases a0:a=b
 ·exact U0a Z Z hd (by simp[execOp,hx,hy,eqGuard_at_int,binOp_neq,a0]) (h2 a0)
 ·exact U0a Z Z hd (by simp[execOp,hx,hy,eqGuard_at_int,binOp_neq,a0]) (h1 a0)
def SlT(P:Program)(ty size:Nat):Prop:=∃el,P.underlying ty=some (.slice el)∧(P.info? el).map (·.size)=some size
theorem e7a{ty size:Nat}(h:SlT P ty size):∃el,P.underlying ty=some (.slice el)∧∀w,(sizeOf el).run P w=.ok size w:=by
 obtain⟨el,hu,hi⟩:=h;refine⟨el,hu,fun w=>?_⟩;cases hh:P.info? el with
 | none=>rw[hh] at hi;cases hi
 | some i=>rw[hh] at hi;simp at hi;simp[sizeOf,typeInfo,hh,hi]
theorem N0a{ty size b o n c:Nat}{A:Option Addr}(hT:SlT P ty size)(hx:ev e x=.slice A n c)(hA:A=some ⟨b,o,none⟩)(hy:ev e y=.int kd a)(hd:Nat.ble (d+1) N=true)
 (h:WL P r N ops rest K D (upd e d (.pointer (some ⟨b,o+a.toNat*size,none⟩))) w) (h0:0≤a:=by omega) (h1:a<n:=by omega):WL P r N ops (⟨some d,.indexAddr ty x y,t,p,af,none⟩::rest) K D e w:=by
 obtain⟨_,hu,a0⟩:=e7a hT;subst hA;exact U0a Z Z hd (by simp[execOp,Instr.indexAt,hx,hy,asIntOf,run_underlying hu,h0,h1,a0,Addr.add_lit]) h
theorem O3c{f:FuncId}{args:Array Value}{fn:Func}(hf:P.funcs[f]?=some fn)(hn:(fn.name== "runtime.NumGoroutine")=false)(hb:fn.body.isNone=false)(w:World):
 (callFunc f args).run P w=.ok (.enter f args) w:=by
 simp only[callFunc,Sem.run_bind,run_program,Result.andThen_ok,hf,hn,hb,Bool.false_eq_true,if_false];rfl
def Has(P:Program)(f:FuncId):Prop:=∀(args:Array Value) (w:World),(callFunc f args).run P w=.ok (.enter f args) w
theorem f0a{f:FuncId}{fn:Func}(hf:P.funcs[f]?=some fn)(hb:fn.body.isNone=false)(hn:(fn.name== "runtime.NumGoroutine")=false:=by kernel_rfl):Has P f:=fun _ w=>O3c hf hn hb w
theorem a2a{f:FuncId}{args:Array Operand}{at_:Array TypeId}{vs:LV}{R:Value→World→Prop}(hH:Has P f)(a0:args.toList.map (ev e)=vs)(hd:Nat.ble (d+1) N=true)
 (hc:A0a P f vs.toArray w R) (h:∀v w',R v w'→WL P r N ops rest K D (upd e d v) w') :
 WL P r N ops (⟨some d,.call { callee:=.value (.func f),args:=args,argTypes:=at_ },t,p,af,none⟩::rest) K D e w:=by
 refine E7b Z Z hd ?_ hc h;subst a0;have:(args.map (ev e))=(args.toList.map (ev e)).toArray:=by apply Array.ext';simp
 simp[execOp,resolve,Deferred.ofValue,invoke,ev,hH _ w,this]
theorem M7a{f:FuncId}{g:Operand}{caps:Array Value}{args:Array Operand}{at_:Array TypeId}{vs:LV}{R:Value→World→Prop}(hH:Has P f)(hg:ev e g=.func (.func f) #[] caps)
 (a0:args.toList.map (ev e)++caps.toList=vs) (hd:Nat.ble (d+1) N=true)
 (hc:A0a P f vs.toArray w R) (h:∀v w',R v w'→WL P r N ops rest K D (upd e d v) w') :
 WL P r N ops (⟨some d,.call { callee:=.value g,args:=args,argTypes:=at_ },t,p,af,none⟩::rest) K D e w:=by
 refine E7b Z Z hd ?_ hc h;subst a0;have:(args.map (ev e)++caps)=(args.toList.map (ev e)++caps.toList).toArray:=by apply Array.ext';simp
 simp[execOp,resolve,Deferred.ofValue,invoke,hg,hH _ w,this]
theorem A4b{vs:Array Value}{ix:Nat}{v:Value}(hx:ev e x=.tuple vs)(hv:vs[ix]?=some v)(hd:Nat.ble (d+1) N=true)(h:WL P r N ops rest K D (upd e d v) w):
 WL P r N ops (⟨some d,.extract x ix,t,p,af,none⟩::rest) K D e w :=
 U0a Z Z hd (by simp[execOp,hx,Instr.extract,hv]) h
theorem B1a{fn:Fn}{a0:Array Operand}{vs:LV}(b0:a0.toList.map (ev e)=vs)(hd:Nat.ble (d+1) N=true)(h:WL P r N ops rest K D (upd e d (.func fn #[] vs.toArray)) w):
 WL P r N ops (⟨some d,.makeFunc fn #[] a0,t,p,af,none⟩::rest) K D e w:=by
 have hc:(a0.map (ev e))=vs.toArray:=by subst b0;apply Array.ext';simp
 exact U0a Z Z hd (by simp[execOp,Instr.makeFunc,hc]) h
def X7a(z:LV)(off:Nat)(cs:LV):LV:=z.take off++cs++z.drop (off+cs.length)
def Fld(P:Program)(s f off:Nat):Prop:=∀(w:World) (cs:Array Value) (v:Value),cs[off]?=some v→(Instr.field s (.agg cs) f).run P w=.ok v w
theorem e3d{s f c0:Nat}{fs:Array Field}{a0:Field}(hu:P.underlying s=some (.struct fs))(hf:fs[f]?=some a0)(ho:a0.offset=c0){ds:TypeDesc}(hd:P.underlying a0.type=some ds)
 (h1:∀fs,ds≠.struct fs) (h2:∀n e,ds≠.array n e):Fld P s f c0:=by
 intro w cs v hv;have b0:(isAgg a0.type).run P w=.ok false w:=by
  simp only[isAgg,Sem.run_bind,run_underlying hd,Result.andThen_ok];cases ds<;>rfl
 simp[Instr.field,run_underlying hu,hf,asAgg,part,b0,ho,hv]
def Bld(P:Program)(ty:Nat)(z:LV)(pl:List (Nat×Nat)):Prop :=
 ∀(w:World) (parts:List (Nat×Value)) (cs:Array Value),Instr.fill (fun i=>pl[i]?) z.toArray parts=some cs→(Instr.build ty parts.toArray).run P w=.ok (.agg cs) w
theorem q6a{ty:Nat}{z:LV}{pl:List (Nat×Nat)}{fs:Array Field}(hu:P.underlying ty=some (.struct fs))(hz:∀w,(zeroValue ty).run P w=.ok (.agg z.toArray) w)
 (hp:∀w,(fs.mapM fun f=>do pure (f.offset,←sizeOf f.type):Sem (Array (Nat×Nat))).run P w=.ok pl.toArray w):Bld P ty z pl:=by
 intro w a0 cs hf;have b0:=hp w;simp only[Instr.build,Sem.run_bind,hz,Result.andThen_ok,run_underlying hu,Value.cells];rw[b0];simp only[Result.andThen_ok,List.getElem?_toArray,hf];rfl
def t1c(pl:List (Nat×Nat)):LV→List (Nat×Value)→LV
 | z,[]=>z
 | z,(i,v)::rest=>t1c pl (X7a z ((pl[i]?).getD (0,0)).1 v.cells.toList) rest
def R5b(pl:List (Nat×Nat))(n:Nat):List (Nat×Value)→Bool
 | []=>true
 | (i,v)::rest=>(match pl[i]? with
   | none=>false
   | some (off,size)=>v.cells.size==size&&Nat.ble (off+size) n)&&R5b pl n rest
theorem v2b(vs z:LV)(a0:Nat)(h:a0+vs.length≤z.length):
 (vs.toArray.zipIdx.foldl (fun cs (c,j)=>cs.setIfInBounds (a0+j) c) z.toArray)=(X7a z a0 vs).toArray:=by
 have key:∀(vs:LV) (k:Nat) (z:LV),a0+k+vs.length≤z.length →
  ((vs.zipIdx k).foldl (fun cs (c,j)=>Array.setIfInBounds cs (a0+j) c) z.toArray)=(X7a z (a0+k) vs).toArray:=by
  intro vs
  induction vs with
  | nil=>intro k z h;simp[X7a]
  | cons v vs ih =>
    intro k z h;simp only[List.length_cons] at h;simp only[List.zipIdx_cons,List.foldl_cons,List.setIfInBounds_toArray];rw[ih (k+1) (z.set (a0+k) v) (by simp;omega)]
    congr 1
    unfold X7a;have h1:(z.set (a0+k) v).take (a0+(k+1))=z.take (a0+k)++[v]:=by
     rw[←Nat.add_assoc,List.take_add_one,List.take_set_of_le (Nat.le_refl _)];simp[show a0+k<z.length by omega]
    have h2:(z.set (a0+k) v).drop (a0+(k+1)+vs.length)=z.drop (a0+k+(v::vs).length):=by
     rw[List.drop_set_of_lt (by omega)]
     congr 1
     simp only[List.length_cons];omega
    rw[h1,h2];simp
 have:=key vs 0 z (by simpa using h);simpa[←Array.foldl_toList] using this
theorem Y3b{z:LV}{a0:Nat}{vs:LV}(h:a0+vs.length≤z.length):(X7a z a0 vs).length=z.length:=by
 simp[X7a];omega
theorem Z5b(pl:List (Nat×Nat)):∀(a0:List (Nat×Value)) (z:LV),R5b pl z.length a0=true→Instr.fill (fun i=>pl[i]?) z.toArray a0=some (t1c pl z a0).toArray:=by
 intro a0
 induction a0 with
 | nil=>intro z _;rfl
 | cons x rest ih =>
   intro z h;obtain⟨i,v⟩:=x;simp only[R5b,Bool.and_eq_true] at h;obtain⟨h1,h2⟩:=h;cases hp:pl[i]? with
   | none=>rw[hp] at h1;cases h1
   | some q =>
     obtain⟨b0,size⟩:=q;rw[hp] at h1;simp only[Bool.and_eq_true,beq_iff_eq] at h1;obtain⟨h3,h4⟩:=h1;have h4:=Nat.le_of_ble_eq_true h4;have hv:v.cells=v.cells.toList.toArray:=by simp
     have c0:v.cells.toList.length=size:=by simpa using h3
     simp only[Instr.fill,hp,t1c,Option.getD_some];have hc:(v.cells.size≠size||b0+v.cells.size>z.toArray.size)=false:=by
      simp[h3];omega
     simp only[hc,Bool.false_eq_true,if_false];have:=v2b v.cells.toList z b0 (by omega);rw[←hv] at this;rw[this];exact ih _ (by rw[Y3b (by omega)];exact h2)
theorem s0a{ty:Nat}{a0:Array (Nat×Operand)}{z:LV}{pl:List (Nat×Nat)}{vs:List (Nat×Value)}{cs:LV}(hB:Bld P ty z pl)(d0:a0.toList.map (fun q=>(q.1,ev e q.2))=vs)
 (c0:R5b pl z.length vs=true) (b0:t1c pl z vs=cs) (hd:Nat.ble (d+1) N=true) (h:WL P r N ops rest K D (upd e d (.agg cs.toArray)) w) :
 WL P r N ops (⟨some d,.build ty a0,t,p,af,none⟩::rest) K D e w:=by
 have hp:(a0.map fun(i,x)=>(i,ev e x))=vs.toArray:=by subst d0;apply Array.ext';simp
 subst b0;exact U0a Z Z hd (by simp[execOp,hp,hB w vs _ (Z5b pl vs z c0)]) h
structure SlZ (P:Program) (ty el size:Nat) (z:Value) (bytes:Nat):Prop where
 und:P.underlying ty=some (.slice el)
 info:(P.info? el).map (fun i=>(i.zero,i.size,i.bytes))=some (some z,size,bytes)
 zs:z.cells.size=size
 pos:0<size
theorem SlZ.slT{ty el size a0:Nat}{z:Value}(h:SlZ P ty el size z a0):SlT P ty size:=by
 refine⟨el,h.und,?_⟩;have:=h.info;cases hi:P.info? el with
 | none=>rw[hi] at this;cases this
 | some i=>rw[hi] at this;simp at this ⊢;exact this.2.1
theorem SlZ.parts{ty el size a0:Nat}{z:Value}(h:SlZ P ty el size z a0):∃i,P.info? el=some i∧i.zero=some z∧i.size=size∧i.bytes=a0:=by
 have:=h.info;cases hi:P.info? el with
 | none=>rw[hi] at this;cases this
 | some i=>rw[hi] at this;simp at this;exact⟨i,Z,this⟩
theorem p5c(size:Nat):∀(vs:LV) (k:Nat) (a0 rest:LV),a0.length=k*size→rest.length=vs.length*size→(∀v∈vs,v.cells.size=size) →
 Instr.fill (fun i=>some (i*size,size)) (a0++rest).toArray ((vs.zipIdx k).map fun q=>(q.2,q.1))=some (a0++vs.flatMap (·.cells.toList)).toArray:=by
 intro vs
 induction vs with
 | nil=>intro k a0 rest hd hr _;simp at hr;subst hr;simp[Instr.fill]
 | cons v vs ih =>
   intro k a0 rest hd hr hv;have c0:v.cells.size=size:=hv v (by simp);have b0:v.cells.toList.length=size:=by simpa using c0
   simp only[List.length_cons,Nat.add_mul,Nat.one_mul] at hr;simp only[List.zipIdx_cons,List.map_cons,Instr.fill];have hc:(v.cells.size≠size||k*size+v.cells.size>(a0++rest).toArray.size)=false:=by
    simp[c0];omega
   simp only[hc,Bool.false_eq_true,if_false];have d0:v.cells=v.cells.toList.toArray:=by simp
   have hz:=v2b v.cells.toList (a0++rest) (k*size) (by simp;omega);rw[←d0] at hz;rw[hz];have hs:X7a (a0++rest) (k*size) v.cells.toList=(a0++v.cells.toList)++rest.drop size:=by
    unfold X7a;rw[←hd,List.take_left',b0,←List.drop_drop,List.drop_left']
    ·simp
    ·rfl
   rw[hs,ih (k+1) (a0++v.cells.toList) (rest.drop size) (by simp[hd,Nat.add_mul,c0]) (by simp;omega) (fun u hu=>hv u (by simp[hu]))];simp
theorem s5a{ty el size b0 n:Nat}{z:Value}(hS:SlZ P ty el size z b0){vs:LV}(hn:vs.length=n)(h0:0<n)(hbig:n*size≤16777216)(hv:∀v∈vs,v.cells.size=size)(w:World):
 (Instr.buildSlice ty n ((vs.zipIdx 0).map fun q=>(q.2,q.1)).toArray).run P w=.ok (.slice (some ⟨w.heap.size,0,none⟩) n n) (w.alloc (.cells (vs.flatMap (·.cells.toList)).toArray el)):=by
 obtain⟨_,hi,hz,g0,_⟩:=hS.parts;have d0:=hS.pos;have f0:¬(n*size=0):=by
  have:=Nat.mul_pos h0 d0;omega
 have e0:(sizeOf el).run P w=.ok size w:=by simp[sizeOf,typeInfo,hi,g0]
 have i0:(zeroValue el).run P w=.ok z w:=by simp[zeroValue,typeInfo,hi,hz]
 have c0:¬(n*size>2 ^ 24):=by omega
 have a0:=p5c size vs 0 [] ((Array.range (n*size)).map (z.cells[· % z.cells.size]!)).toList (by simp) (by simp[hn]) hv;simp only[List.nil_append,Array.toArray_toList] at a0;simp only[Instr.buildSlice,Sem.run_bind,run_underlying hS.und,Result.andThen_ok,e0,c0,f0,if_false,i0,Sem.run_pure,a0,newRow,run_newObj];rfl
theorem k0a{ty el size b0 n:Nat}{z:Value}{a0:Array (Nat×Operand)}{vs:LV}{cs:LV}(S:St M w0 w L)(hS:SlZ P ty el size z b0)
 (hn:vs.length=n) (h0:Nat.ble 1 n=true) (hbig:Nat.ble (n*size) 16777216=true) (hv:vs.map (·.cells.size)=List.replicate n size)
 (d0:vs.flatMap (·.cells.toList)=cs) (hd:Nat.ble (d+1) N=true)
 (h:∀g w1,St M w0 w1 ((some g,el,cs)::L)→x0a [] w w1→w.heap.size≤g→WL P r N ops rest K D (upd e d (.slice (some ⟨g,0,none⟩) n n)) w1) (e0:a0.toList.map (fun q=>(q.1,ev e q.2))=(vs.zipIdx 0).map fun q=>(q.2,q.1):=by rfl) :
 WL P r N ops (⟨some d,.buildSlice ty n a0,t,p,af,none⟩::rest) K D e w:=by
 have hp:(a0.map fun(i,x)=>(i,ev e x))=((vs.zipIdx 0).map fun q=>(q.2,q.1)).toArray:=by rw[←e0];apply Array.ext';simp
 have hv':∀v∈vs,v.cells.size=size:=fun v hm=>by
  have:v.cells.size∈vs.map (·.cells.size):=List.mem_map.2 ⟨v,hm,Z⟩;rw[hv] at this;exact(List.mem_replicate.1 this).2
 have c0:=s5a hS hn (Nat.le_of_ble_eq_true h0) (Nat.le_of_ble_eq_true hbig) hv' w;subst d0;refine U0a (v:=.slice (some ⟨w.heap.size,0,none⟩) n n) (w':=w.alloc (.cells (vs.flatMap (·.cells.toList)).toArray el)) Z Z hd ?_ (h _ _ (S.alloc el _) (G1a _ _ _) (Nat.le_refl _));simp only[execOp,hp,Sem.run_bind,c0,Result.andThen_ok,Sem.run_pure]
def Sz(P:Program)(ty n:Nat):Prop:=∀w:World,(sizeOf ty).run P w=.ok n w
theorem C3a{ty n:Nat}(h:(P.info? ty).map (·.size)=some n:=by kernel_rfl):Sz P ty n:=by
 intro w;cases hi:P.info? ty with
 | none=>rw[hi] at h;cases h
 | some i=>rw[hi] at h;simp at h;simp[sizeOf,typeInfo,hi,h]
def u9c:Value→Bool
 | .agg _=>false
 | .tuple _=>false
 | _=>true
theorem E9b{ty g o tb:Nat}{cs:LV}{v:Value}(hz:Sz P ty 1)(hb:p0a w (g,tb,cs))(a0:o<cs.length)(h1:u9c v=true):
 (Instr.storeAt ty (.pointer (some ⟨g,o,none⟩)) v).run P w=.ok () (w.setCell ⟨g,o,none⟩ v):=by
 have hc:w.cell? ⟨g,o,none⟩=some cs[o]:=hb.cell (List.getElem?_eq_getElem a0);have hf:=hb.frozen o;have c0:v.cells=#[v]:=by cases v<;>first|rfl|cases h1
 have b0:(store ⟨g,o,none⟩ v).run P w=.ok () (w.setCell ⟨g,o,none⟩ v):=by
  cases v<;>first|(cases h1;done)|simp[store,Sem.run,hc,hf]
 simp only[Instr.storeAt,Instr.sureAddr,Sem.run_bind,Sem.run_pure,Result.andThen_ok,storeVar,c0,hz w];simp[storeCells,Addr.add_zero',b0]
theorem X0a{ty g o tb kk:Nat}{cs:LV}{v:Value}(S:St M w0 w L)(hz:Sz P ty 1)(hx:ev e x=.pointer (some ⟨g,o,none⟩))(h1:u9c v=true)(hk:L[kk]?=some (some g,tb,cs))(ho:o<cs.length)
 (h:∀w1,St M w0 w1 (L.set kk (some g,tb,cs.set o v))→x0a [g] w w1→WL P r N ops rest K D e w1) (hy:ev e y=v:=by conv=>lhs;whnf) :
 WL P r N ops (⟨none,.store ty x y,t,p,af,none⟩::rest) K D e w :=
 t9a Z Z (by simp only[execOp,hx,hy,Sem.run_bind,E9b hz (S.blk kk hk) ho h1,Result.andThen_ok,Sem.run_pure]) (h _ (S.set kk hk o v) (Q9a w g o v))
theorem u7a{ty size lo hi c n o b:Nat}{xl xh:Option Operand}(hT:SlT P ty size)(hx:ev e x=.slice (some ⟨b,o,none⟩) n c)(hl:(xl.map (ev e)=none∧lo=0)∨xl.map (ev e)=some (.int kd (lo:Int)))
 (hh:(xh.map (ev e)=none∧hi=n)∨xh.map (ev e)=some (.int kd (hi:Int))) (h2:hi≤c) (h3:n≤c) (hd:Nat.ble (d+1) N=true)
 (h:WL P r N ops rest K D (upd e d (.slice (some (if c=lo then⟨b,o,none⟩ else⟨b,o+lo*size,none⟩)) (hi-lo) (c-lo))) w) (h1:lo≤hi:=by omega) :
 WL P r N ops (⟨some d,.slice ty x xl xh none,t,p,af,none⟩::rest) K D e w:=by
 obtain⟨_,hu,b0⟩:=e7a hT;have e1:(0:Int)≤(lo:Int)∧(lo:Int)≤(hi:Int):=by omega
 have e2:(0:Int)≤(hi:Int)∧(hi:Int)≤(c:Int):=by omega
 refine U0a Z Z hd ?_ h;have a0:(Instr.slice ty (.slice (some ⟨b,o,none⟩) n c) (xl.map (ev e)) (xh.map (ev e)) none).run P w=.ok (.slice (some (if c=lo then⟨b,o,none⟩ else⟨b,o+lo*size,none⟩)) (hi-lo) (c-lo)) w:=by
  rcases hl with⟨hl,rfl⟩|hl<;>rcases hh with⟨hh,rfl⟩|hh<;>rw[hl,hh] <;>
   simp[Instr.slice,Instr.sliceBounds,Instr.sliceBound,asIntOf,run_underlying hu,b0,e1,e2,h1,h2,Addr.add_lit] <;>
   (split<;>rfl)
 simp only[execOp,Instr.sliceAt,Sem.run_bind,run_underlying hu,Result.andThen_ok,hx,Option.map_none,a0,Sem.run_pure]
def ArT(P:Program)(ty len size:Nat):Prop:=∃el,P.underlying ty=some (.array len el)∧(∀w:World,(sizeOf el).run P w=.ok size w)∧(size=1→∀w:World,(isAgg el).run P w=.ok false w)
theorem C9a{ty len el size:Nat}(hu:P.underlying ty=some (.array len el))(ha:size=1→∀w:World,(isAgg el).run P w=.ok false w)(hz:(P.info? el).map (·.size)=some size:=by kernel_rfl):ArT P ty len size :=
 ⟨el,hu,fun w=>by
  cases hi:P.info? el with
  | none=>rw[hi] at hz;cases hz
  | some i=>rw[hi] at hz;simp at hz;simp[sizeOf,typeInfo,hi,hz],ha⟩
theorem w2a{ty len size b o:Nat}(hT:ArT P ty len size)(hx:ev e x=.pointer (some ⟨b,o,none⟩))(hy:ev e y=.int kd a)(hd:Nat.ble (d+1) N=true)
 (h:WL P r N ops rest K D (upd e d (.pointer (some ⟨b,o+a.toNat*size,none⟩))) w) (h0:0≤a:=by omega) (h1:a<len:=by omega):WL P r N ops (⟨some d,.indexAddr ty x y,t,p,af,none⟩::rest) K D e w:=by
 obtain⟨_,hu,a0,_⟩:=hT;exact U0a Z Z hd (by simp[execOp,Instr.indexAt,Instr.sureAddr,hx,hy,asIntOf,run_underlying hu,h0,h1,a0,Addr.add_lit]) h
theorem o6b{ty len:Nat}{cs:Array Value}{v:Value}(hT:ArT P ty len 1)(hx:ev e x=.agg cs)(hy:ev e y=.int kd a)(hv:cs[a.toNat]?=some v)(hd:Nat.ble (d+1) N=true)
 (h:WL P r N ops rest K D (upd e d v) w) (h0:0≤a:=by omega) (h1:a<len:=by omega):WL P r N ops (⟨some d,.index ty x y,t,p,af,none⟩::rest) K D e w:=by
 obtain⟨_,hu,a0,ha⟩:=hT;exact U0a Z Z hd (by simp[execOp,Instr.index,hx,hy,asIntOf,run_underlying hu,h0,h1,a0,part,ha rfl,hv]) h
def N8a(a b:Int):Int:=bits .and .i64 a b
def bor(a b:Int):Int:=bits .or .i64 a b
def b3c(a b:Int):Int:=bits .xor .i64 a b
def wr(a:Int):Int:=IntKind.i64.wrap a
theorem U4d(hx:ev e x=.int .i64 a)(hy:ev e y=.int .i64 b)(hd:Nat.ble (d+1) N=true)(h:WL P r N ops rest K D (upd e d (.int .i64 (N8a a b))) w):
 WL P r N ops (⟨some d,.binOp .and xt x y yt,t,p,af,none⟩::rest) K D e w :=
 U0a Z Z hd (by simp[execOp,hx,hy,eqGuard_and,binOp_and,intBits_and,N8a]) h
theorem H7c(hx:ev e x=.int .i64 a)(hy:ev e y=.int .i64 b)(hd:Nat.ble (d+1) N=true)(h:WL P r N ops rest K D (upd e d (.int .i64 (wr (a+b)))) w):
 WL P r N ops (⟨some d,.binOp .add xt x y yt,t,p,af,none⟩::rest) K D e w :=
 U0a Z Z hd (by simp[execOp,hx,hy,eqGuard_add,binOp_add,Op.intArith,wr]) h
theorem A2d(hx:ev e x=.int .i64 a)(hy:ev e y=.int .i64 b)(hd:Nat.ble (d+1) N=true)(h:WL P r N ops rest K D (upd e d (.int .i64 (wr (a*b)))) w):
 WL P r N ops (⟨some d,.binOp .mul xt x y yt,t,p,af,none⟩::rest) K D e w :=
 U0a Z Z hd (by simp[execOp,hx,hy,eqGuard_mul,binOp_mul,Op.intArith,wr]) h
theorem J3d(hx:ev e x=.int .i64 a)(hd:Nat.ble (d+1) N=true)(h:WL P r N ops rest K D (upd e d (.int .i64 (wr (0-a)))) w):
 WL P r N ops (⟨some d,.unOp .neg xt x,t,p,af,none⟩::rest) K D e w :=
 U0a Z Z hd (by simp only[execOp,hx,Op.unary,Op.intArith,Sem.run_bind,Sem.run_pure,Result.andThen_ok,wr]) h
theorem F2b{n:Nat}(hx:ev e x=.int .i64 1)(hd:Nat.ble (d+1) N=true)(h:WL P r N ops rest K D (upd e d (.int .i64 ((2 ^ n:Nat):Int))) w)(hy:ev e y=.int .i64 (n:Int):=by rfl)(hn:n≤62:=by omega):
 WL P r N ops (⟨some d,.binOp .shl xt x y yt,t,p,af,none⟩::rest) K D e w :=
 U0a Z Z hd (by
  have h2:(2:Nat) ^ n≤2 ^ 62:=Nat.pow_le_pow_right (by omega) hn;have h3:min n IntKind.i64.bits=n:=by simp[IntKind.bits];omega
  have h4:((1:Int)*2 ^ n)=((2 ^ n:Nat):Int):=by simp
  have h5:IntKind.i64.wrap ((2 ^ n:Nat):Int)=((2 ^ n:Nat):Int):=by
   generalize (2:Nat) ^ n=q at h2;exact Z5a ⟨by omega,by omega⟩
  have h6:¬((n:Int)<0):=by omega
  simp only[execOp,hx,hy,eqGuard_shl,binOp_shl,Op.shift,h6,if_false,Int.toNat_natCast,h3,h4,h5,Sem.run_bind,Sem.run_pure,Result.andThen_ok]) h
theorem P4d{n:Nat}(hx:ev e x=.int .i64 a)(hy:ev e y=.int .i64 (n:Int))(hn:n≤62)(hd:Nat.ble (d+1) N=true)(h:WL P r N ops rest K D (upd e d (.int .i64 (a / ((2 ^ n:Nat):Int)))) w):
 WL P r N ops (⟨some d,.binOp .shr xt x y yt,t,p,af,none⟩::rest) K D e w :=
 U0a Z Z hd (by
  have h3:min n IntKind.i64.bits=n:=by simp[IntKind.bits];omega
  have h6:¬((n:Int)<0):=by omega
  have h7:a.fdiv (2 ^ n)=a / ((2 ^ n:Nat):Int):=by
   rw[Int.fdiv_eq_ediv_of_nonneg]
   ·simp
   ·exact Int.le_of_lt (Int.pow_pos (by omega))
  simp only[execOp,hx,hy,eqGuard_shr,binOp_shr,Op.shift,h6,if_false,Int.toNat_natCast,h3,h7,Sem.run_bind,Sem.run_pure,Result.andThen_ok]) h
def e0a(cs:LV)(o:Nat):LV→LV
 | []=>cs
 | v::vs=>e0a (cs.set o v) (o+1) vs
theorem St.setN{g tb kk o:Nat}:∀(vs:LV) (i:Nat) (cs:LV) (w:World) (L:List Ent),L[kk]?=some (some g,tb,cs)→St M w0 w L→o+i+vs.length≤cs.length→(∀v∈vs,u9c v=true) →
 ∃w1,(storeCells ⟨g,o,none⟩ vs i).run P w=.ok () w1∧St M w0 w1 (L.set kk (some g,tb,e0a cs (o+i) vs))∧x0a [g] w w1:=by
 intro vs
 induction vs with
 | nil =>
   intro i cs w L hk S _ _;refine⟨w,Z,?_,x0a.refl _ _⟩;obtain⟨b0,he⟩:=List.getElem?_eq_some_iff.1 hk;have:L.set kk (some g,tb,cs)=L:=by rw[←he];exact List.set_getElem_self b0
   simp only[e0a,this];exact S
 | cons v vs ih =>
   intro i cs w L hk S a0 h1;simp only[List.length_cons] at a0;have hb:=S.blk kk hk;have b0:o+i<cs.length:=by omega
   have hc:w.cell? ⟨g,o+i,none⟩=some cs[o+i]:=hb.cell (List.getElem?_eq_getElem b0);have hf:=hb.frozen (o+i);have e0:u9c v=true:=h1 v (by simp);have d0:(store ⟨g,o+i,none⟩ v).run P w=.ok () (w.setCell ⟨g,o+i,none⟩ v):=by
    cases v<;>first|(cases e0;done)|simp[store,Sem.run,hc,hf]
   have S1:=S.set kk hk (o+i) v;have c0:kk<L.length:=(List.getElem?_eq_some_iff.1 hk).1;obtain⟨w1,h2,h3,h4⟩:=ih (i+1) (cs.set (o+i) v) (w.setCell ⟨g,o+i,none⟩ v) (L.set kk (some g,tb,cs.set (o+i) v)) (by simp[c0]) S1 (by simp;omega) (fun u hu=>h1 u (by simp[hu]));refine⟨w1,?_,?_,(Q9a w g (o+i) v).trans h4⟩
   ·simp only[storeCells,Addr.add_lit,Sem.run_bind,d0,Result.andThen_ok,h2]
   ·rw[List.set_set] at h3;simpa only[e0a,Nat.add_assoc] using h3
theorem d0a{ty g o tb kk n:Nat}{cs vs:LV}{av:Array Value}(S:St M w0 w L)(hz:Sz P ty n)(hx:ev e x=.pointer (some ⟨g,o,none⟩))(hy:ev e y=.agg av)(a0:av.toList=vs)(hn:vs.length=n)(h1:vs.all u9c=true)(hk:L[kk]?=some (some g,tb,cs))(ho:Nat.ble (o+n) cs.length=true)
 (h:∀w1,St M w0 w1 (L.set kk (some g,tb,e0a cs o vs))→x0a [g] w w1→WL P r N ops rest K D e w1) :
 WL P r N ops (⟨none,.store ty x y,t,p,af,none⟩::rest) K D e w:=by
 have c0:=Nat.le_of_ble_eq_true ho;obtain⟨w1,h2,h3,h4⟩:=St.setN (P:=P) (o:=o) vs 0 cs w L hk S (by omega) (fun v hv=>List.all_eq_true.1 h1 v hv);refine t9a Z Z ?_ (h w1 h3 h4);have b0:av.size=n:=by rw[←hn,←a0];simp
 simp only[execOp,hx,hy,Instr.storeAt,Instr.sureAddr,Sem.run_bind,Sem.run_pure,Result.andThen_ok,storeVar,Value.cells,hz w,b0,ne_eq,not_true,if_false,a0,h2]
theorem St.push_more{w1:World}{L1:List Ent}(S:St M w0 w1 (L1++L))(Sw:St M w0 w L){g t:Nat}{cs:LV}(hg:p0a w1 (g,t,cs))(a0:w.heap.size≤g)(hn:∀b∈L1,b.1≠some g):St M w0 w1 ((some g,t,cs)::(L1++L)) :=
 S.push hg (.inl (Nat.le_trans Sw.size a0)) (fun b hb=>by
  rcases List.mem_append.1 hb with h|h
  ·exact hn b h
  ·intro hh;have:=(Sw.own b h g hh).2.lt;simp at this;omega)
end
def Z9c(o:Oper):List Nat:=(o.after.toList.filter (Region.binds .any ·)).map (·.on)
def d1a(l:List Oper)(i:Nat):List Nat:=((l[i]?).map Z9c).getD []
def T3b(l:List Oper):Nat→List Nat→List Nat
 | 0,m=>m
 | f+1,m=>T3b l f ((m++m.flatMap (d1a l)).eraseDups)
def Lst(listed:Array Bool)(i:Nat):Prop:=listed.getD i false=true
def T8b(l:List Oper)(listed:Array Bool):Prop:=∀i,Lst listed i→∀j∈d1a l i,Lst listed j
theorem t7a{l:List Oper}{listed:Array Bool}(hc:T8b l listed):∀(f:Nat) (m:List Nat),(∀i∈m,Lst listed i)→∀i∈T3b l f m,Lst listed i:=by
 intro f
 induction f with
 | zero=>exact fun m h=>h
 | succ f ih =>
   intro m h;refine ih _ fun i hi=>?_;rw[List.mem_eraseDups,List.mem_append] at hi;rcases hi with hi|hi
   ·exact h i hi
   ·obtain⟨j,hj,a0⟩:=List.mem_flatMap.1 hi;exact hc j (h j hj) i a0
def f4a(l:List Oper)(i:Nat):List Nat:=T3b l l.length (d1a l i)
theorem J4b{l:List Oper}{listed:Array Bool}(hc:T8b l listed){i:Nat}(h:Lst listed i):∀j∈f4a l i,Lst listed j:=t7a hc _ _ (hc i h)
theorem H7a{l:List Oper}{listed:Array Bool}(hc:T8b l listed){i:Nat}(h:∀j∈d1a l i,Lst listed j):∀j∈f4a l i,Lst listed j:=t7a hc _ _ h
def N1a(l:List Oper)(i:Nat):Option Nat:=(l[i]?).bind (·.dst)
def looksAt(l:List Oper)(i:Nat):List Nat:=((l[i]?).map (Oper.looksAt l.toArray)).getD []
def Op.isSelect:Op→Bool
 | .select _ _=>true
 | _=>false
def Op.isDefer:Op→Bool
 | .defer _=>true
 | _=>false
def ready(l:List Oper)(listed:List Nat):List Nat :=
 (List.range l.length).filter fun i=>!listed.contains i&&(d1a l i).all (listed.contains ·)
def I2b(l:List Oper):List Nat→List Nat→Bool
 | listed,[]=>ready l listed==[]
 | listed,t::ts=>ready l listed==[t]&&I2b l (t::listed) ts
def Z2c(l:List Oper)(A B T:List Nat):Bool :=
 ((List.range l.length).all fun i=>(A++B++T).contains i)&&((A++B++T).all fun i=>decide (i<l.length))&&decide ((A++B++T).Pairwise (·≠·)) &&
 ((A++B).all fun i=>(N1a l i).isSome)&&decide (((A++B).map (N1a l)).Pairwise (·≠·)) &&
 (l.all fun o=>!Op.isSelect o.op&&!Op.isDefer o.op)&&((List.range l.length).all fun i=>(d1a l i).all fun j=>decide (j<i)) &&
 ((List.range A.length).all fun p=>(List.range A.length).all fun q =>
   let i:=A.getD p 0;let j:=A.getD q 0
   !((N1a l j).any fun s=>(looksAt l i).contains s)||(if q<p then(f4a l i).contains j else if p<q then(f4a l j).contains i else false)) &&
 (A.all fun i=>B.all fun j=>!((N1a l j).any fun s=>(looksAt l i).contains s)) &&
 (B.all fun i=>A.all fun j=>!((N1a l j).any fun s=>(looksAt l i).contains s)||(f4a l i).contains j) &&
 (B.all fun i=>B.all fun j=>!((N1a l j).any fun s=>(looksAt l i).contains s)) &&
 (T.all fun t=>(A++B).all fun i=>(f4a l t).contains i) &&
 I2b l (A++B) T
def V3a(e:Env):List (Nat×Value)→Env
 | []=>e
 | (d,v)::r=>V3a (upd e d v) r
theorem E5a:∀(l:List (Nat×Value)) (e:Env) (s:Nat),s∉l.map (·.1)→V3a e l s=e s
 | [],_,_,_=>rfl
 | (d,v)::r,e,s,h=>by
   have h1:s≠d:=fun hh=>h (by simp[hh]);rw[V3a,E5a r _ s (fun hh=>h (by simp[hh])),v1a _ _ h1]
theorem B6a:∀(l:List (Nat×Value)) (e:Env) (k d:Nat) (v:Value),(l.map (·.1)).Pairwise (·≠·)→l[k]?=some (d,v)→V3a e l d=v
 | [],_,_,_,_,_,h=>by simp at h
 | (d',v')::r,e,0,d,v,hp,h=>by
   simp only[List.getElem?_cons_zero,Option.some.injEq,Prod.mk.injEq] at h;obtain⟨rfl,rfl⟩:=h;simp only[List.map_cons,List.pairwise_cons] at hp;rw[V3a,E5a r _ _ (fun hm=>(hp.1 _ hm) rfl),Y2a]
 | (d',v')::r,e,k+1,d,v,hp,h=>by
   simp only[List.map_cons,List.pairwise_cons] at hp;exact B6a r _ k d v hp.2 (by simpa using h)
def a1a(ops:Array Oper)(e:Env)(o:Oper):Bool :=
 match o.guard with
 | none=>true
 | some (j,want)=>((ops[j]?).bind (·.dst)).any fun s=>isB want (e s)
theorem p1a{ops:Array Oper}{a:Act}(o:Oper):Region.wanted o (yielded ops a.tmps)=a1a ops (P0a a) o:=by
 unfold Region.wanted a1a;cases hg:o.guard with
 | none=>rfl
 | some jw =>
   obtain⟨j,_⟩:=jw;simp only[yielded,P0a,Array.getD_eq_getD_getElem?];cases hd:(ops[j]?).bind (·.dst) with
   | none=>simp
   | some s =>
     simp only[Option.bind_some,Option.any_some];cases hs:a.tmps[s]? with
     | none=>rfl
     | some v=>cases v<;>simp[isB]
def U8c(P:Program)(ops:Array Oper)(C:World→Prop)(o:Oper)(e:Env)(v:Value):Prop :=
 (a1a ops e o=true∧∀w,C w→(execOp (ev e) o).run P w=.ok (.value v) w ∨
   ∃f args,(execOp (ev e) o).run P w=.ok (.enter f args) w∧A0a P f args w (fun v' w'=>v'=v∧C w'∧x0a [] w w')) ∨
 (a1a ops e o=false∧v=undef)
@[irreducible] def QL(P:Program)(N:Nat)(ops:Array Oper)(C:World→Prop)(l:List Oper)(K:Env→Prop)(e:Env):Prop :=
 ∃pa:List (Nat×Value),pa.length=l.length∧(∀p o,l[p]?=some o→∃d v,pa[p]?=some (d,v)∧o.dst=some d∧d<N∧U8c P ops C o (V3a e (pa.take p)) v)∧K (V3a e pa)
section
variable {P:Program} {N:Nat} {ops:Array Oper} {C:World→Prop} {rest:List Oper} {K:Env→Prop} {e:Env}
theorem n0a(h:K e):QL P N ops C [] K e:=by
 unfold QL;exact⟨[],Z,by simp,h⟩
theorem z3b{o:Oper}{d:Nat}{v:Value}(hd:o.dst=some d)(hN:Nat.ble (d+1) N=true)(hq:U8c P ops C o e v)(h:QL P N ops C rest K (upd e d v)):QL P N ops C (o::rest) K e:=by
 unfold QL at *;obtain⟨pa,hl,hp,hK⟩:=h;refine⟨(d,v)::pa,by simp[hl],?_,hK⟩;intro p o' a0;cases p with
 | zero =>
   simp only[List.getElem?_cons_zero,Option.some.injEq] at a0;subst a0;exact⟨d,v,Z,hd,Nat.le_of_ble_eq_true hN,hq⟩
 | succ p =>
   simp only[List.getElem?_cons_succ] at a0;obtain⟨d',v',h1,h2,h3,h4⟩:=hp p o' a0;exact⟨d',v',by simpa using h1,h2,h3,by simpa[V3a] using h4⟩
theorem D2a{o:Oper}{d:Nat}{v:Value}(hg:o.guard=none)(hd:o.dst=some d)(hN:Nat.ble (d+1) N=true)(a0:∀w,C w→(execOp (ev e) o).run P w=.ok (.value v) w)
 (h:QL P N ops C rest K (upd e d v)):QL P N ops C (o::rest) K e :=
 z3b hd hN (.inl ⟨by simp[a1a,hg],fun w hw=>.inl (a0 w hw)⟩) h
theorem s1c{o:Oper}{d:Nat}{v:Value}{f:FuncId}{args:Array Value}(hg:o.guard=none)(hd:o.dst=some d)(hN:Nat.ble (d+1) N=true)
 (a0:∀w,(execOp (ev e) o).run P w=.ok (.enter f args) w) (hc:∀w,C w→A0a P f args w (fun v' w'=>v'=v∧C w'∧x0a [] w w')) (h:QL P N ops C rest K (upd e d v)):QL P N ops C (o::rest) K e :=
 z3b hd hN (.inl ⟨by simp[a1a,hg],fun w hw=>.inr ⟨f,args,a0 w,hc w hw⟩⟩) h
theorem y1a{d:Option Nat}{op:Op}{t:TypeId}{p:String}{af:Array Edge}{j s:Nat}{a0:Bool}(hs:(ops[j]?).bind (·.dst)=some s)(hb:isB a0 (e s)=true)
 (h:QL P N ops C (⟨d,op,t,p,af,none⟩::rest) K e):QL P N ops C (⟨d,op,t,p,af,some (j,a0)⟩::rest) K e:=by
 unfold QL at *;obtain⟨pa,hl,hp,hK⟩:=h;refine⟨pa,hl,fun q o hq=>?_,hK⟩;cases q with
 | zero =>
   simp only[List.getElem?_cons_zero,Option.some.injEq] at hq;subst hq;obtain⟨d',v',h1,h2,h3,h4⟩:=hp 0 _ Z;refine⟨d',v',h1,h2,h3,.inl ⟨by simp[a1a,hs,V3a,hb],fun w hw=>?_⟩⟩;rcases h4 with⟨_,h4⟩|⟨h4,_⟩
   ·exact h4 w hw
   ·simp[a1a] at h4
 | succ q=>exact hp (q+1) o hq
theorem P3a{d:Nat}{op:Op}{t:TypeId}{p:String}{af:Array Edge}{j s:Nat}{a0:Bool}(hs:(ops[j]?).bind (·.dst)=some s)(hb:isB a0 (e s)=false)(hN:Nat.ble (d+1) N=true)
 (h:QL P N ops C rest K (upd e d undef)):QL P N ops C (⟨some d,op,t,p,af,some (j,a0)⟩::rest) K e :=
 z3b Z hN (.inr ⟨by simp[a1a,hs,hb],Z⟩) h
end
abbrev x5a:=Option (Value→World→Prop)
def d1b(φ:Value→World→Prop):Prop:=∀v w w',φ v w→x0a [] w w'→φ v w'
def w5a:Value→Option Nat
 | .slice (some a) _ _=>some a.block
 | .pointer (some a)=>some a.block
 | _=>none
def V3d(P:Program)(C:World→Prop)(o:Oper)(e:Env)(φ:Value→World→Prop):Prop :=
 (∀v w g,φ v w→w5a v=some g→g<w.heap.size) ∧
   ∀w,C w→∃v w',(execOp (ev e) o).run P w=.ok (.value v) w'∧C w'∧x0a [] w w'∧φ v w'∧∀g,w5a v=some g→w.heap.size≤g
def BOk(P:Program)(ops:Array Oper)(C:World→Prop)(o:Oper)(e:Env):x5a→Prop
 | none=>a1a ops e o=false
 | some φ=>a1a ops e o=true∧d1b φ∧(V3d P C o e φ∨∀w,C w→(∃v w',(execOp (ev e) o).run P w=.ok (.value v) w'∧C w'∧x0a [] w w'∧φ v w') ∨
  ∃f args,(execOp (ev e) o).run P w=.ok (.enter f args) w∧A0a P f args w (fun v w'=>C w'∧x0a [] w w'∧φ v w'))
def Z3c(w:World)(s:x5a)(v:Value):Prop:=match s with
 | none=>v=undef
 | some φ=>φ v w
def Nw(P:Program)(l:List Oper)(C:World→Prop)(B:List Nat)(sp:List x5a)(e:Env)(q:Nat):Prop :=
 ∃φ b o,sp[q]?=some (some φ)∧B[q]?=some b∧l[b]?=some o∧V3d P C o e φ
def BK(P:Program)(r:Option Nat)(N:Nat)(l:List Oper)(C:World→Prop)(B T:List Nat)(k:List Deferred→Env→World→Prop)(D:List Deferred)(e:Env):Prop :=
 ∃sp:List x5a,sp.length=B.length∧(∀(q b:Nat) (o:Oper) (s:x5a),B[q]?=some b→l[b]?=some o→sp[q]?=some s→BOk P l.toArray C o e s) ∧
  ∀(w:World) (V:Nat→Value),C w→(∀(q:Nat) (s:x5a),sp[q]?=some s→Z3c w s (V q)) →
   (∀q q' g,q≠q'→Nw P l C B sp e q→Nw P l C B sp e q'→w5a (V q)=some g→w5a (V q')=some g→False) →
   WL P r N l.toArray (T.filterMap (l[·]?)) k D (V3a e ((List.range B.length).map fun q=>((N1a l (B.getD q 0)).getD 0,V q))) w
section
variable {P:Program} {r:Option Nat} {N:Nat} {l:List Oper} {Q:Exit→Act→World→Prop}
theorem Z8a(h:((List.range l.length).all fun i=>(d1a l i).all fun j=>decide (j<i))=true){i j:Nat}(hj:j∈d1a l i):j<i:=by
 have hi:i<l.length:=by
  rcases Nat.lt_or_ge i l.length with h'|h'
  ·exact h'
  ·simp[d1a,List.getElem?_eq_none h'] at hj
 simpa using List.all_eq_true.1 (List.all_eq_true.1 h i (List.mem_range.2 hi)) j hj
theorem U4a{listed:Array Bool}{i:Nat}(b0:listed.size=l.length):i∈Region.ready .any l.toArray listed↔(i<l.length∧¬Lst listed i∧∀j∈d1a l i,Lst listed j):=by
 rw[mem_ready];constructor
 ·rintro⟨h1,o,ho,h2⟩;have a0:l[i]?=some o:=by simpa using ho
  have hi:i<l.length:=(List.getElem?_eq_some_iff.1 a0).1;refine⟨hi,?_,fun j hj=>?_⟩
  ·unfold Lst;have:i<listed.size:=by omega
   simp[this] at h1 ⊢;exact h1
  ·simp only[d1a,a0,Option.map_some,Option.getD_some,Z9c,List.mem_map,List.mem_filter] at hj;obtain⟨ed,⟨he,hb⟩,rfl⟩:=hj;exact h2 ed (by simpa using he) hb
 ·rintro⟨hi,h1,h2⟩;refine⟨?_,l[i],by simp[hi],fun ed he hb=>h2 _ ?_⟩
  ·unfold Lst at h1;have:i<listed.size:=by omega
   simp[this] at h1 ⊢;exact h1
  ·simp only[d1a,List.getElem?_eq_getElem hi,Option.map_some,Option.getD_some,Z9c,List.mem_map,List.mem_filter];exact⟨ed,⟨by simpa using he,hb⟩,Z⟩
theorem z2a{listed:Array Bool}{i j:Nat}(hi:i<listed.size):Lst (listed.setIfInBounds i true) j↔j=i∨Lst listed j:=by
 unfold Lst;by_cases h:i=j
 ·subst h;simp[hi]
 ·have h':j≠i:=fun e=>h e.symm;simp[Array.getElem?_setIfInBounds_ne h,h']
theorem X7b:∀(T a0:List Nat) (listed:Array Bool) (fuel:Nat) (a:Act) (w:World),I2b l a0 T=true→listed.size=l.length→(∀i,Lst listed i↔i∈a0)→T.length≤fuel →
 wpListIn (fc r) 0 P l.toArray Q (T.filterMap (l[·]?)) a w→wpAnyIn (fc r) 0 P .any l.toArray Q fuel listed a w:=by
 have d0:∀(a0:List Nat) (listed:Array Bool),listed.size=l.length→(∀i,Lst listed i↔i∈a0)→∀i,i∈Region.ready .any l.toArray listed↔i∈ready l a0:=by
  intro a0 listed b0 hd i;rw[U4a b0];unfold ready;simp only[List.mem_filter,List.mem_range,Bool.and_eq_true,Bool.not_eq_true',List.all_eq_true,List.contains_eq_mem,decide_eq_true_eq,decide_eq_false_iff_not,hd]
 intro T
 induction T with
 | nil =>
   intro a0 listed fuel a w hf b0 hd _ h;simp only[I2b,beq_iff_eq] at hf;have h0:Region.ready .any l.toArray listed=[]:=by
    apply List.eq_nil_iff_forall_not_mem.2;intro i hi;rw[d0 a0 listed b0 hd,hf] at hi;cases hi
   cases fuel with
   | zero=>exact⟨h0,h⟩
   | succ f=>exact⟨fun _=>h,fun i hi=>by rw[h0] at hi;cases hi⟩
 | cons t ts ih =>
   intro a0 listed fuel a w hf b0 hd e0 h;simp only[I2b,Bool.and_eq_true,beq_iff_eq] at hf;obtain⟨hr,hf⟩:=hf;cases fuel with
   | zero=>simp at e0
   | succ f =>
     have ht:t∈Region.ready .any l.toArray listed:=by rw[d0 a0 listed b0 hd,hr];simp
     have f0:t<l.length:=((U4a b0).1 ht).1;refine⟨fun h0=>(by rw[h0] at ht;cases ht),fun i hi=>?_⟩;have g0:i=t:=by rw[d0 a0 listed b0 hd,hr] at hi;simpa using hi
     subst g0;have c0:l[i]?=some l[i]:=List.getElem?_eq_getElem f0;simp only[List.filterMap_cons,c0] at h;unfold wpOpIn;have:(l.toArray)[i]?=some l[i]:=by simp[f0]
     simp only[this];simp only[wpListIn] at h;have step:∀a w,wpListIn (fc r) 0 P l.toArray Q (ts.filterMap (l[·]?)) a w→wpAnyIn (fc r) 0 P .any l.toArray Q f (listed.setIfInBounds i true) a w:=fun a w h =>
      ih (i::a0) _ f a w hf (by simp[b0]) (fun j=>by rw[z2a (by omega),hd];simp) (by simpa using e0) h
     split
     ·rename_i hw;simp only[hw,if_true] at h;exact Oper.wpIn_mono step h
     ·rename_i hw;simp only[hw] at h;exact⟨h.1,step _ _ h.2⟩
structure n4a (l:List Oper) (A B T:List Nat):Prop where
 bound:∀i∈A++B++T,i<l.length
 nodup:(A++B++T).Pairwise (·≠·)
 all_:∀i,i<l.length→i∈A++B++T
 some_:∀i∈A++B,(N1a l i).isSome=true
 dst:((A++B).map (N1a l)).Pairwise (·≠·)
 plain:∀o∈l,Op.isSelect o.op=false∧Op.isDefer o.op=false
 back:((List.range l.length).all fun i=>(d1a l i).all fun j=>decide (j<i))=true
 AA:∀(p q i j s:Nat),A[p]?=some i→A[q]?=some j→N1a l j=some s→s∈looksAt l i→(q<p∧j∈f4a l i)∨(p<q∧i∈f4a l j)
 AB:∀i∈A,∀j∈B,∀s,N1a l j=some s→s∉looksAt l i
 BA:∀i∈B,∀j∈A,∀s,N1a l j=some s→s∈looksAt l i→j∈f4a l i
 BB:∀i∈B,∀j∈B,∀s,N1a l j=some s→s∉looksAt l i
 TT:∀t∈T,∀i∈A++B,i∈f4a l t
 force:I2b l (A++B) T=true
theorem u6b{A B T:List Nat}(h:Z2c l A B T=true):n4a l A B T:=by
 unfold Z2c at h;simp only[Bool.and_eq_true] at h;obtain⟨⟨⟨⟨⟨⟨⟨⟨⟨⟨⟨⟨h1,h2⟩,h3⟩,h4⟩,h5⟩,h6⟩,h7⟩,h8⟩,h9⟩,b0⟩,c0⟩,d0⟩,e0⟩:=h;refine⟨fun i hi=>?_,of_decide_eq_true h3,fun i hi=>by simpa using List.all_eq_true.1 h1 i (List.mem_range.2 hi),fun i hi=>List.all_eq_true.1 h4 i hi,of_decide_eq_true h5,fun o ho=>?_,h7,?_,?_,?_,?_,fun t ht i hi=>?_,e0⟩
 ·simpa using List.all_eq_true.1 h2 i hi
 ·have:=List.all_eq_true.1 h6 o ho;simp only[Bool.and_eq_true,Bool.not_eq_true'] at this;exact this
 ·intro p q i j s hp hq hd hs;have f0:p<A.length:=(List.getElem?_eq_some_iff.1 hp).1;have g0:q<A.length:=(List.getElem?_eq_some_iff.1 hq).1;have:=List.all_eq_true.1 (List.all_eq_true.1 h8 p (List.mem_range.2 f0)) q (List.mem_range.2 g0);simp only[List.getD_eq_getElem?_getD,hp,hq,Option.getD_some,hd,Option.any_some,Bool.or_eq_true,Bool.not_eq_true',List.contains_eq_mem,decide_eq_false_iff_not] at this;rcases this with h|h
  ·exact absurd hs h
  ·split at h
   ·rename_i a0;exact .inl ⟨a0,by simpa using h⟩
   ·split at h
    ·rename_i a0;exact .inr ⟨a0,by simpa using h⟩
    ·cases h
 ·intro i hi j hj s hd hs;have:=List.all_eq_true.1 (List.all_eq_true.1 h9 i hi) j hj;simp[hd,hs] at this
 ·intro i hi j hj s hd hs;have:=List.all_eq_true.1 (List.all_eq_true.1 b0 i hi) j hj;simpa[hd,hs] using this
 ·intro i hi j hj s hd hs;have:=List.all_eq_true.1 (List.all_eq_true.1 c0 i hi) j hj;simp[hd,hs] at this
 ·have:=List.all_eq_true.1 (List.all_eq_true.1 d0 t ht) i hi;simpa using this
theorem q6c{e e':Env}{o:Oper}(h:∀s∈Oper.looksAt l.toArray o,e s=e' s):∀x∈o.op.operands,ev e x=ev e' x:=by
 intro x hx;cases x with
 | tmp t =>
   refine h t (List.mem_append_left _ (List.mem_filterMap.2 ⟨.tmp t,by simpa using hx,Z⟩))
 | _=>rfl
theorem O0a{e e':Env}{o:Oper}(h:∀s∈Oper.looksAt l.toArray o,e s=e' s):a1a l.toArray e o=a1a l.toArray e' o:=by
 unfold a1a;cases hg:o.guard with
 | none=>rfl
 | some jw =>
   obtain⟨j,a0⟩:=jw;show Option.any (fun s=>isB a0 (e s)) _=Option.any (fun s=>isB a0 (e' s)) _;cases hd:(l.toArray[j]?).bind (·.dst) with
   | none=>simp only[Option.any_none]
   | some s =>
     have hm:s∈Oper.looksAt l.toArray o:=List.mem_append_right _ (by simp only[hg,hd];simp);simp only[Option.any_some,h s hm]
theorem n1a{e e':Env}{o:Oper}(hs:Op.isSelect o.op=false)(h:∀s∈Oper.looksAt l.toArray o,e s=e' s):execOp (ev e) o=execOp (ev e') o :=
 execOp_congr o (fun cs b hh=>by rw[hh] at hs;cases hs) (q6c h)
structure Inv (l:List Oper) (A B T:List Nat) (C:World→Prop) (N:Nat) (D:List Deferred) (e:Env) (pa:List (Nat×Value)) (sp:List x5a) (nw:Nat→Prop) (listed:Array Bool) (a:Act) (w:World):Prop where
 lsz:listed.size=l.length
 asz:a.tmps.size=N
 adf:a.defers=D
 inC:C w
 clo:T8b l listed
 noT:∀t∈T,¬Lst listed t
 hA:∀(p i d:Nat) (v:Value),A[p]?=some i→Lst listed i→pa[p]?=some (d,v)→P0a a d=v
 hB:∀(q b:Nat) (s:x5a),B[q]?=some b→Lst listed b→sp[q]?=some s→∀d,N1a l b=some d→Z3c w s (P0a a d)
 rest:∀s,(∀i∈A++B,Lst listed i→N1a l i≠some s)→P0a a s=e s
 apart:∀(q q' b b' d d' g:Nat),q≠q'→nw q→nw q'→B[q]?=some b→B[q']?=some b'→Lst listed b→Lst listed b'→N1a l b=some d→N1a l b'=some d'→w5a (P0a a d)=some g→w5a (P0a a d')=some g→False
theorem Q5a{X:List Nat}(h:X.Pairwise (·≠·)){p q i:Nat}(hp:X[p]?=some i)(hq:X[q]?=some i):p=q:=S4b h hp hq
theorem m1c{X:List (Option Nat)}(h:X.Pairwise (·≠·)){i j:Nat}{a:Option Nat}(hi:X[i]?=some a)(hj:X[j]?=some a):i=j:=by
 induction X generalizing i j with
 | nil=>simp at hi
 | cons x xs ih =>
   obtain⟨hx,a0⟩:=List.pairwise_cons.1 h;cases i<;>cases j
   ·rfl
   ·simp at hi hj;subst hi;exact absurd Z (hx _ (List.mem_of_getElem? hj))
   ·simp at hi hj;subst hj;exact absurd Z (hx _ (List.mem_of_getElem? hi))
   ·simp at hi hj;rw[ih a0 hi hj]
theorem n4a.same{A B T:List Nat}(ok:n4a l A B T){i j s:Nat}(hi:i∈A++B)(hj:j∈A++B)(hs:N1a l i=some s)(a0:N1a l j=some s):i=j:=by
 obtain⟨p,hp⟩:=List.getElem?_of_mem hi;obtain⟨q,hq⟩:=List.getElem?_of_mem hj;have h1:((A++B).map (N1a l))[p]?=some (some s):=by simp only[List.getElem?_map,hp,Option.map_some,hs]
 have h2:((A++B).map (N1a l))[q]?=some (some s):=by simp only[List.getElem?_map,hq,Option.map_some,a0]
 have:=m1c ok.dst h1 h2;subst this;rw[hp] at hq;exact Option.some.inj hq
theorem c1a{w w':World}(h:x0a [] w w'){b:Blk}(hb:p0a w b):p0a w' b:=(h.same b.1 hb.lt (by simp)).trans hb
theorem Z3c.keep{w w':World}(h:x0a [] w w'){s:x5a}{v:Value}(hs:∀φ,s=some φ→d1b φ)(hb:Z3c w s v):Z3c w' s v:=by
 cases s with
 | none=>exact hb
 | some φ=>exact hs φ Z v w w' hb h
section
variable {A B T:List Nat} {C:World→Prop} {D:List Deferred} {e:Env} {pa:List (Nat×Value)} {sp:List x5a} {nw:Nat→Prop} {listed:Array Bool} {a:Act} {w w':World}
theorem n4a.disj{A B T:List Nat}(ok:n4a l A B T){i:Nat}(hi:i∈A)(hj:i∈B):False:=by
 have:=ok.nodup;rw[List.append_assoc,List.pairwise_append] at this;exact this.2.2 i hi i (List.mem_append_left _ hj) Z
theorem n4a.disjT{A B T:List Nat}(ok:n4a l A B T){i:Nat}(hi:i∈A++B)(hj:i∈T):False:=by
 have:=ok.nodup;rw[List.pairwise_append] at this;exact this.2.2 i hi i hj Z
theorem n4a.nodA{A B T:List Nat}(ok:n4a l A B T):A.Pairwise (·≠·):=by
 have:=ok.nodup;rw[List.append_assoc,List.pairwise_append] at this;exact this.1
theorem n4a.nodB{A B T:List Nat}(ok:n4a l A B T):B.Pairwise (·≠·):=by
 have:=ok.nodup;rw[List.append_assoc,List.pairwise_append] at this;have:=this.2.1;rw[List.pairwise_append] at this;exact this.1
theorem Inv.stepA(I:Inv l A B T C N D e pa sp nw listed a w)(ok:n4a l A B T)(s0:∀(p i d:Nat) (v:Value),A[p]?=some i→pa[p]?=some (d,v)→N1a l i=some d)
 {p i d:Nat} {v:Value} (hp:A[p]?=some i) (r0:pa[p]?=some (d,v)) (u0:d<N)
 (n0:∀j∈d1a l i,Lst listed j) (y0:∀(q:Nat) (φ:Value→World→Prop),sp[q]?=some (some φ)→d1b φ) (hC:C w') (hk:x0a [] w w'):Inv l A B T C N D e pa sp nw (listed.setIfInBounds i true) (a.put (some d) v) w':=by
 have hd:=s0 p i d v hp r0;have b0:i∈A:=List.mem_of_getElem? hp;have e0:i∈A++B:=List.mem_append_left _ b0;have d0:i<listed.size:=by rw[I.lsz];exact ok.bound i (List.mem_append_left _ e0)
 have a0:P0a (a.put (some d) v)=upd (P0a a) d v:=b1a v (by rw[I.asz];exact u0);refine⟨by simp[I.lsz],by simp[Act.put,I.asz],by simp[Act.put,I.adf],hC,?_,?_,?_,?_,?_,?_⟩
 ·intro j hj m hm;rw[z2a d0] at hj ⊢;rcases hj with rfl|hj
  ·exact .inr (n0 m hm)
  ·exact .inr (I.clo j hj m hm)
 ·intro t ht hl;rw[z2a d0] at hl;rcases hl with rfl|hl
  ·exact ok.disjT e0 ht
  ·exact I.noT t ht hl
 ·intro p' i' d' v' i0 hl c0;rw[a0];rw[z2a d0] at hl;by_cases j0:i'=i
  ·subst j0;have:=Q5a ok.nodA hp i0;subst this;rw[r0] at c0;obtain⟨rfl,rfl⟩:=Prod.mk.inj (Option.some.inj c0);rw[Y2a]
  ·rcases hl with hl|hl
   ·exact absurd hl j0
   ·by_cases g0:d'=d
    ·subst g0;exact absurd (ok.same (List.mem_append_left _ (List.mem_of_getElem? i0)) e0 (s0 p' i' d' v' i0 c0) hd) j0
    ·rw[v1a _ _ g0];exact I.hA p' i' d' v' i0 hl c0
 ·intro q b s hq hl hs d' f0;have m0:Lst listed b:=by
   rw[z2a d0] at hl;rcases hl with rfl|hl
   ·exact(ok.disj b0 (List.mem_of_getElem? hq)).elim
   ·exact hl
  have g0:d'≠d:=by
   rintro rfl;have:=ok.same (List.mem_append_right _ (List.mem_of_getElem? hq)) e0 f0 hd;subst this;exact ok.disj b0 (List.mem_of_getElem? hq)
  rw[a0,v1a _ _ g0];exact(I.hB q b s hq m0 hs d' f0).keep hk (fun φ hφ=>y0 q φ (by rw[hs,hφ]))
 ·intro s hs;have x0:s≠d:=by
   rintro rfl;exact hs i e0 ((z2a d0).2 (.inl Z)) hd
  rw[a0,v1a _ _ x0];exact I.rest s fun j hj hl=>hs j hj ((z2a d0).2 (.inr hl))
 ·intro q q' b b' d1 d2 g v0 n1 n2 hq t0 hl m0 o0 p0;have key:∀(q b d':Nat),B[q]?=some b→Lst (listed.setIfInBounds i true) b→N1a l b=some d'→Lst listed b∧P0a (a.put (some d) v) d'=P0a a d':=by
   intro q b d' hq hl f0;have q0:b≠i:=by rintro rfl;exact ok.disj b0 (List.mem_of_getElem? hq)
   refine⟨?_,?_⟩
   ·rw[z2a d0] at hl;rcases hl with hl|hl
    ·exact absurd hl q0
    ·exact hl
   ·rw[a0,v1a];rintro rfl;exact q0 (ok.same (List.mem_append_right _ (List.mem_of_getElem? hq)) e0 f0 hd)
  obtain⟨k1,k2⟩:=key q b d1 hq hl o0;obtain⟨k3,k4⟩:=key q' b' d2 t0 m0 p0;rw[k2,k4];exact I.apart q q' b b' d1 d2 g v0 n1 n2 hq t0 k1 k3 o0 p0
theorem Inv.stepB(I:Inv l A B T C N D e pa sp nw listed a w)(ok:n4a l A B T)(H0:∀(p i d:Nat) (v:Value),A[p]?=some i→pa[p]?=some (d,v)→N1a l i=some d)
 {q i d:Nat} {s:x5a} {v:Value} (hq:B[q]?=some i) (J0:sp[q]?=some s) (hd:N1a l i=some d) (D0:d<N)
 (u0:∀j∈d1a l i,Lst listed j) (K0:∀(q:Nat) (φ:Value→World→Prop),sp[q]?=some (some φ)→d1b φ) (G0:∀q,nw q→∃φ,sp[q]?=some (some φ)∧∀v w g,φ v w→w5a v=some g→g<w.heap.size) (A0:nw q→∀g,w5a v=some g→w.heap.size≤g) (hC:C w') (hk:x0a [] w w') (hs:Z3c w' s v) :
 Inv l A B T C N D e pa sp nw (listed.setIfInBounds i true) (a.put (some d) v) w':=by
 have v0:i∈B:=List.mem_of_getElem? hq;have f0:i∈A++B:=List.mem_append_right _ v0;have d0:i<listed.size:=by rw[I.lsz];exact ok.bound i (List.mem_append_left _ f0)
 have a0:P0a (a.put (some d) v)=upd (P0a a) d v:=b1a _ (by rw[I.asz];exact D0);refine⟨by simp[I.lsz],by simp[Act.put,I.asz],by simp[Act.put,I.adf],hC,?_,?_,?_,?_,?_,?_⟩
 ·intro j hj m hm;rw[z2a d0] at hj ⊢;rcases hj with rfl|hj
  ·exact .inr (u0 m hm)
  ·exact .inr (I.clo j hj m hm)
 ·intro t ht hl;rw[z2a d0] at hl;rcases hl with rfl|hl
  ·exact ok.disjT f0 ht
  ·exact I.noT t ht hl
 ·intro p' i' d' v' q0 hl j0;rw[a0];rw[z2a d0] at hl;have x0:i'≠i:=by rintro rfl;exact ok.disj (List.mem_of_getElem? q0) v0
  rcases hl with hl|hl
  ·exact absurd hl x0
  ·by_cases p0:d'=d
   ·subst p0;exact absurd (ok.same (List.mem_append_left _ (List.mem_of_getElem? q0)) f0 (H0 p' i' d' v' q0 j0) hd) x0
   ·rw[v1a _ _ p0];exact I.hA p' i' d' v' q0 hl j0
 ·intro q' b s' c0 hl e0 d' b0;by_cases g0:q'=q
  ·subst g0;rw[hq] at c0;obtain rfl:=Option.some.inj c0;rw[J0] at e0;obtain rfl:=Option.some.inj e0;rw[hd] at b0;obtain rfl:=Option.some.inj b0;rw[a0,Y2a];exact hs
  ·have E0:Lst listed b:=by
    rw[z2a d0] at hl;rcases hl with rfl|hl
    ·exact absurd (Q5a ok.nodB c0 hq) g0
    ·exact hl
   have p0:d'≠d:=by
    rintro rfl;have C0:=ok.same (List.mem_append_right _ (List.mem_of_getElem? c0)) f0 b0 hd;subst C0;exact g0 (Q5a ok.nodB c0 hq)
   rw[a0,v1a _ _ p0];exact(I.hB q' b s' c0 E0 e0 d' b0).keep hk (fun φ hφ=>K0 q' φ (by rw[e0,hφ]))
 ·intro s' e0;have I0:s'≠d:=by
   rintro rfl;exact e0 i f0 ((z2a d0).2 (.inl Z)) hd
  rw[a0,v1a _ _ I0];exact I.rest s' fun j hj hl=>e0 j hj ((z2a d0).2 (.inr hl))
 ·intro q1 q2 b1 b2 d1 d2 g g0 n1 n2 r0 m0 F0 y0 o0 i0;have key:∀(q' b d':Nat),q'≠q→B[q']?=some b→Lst (listed.setIfInBounds i true) b→N1a l b=some d'→Lst listed b∧P0a (a.put (some d) v) d'=P0a a d':=by
   intro q' b d' s0 c0 hl b0;have z0:b≠i:=by rintro rfl;exact s0 (Q5a ok.nodB c0 hq)
   refine⟨?_,?_⟩
   ·rw[z2a d0] at hl;rcases hl with hl|hl
    ·exact absurd hl z0
    ·exact hl
   ·rw[a0,v1a];rintro rfl;exact z0 (ok.same (List.mem_append_right _ (List.mem_of_getElem? c0)) f0 b0 hd)
  have B0:∀(q' b d' g:Nat),nw q'→B[q']?=some b→Lst listed b→N1a l b=some d'→w5a (P0a a d')=some g→g<w.heap.size:=by
   intro q' b d' g hn c0 hl b0 hg;obtain⟨φ,h1,h2⟩:=G0 q' hn;exact h2 _ _ g (I.hB q' b _ c0 hl h1 d' b0) hg
  have n0:∀(b d':Nat),B[q]?=some b→N1a l b=some d'→P0a (a.put (some d) v) d'=v:=by
   intro b d' hb b0;rw[hq] at hb;obtain rfl:=Option.some.inj hb;rw[hd] at b0;obtain rfl:=Option.some.inj b0;rw[a0,Y2a]
  by_cases e1:q1=q
  ·have t0:q2≠q:=fun h=>g0 (e1.trans h.symm);obtain⟨k3,k4⟩:=key q2 b2 d2 t0 m0 y0 i0;subst e1;rw[n0 b1 d1 r0 o0,k4];intro h1 h2;have:=A0 n1 g h1;have:=B0 q2 b2 d2 g n2 m0 k3 i0 h2;omega
  ·obtain⟨k1,k2⟩:=key q1 b1 d1 e1 r0 F0 o0;by_cases e2:q2=q
   ·subst e2;rw[n0 b2 d2 m0 i0,k2];intro h1 h2;have:=A0 n2 g h2;have:=B0 q1 b1 d1 g n1 r0 k1 o0 h1;omega
   ·obtain⟨k3,k4⟩:=key q2 b2 d2 e2 m0 y0 i0;rw[k2,k4];exact I.apart q1 q2 b1 b2 d1 d2 g g0 n1 n2 r0 m0 k1 k3 o0 i0
theorem O2b(ok:n4a l A B T)(c0:pa.length=A.length)(b0:∀(p i d:Nat) (v:Value),A[p]?=some i→pa[p]?=some (d,v)→N1a l i=some d):(pa.map (·.1)).Pairwise (·≠·):=by
 rw[List.pairwise_iff_getElem];intro p p' h1 h2 d0 a0;simp only[List.length_map] at h1 h2;simp only[List.getElem_map] at a0;have g1:A[p]?=some A[p]:=List.getElem?_eq_getElem (by omega);have g2:A[p']?=some A[p']:=List.getElem?_eq_getElem (by omega);have k1:=b0 p _ pa[p].1 pa[p].2 g1 (List.getElem?_eq_getElem h1);have k2:=b0 p' _ pa[p'].1 pa[p'].2 g2 (List.getElem?_eq_getElem h2);rw[←a0] at k2;have:=ok.same (List.mem_append_left _ (List.mem_of_getElem? g1)) (List.mem_append_left _ (List.mem_of_getElem? g2)) k1 k2;have:=Q5a ok.nodA g1 (by rw[g2,this]);omega
theorem Inv.final(I:Inv l A B T C N D e pa sp nw listed a w)(ok:n4a l A B T)(c0:pa.length=A.length)
 (d0:∀(p i d:Nat) (v:Value),A[p]?=some i→pa[p]?=some (d,v)→N1a l i=some d) (b0:∀i∈A++B,Lst listed i)
 : P0a a=V3a (V3a e pa) ((List.range B.length).map fun q=>((N1a l (B.getD q 0)).getD 0,P0a a ((N1a l (B.getD q 0)).getD 0))):=by
 have a0:∀q b:Nat,B[q]?=some b→∃d,N1a l b=some d:=fun q b hq=>by
  have:=ok.some_ b (List.mem_append_right _ (List.mem_of_getElem? hq));exact Option.isSome_iff_exists.1 this
 have n0:(((List.range B.length).map fun q=>((N1a l (B.getD q 0)).getD 0,P0a a ((N1a l (B.getD q 0)).getD 0))).map (·.1)).Pairwise (·≠·):=by
  rw[List.map_map,List.pairwise_map];refine List.Pairwise.imp_of_mem ?_ (List.nodup_range (n:=B.length));intro q q' hq f0 r0 p0;obtain hq:=List.mem_range.1 hq;obtain f0:=List.mem_range.1 f0;have g1:B[q]?=some B[q]:=List.getElem?_eq_getElem hq;have g2:B[q']?=some B[q']:=List.getElem?_eq_getElem f0;obtain⟨d,hd⟩:=a0 q _ g1;obtain⟨_,o0⟩:=a0 q' _ g2;simp only[Function.comp,List.getD_eq_getElem?_getD,g1,g2,Option.getD_some,hd,o0] at p0;subst p0;have:=ok.same (List.mem_append_right _ (List.mem_of_getElem? g1)) (List.mem_append_right _ (List.mem_of_getElem? g2)) hd o0;exact r0 (Q5a ok.nodB g1 (by rw[g2,this]))
 have m0:=O2b ok c0 d0
 funext s
 by_cases j0:∃q b:Nat,B[q]?=some b∧N1a l b=some s
 ·obtain⟨q,b,hq,hs⟩:=j0;have g0:q<B.length:=(List.getElem?_eq_some_iff.1 hq).1
  symm
  refine B6a _ _ q s _ n0 ?_;simp only[List.getElem?_map,List.getElem?_range g0,Option.map_some,List.getD_eq_getElem?_getD,hq,Option.getD_some,hs]
 ·rw[E5a _ _ s ?_]
  ·by_cases i0:∃p i:Nat,A[p]?=some i∧N1a l i=some s
   ·obtain⟨p,i,hp,hs⟩:=i0;have s0:p<A.length:=(List.getElem?_eq_some_iff.1 hp).1;have e0:pa[p]?=some pa[p]:=List.getElem?_eq_getElem (by omega);have hd:=d0 p i pa[p].1 pa[p].2 hp e0;rw[hs] at hd;have q0:s=pa[p].1:=Option.some.inj hd;rw[q0,I.hA p i pa[p].1 pa[p].2 hp (b0 i (List.mem_append_left _ (List.mem_of_getElem? hp))) e0];exact(B6a _ _ p _ _ m0 e0).symm
   ·rw[E5a _ _ s ?_]
    ·refine I.rest s fun i hi _ hs=>?_;rcases List.mem_append.1 hi with hi|hi
     ·obtain⟨p,hp⟩:=List.getElem?_of_mem hi;exact i0 ⟨p,i,hp,hs⟩
     ·obtain⟨p,hp⟩:=List.getElem?_of_mem hi;exact j0 ⟨p,i,hp,hs⟩
    ·intro hm;obtain⟨x,hx,rfl⟩:=List.mem_map.1 hm;obtain⟨p,hp⟩:=List.getElem?_of_mem hx;have s0:p<pa.length:=(List.getElem?_eq_some_iff.1 hp).1;have g1:A[p]?=some A[p]:=List.getElem?_eq_getElem (by omega);exact i0 ⟨p,_,g1,d0 p _ x.1 x.2 g1 hp⟩
  ·intro hm;obtain⟨x,hx,rfl⟩:=List.mem_map.1 hm;obtain⟨q,hq,rfl⟩:=List.mem_map.1 hx;have g0:=List.mem_range.1 hq;have g1:B[q]?=some B[q]:=List.getElem?_eq_getElem g0;obtain⟨d,hd⟩:=a0 q _ g1;refine j0 ⟨q,_,g1,?_⟩;simp only[List.getD_eq_getElem?_getD,g1,Option.getD_some,hd]
theorem b2c{i:Nat}{o:Oper}(ho:l[i]?=some o):looksAt l i=Oper.looksAt l.toArray o:=by simp[looksAt,ho]
theorem v4b{X:List Nat}{p q:Nat→Bool}(a0:∀x,q x=true→p x=true){i:Nat}(hi:i∈X)(hp:p i=true)(hq:q i=false):(X.filter q).length<(X.filter p).length:=by
 induction X with
 | nil=>cases hi
 | cons x xs ih =>
   have b0:(xs.filter q).length≤(xs.filter p).length:=by
    clear ih hi
    induction xs with
    | nil=>simp
    | cons y ys ih =>
      simp only[List.filter_cons];by_cases h1:q y=true
      ·simp[h1,a0 y h1,ih]
      ·by_cases h2:p y=true
       ·simp[h1,h2];omega
       ·simp[h1,h2,ih]
   simp only[List.filter_cons];rcases List.mem_cons.1 hi with rfl|hi
   ·simp[hp,hq];omega
   ·have:=ih hi;by_cases h1:q x=true
    ·simp[h1,a0 x h1,this]
    ·by_cases h2:p x=true
     ·simp[h1,h2];omega
     ·simp[h1,h2,this]
theorem q7a{n:Nat}(h:∃i,i<n∧¬Lst listed i):∃i,i<n∧¬Lst listed i∧∀j,j<i→Lst listed j:=by
 obtain⟨i,⟨h1,h2⟩,a0⟩:=I6a h;exact⟨i,h1,h2,fun j hj=>Classical.byContradiction fun hn=>by have:=a0 j ⟨by omega,hn⟩;omega⟩
theorem p4c(ok:n4a l A B T)(t0:pa.length=A.length)(v1:sp.length=B.length)
 (hQ:∀(p i:Nat) (o:Oper),A[p]?=some i→l[i]?=some o→∃d v,pa[p]?=some (d,v)∧o.dst=some d∧d<N∧U8c P l.toArray C o (V3a e (pa.take p)) v)
 (p1:∀(q b d:Nat),B[q]?=some b→N1a l b=some d→d<N)
 (a1:∀(q b:Nat) (o:Oper) (s:x5a),B[q]?=some b→l[b]?=some o→sp[q]?=some s→BOk P l.toArray C o (V3a e pa) s)
 (hT:∀(w:World) (V:Nat→Value) (a:Act),C w→a.tmps.size=N→a.defers=D→(∀(q:Nat) (s:x5a),sp[q]?=some s→Z3c w s (V q)) →
   (∀q q' g,q≠q'→Nw P l C B sp (V3a e pa) q→Nw P l C B sp (V3a e pa) q'→w5a (V q)=some g→w5a (V q')=some g→False) →
   P0a a=V3a (V3a e pa) ((List.range B.length).map fun q=>((N1a l (B.getD q 0)).getD 0,V q)) →
   wpListIn (fc r) 0 P l.toArray Q (T.filterMap (l[·]?)) a w) :
 ∀(fuel:Nat) (listed:Array Bool) (a:Act) (w:World),Inv l A B T C N D e pa sp (Nw P l C B sp (V3a e pa)) listed a w→((A++B).filter fun i=>!listed.getD i false).length+T.length≤fuel →
  wpAnyIn (fc r) 0 P .any l.toArray Q fuel listed a w:=by
 have j0:∀(p i d:Nat) (v:Value),A[p]?=some i→pa[p]?=some (d,v)→N1a l i=some d:=by
  intro p i d v hp L0;have hi:i<l.length:=ok.bound i (List.mem_append_left _ (List.mem_append_left _ (List.mem_of_getElem? hp)));obtain⟨d',v',h1,h2,_⟩:=hQ p i l[i] hp (List.getElem?_eq_getElem hi);rw[L0] at h1;obtain⟨rfl,rfl⟩:=Prod.mk.inj (Option.some.inj h1);simp[N1a,List.getElem?_eq_getElem hi,h2]
 have q0:∀(listed:Array Bool) (a:Act) (w:World),Inv l A B T C N D e pa sp (Nw P l C B sp (V3a e pa)) listed a w→∀i,Lst listed i→i∈A++B:=by
  intro listed a w I i hl;have hi:i<l.length:=by
   rw[←I.lsz];rcases Nat.lt_or_ge i listed.size with h'|h'
   ·exact h'
   ·unfold Lst at hl;simp[Array.getElem?_eq_none h'] at hl
  rcases List.mem_append.1 (ok.all_ i hi) with h|h
  ·exact h
  ·exact absurd hl (I.noT i h)
 have F0:∀(q:Nat) (φ:Value→World→Prop),sp[q]?=some (some φ)→d1b φ:=by
  intro q φ hs;have hq:q<B.length:=by have:=(List.getElem?_eq_some_iff.1 hs).1;omega
  have g1:B[q]?=some B[q]:=List.getElem?_eq_getElem hq;have hb:B[q]<l.length:=ok.bound _ (List.mem_append_left _ (List.mem_append_right _ (List.mem_of_getElem? g1)));exact(a1 q _ _ _ g1 (List.getElem?_eq_getElem hb) hs).2.1
 have H0:∀(listed:Array Bool) (a:Act) (w:World),Inv l A B T C N D e pa sp (Nw P l C B sp (V3a e pa)) listed a w→(∀i∈A++B,Lst listed i)→∀(q:Nat) (s:x5a),sp[q]?=some s→Z3c w s (P0a a ((N1a l (B.getD q 0)).getD 0)):=by
  intro listed a w I a0 q s hs;have hq:q<B.length:=by have:=(List.getElem?_eq_some_iff.1 hs).1;omega
  have g1:B[q]?=some B[q]:=List.getElem?_eq_getElem hq;have hm:=List.mem_append_right A (List.mem_of_getElem? g1);obtain⟨d,hd⟩:=Option.isSome_iff_exists.1 (ok.some_ _ hm);simp only[List.getD_eq_getElem?_getD,g1,Option.getD_some,hd];exact I.hB q _ s g1 (a0 _ hm) hs d hd
 have O0:∀q,Nw P l C B sp (V3a e pa) q→∃φ,sp[q]?=some (some φ)∧∀v w g,φ v w→w5a v=some g→g<w.heap.size:=by
  rintro q ⟨φ,b,o,h1,h2,h3,h4⟩;exact⟨φ,h1,h4.1⟩
 have I0:∀(listed:Array Bool) (a:Act) (w:World),Inv l A B T C N D e pa sp (Nw P l C B sp (V3a e pa)) listed a w→(∀i∈A++B,Lst listed i)→∀q q' g,q≠q'→Nw P l C B sp (V3a e pa) q→Nw P l C B sp (V3a e pa) q' →
  w5a (P0a a ((N1a l (B.getD q 0)).getD 0))=some g→w5a (P0a a ((N1a l (B.getD q' 0)).getD 0))=some g→False:=by
  intro listed a w I a0 q q' g t1 n1 n2;obtain⟨_,b,_,_,g1,_⟩:=id n1;obtain⟨_,b',_,_,R0,_⟩:=id n2;have hm:=List.mem_append_right A (List.mem_of_getElem? g1);have f1:=List.mem_append_right A (List.mem_of_getElem? R0);obtain⟨d,hd⟩:=Option.isSome_iff_exists.1 (ok.some_ _ hm);obtain⟨d',b1⟩:=Option.isSome_iff_exists.1 (ok.some_ _ f1);simp only[List.getD_eq_getElem?_getD,g1,R0,Option.getD_some,hd,b1];exact I.apart q q' b b' d d' g t1 n1 n2 g1 R0 (a0 _ hm) (a0 _ f1) hd b1
 intro fuel
 induction fuel with
 | zero =>
   intro listed a w I hf;have a0:∀i∈A++B,Lst listed i:=by
    intro i hi;by_cases hl:Lst listed i
    ·exact hl
    ·exfalso;have:i∈(A++B).filter fun i=>!listed.getD i false:=List.mem_filter.2 ⟨hi,by unfold Lst at hl;simpa using hl⟩;have:=List.length_pos_of_mem this;omega
   exact X7b T (A++B) listed 0 a w ok.force I.lsz (fun i=>⟨q0 listed a w I i,a0 i⟩) (by omega) (hT w (fun q=>P0a a ((N1a l (B.getD q 0)).getD 0)) a I.inC I.asz I.adf (H0 listed a w I a0) (I0 listed a w I a0) (I.final ok t0 j0 a0))
 | succ f ih =>
   intro listed a w I hf;by_cases a0:∀i∈A++B,Lst listed i
   ·exact X7b T (A++B) listed (f+1) a w ok.force I.lsz (fun i=>⟨q0 listed a w I i,a0 i⟩) (by omega) (hT w (fun q=>P0a a ((N1a l (B.getD q 0)).getD 0)) a I.inC I.asz I.adf (H0 listed a w I a0) (I0 listed a w I a0) (I.final ok t0 j0 a0))
   ·have s0:∃i,i<l.length∧¬Lst listed i:=Classical.byContradiction fun hn=>a0 fun i hi=>Classical.byContradiction fun hl=>hn ⟨i,ok.bound i (List.mem_append_left _ hi),hl⟩;obtain⟨i0,h0,h1,h2⟩:=q7a s0;have o1:i0∈Region.ready .any l.toArray listed:=(U4a I.lsz).2 ⟨h0,h1,fun j hj=>h2 j (Z8a ok.back hj)⟩;refine⟨fun hn=>(by rw[hn] at o1;cases o1),fun i hi=>?_⟩;obtain⟨J0,W0,e0⟩:=(U4a I.lsz).1 hi;have K0:i<listed.size:=by rw[I.lsz];exact J0
    have ho:l[i]?=some l[i]:=List.getElem?_eq_getElem J0;have j1:l.toArray[i]?=some l[i]:=by simp[J0]
    have f0:=ok.plain l[i] (List.getElem_mem J0);have d0:i∈A++B→((A++B).filter fun j=>!(listed.setIfInBounds i true).getD j false).length+T.length≤f:=fun hm=>by
     have:=v4b (X:=A++B) (p:=fun j=>!listed.getD j false) (q:=fun j=>!(listed.setIfInBounds i true).getD j false) (fun x hx=>by
      by_cases X0:Lst listed x
      ·have:Lst (listed.setIfInBounds i true) x:=(z2a K0).2 (.inr X0);unfold Lst at this;rw[this] at hx;cases hx
      ·unfold Lst at X0;simpa using X0) hm (by unfold Lst at W0;simpa using W0) (by
      have:Lst (listed.setIfInBounds i true) i:=(z2a K0).2 (.inl Z);unfold Lst at this;rw[this];rfl)
     omega
    rcases List.mem_append.1 (ok.all_ i J0) with r0|r1
    ·rcases List.mem_append.1 r0 with c1|T0
     ·obtain⟨p,hp⟩:=List.getElem?_of_mem c1;obtain⟨d,v,L0,g0,v0,hq⟩:=hQ p i l[i] hp ho;have c0:∀s∈Oper.looksAt l.toArray l[i],P0a a s=V3a e (pa.take p) s:=by
       intro s hs;rw[←b2c ho] at hs;by_cases s0:∃(q:Nat) (v':Value),q<p∧pa[q]?=some (s,v')
       ·obtain⟨q,v',s1,D0⟩:=s0;have m1:q<A.length:=by have:=(List.getElem?_eq_some_iff.1 D0).1;omega
        have S0:A[q]?=some A[q]:=List.getElem?_eq_getElem m1;rcases ok.AA p q i A[q] s hp S0 (j0 q _ s v' S0 D0) hs with⟨_,hw⟩|⟨N0,_⟩
        ·rw[I.hA q _ s v' S0 (H7a I.clo e0 _ hw) D0];refine(B6a _ _ q s v' ?_ ?_).symm
         ·rw[List.map_take];exact(O2b ok t0 j0).sublist (List.take_sublist _ _)
         ·rw[List.getElem?_take,if_pos s1];exact D0
        ·omega
       ·rw[E5a]
        ·refine I.rest s fun i' o0 d1 G0=>?_;rcases List.mem_append.1 o0 with o0|o0
         ·obtain⟨q,x0⟩:=List.getElem?_of_mem o0;have m1:q<A.length:=(List.getElem?_eq_some_iff.1 x0).1;have D0:pa[q]?=some pa[q]:=List.getElem?_eq_getElem (by omega);have hk:=j0 q i' pa[q].1 pa[q].2 x0 D0;rw[G0] at hk;have U0:s=pa[q].1:=Option.some.inj hk;rcases ok.AA p q i i' s hp x0 G0 hs with⟨N0,_⟩|⟨_,hw⟩
          ·exact s0 ⟨q,pa[q].2,N0,by rw[U0];exact D0⟩
          ·exact W0 (J4b I.clo d1 _ hw)
         ·exact ok.AB i c1 i' o0 s G0 hs
        ·intro hm;obtain⟨x,hx,Y0⟩:=List.mem_map.1 hm;obtain⟨q,x0⟩:=List.getElem?_of_mem hx;rw[List.getElem?_take] at x0
         split at x0
         ·rename_i N0;exact s0 ⟨q,x.2,N0,by rw[x0,←Y0]⟩
         ·cases x0
      have n0:execOp (ev (P0a a)) l[i]=execOp (ev (V3a e (pa.take p))) l[i]:=n1a f0.1 c0;have p0:Region.wanted l[i] (yielded l.toArray a.tmps)=a1a l.toArray (V3a e (pa.take p)) l[i]:=by rw[p1a];exact O0a c0
      have E0:Oper.semAt (fc r).round a.eval l[i]=execOp (ev (V3a e (pa.take p))) l[i]:=by
       rw[Oper.semAt_eq _ _ _ (fun c hc=>by have:=f0.2;rw[hc] at this;cases this),v2a,n0]
      unfold wpOpIn;simp only[j1,p0];rcases hq with⟨hw,b0⟩|⟨hw,hv⟩
      ·simp only[hw,if_true];refine⟨I0a _ _ _,?_⟩;rw[E0];rcases b0 w I.inC with b0|⟨fn,args,b0,m0⟩
       ·rw[b0,Oper.uponIn_value,g0];exact ih _ _ _ (I.stepA ok j0 hp L0 v0 e0 F0 I.inC (x0a.refl _ _)) (d0 r0)
       ·rw[b0,Oper.uponIn_enter];refine⟨fun hh=>by simp[fc,Fence.wide] at hh,F5a (Calls.mono m0 ?_)⟩;rintro en w' ⟨v',rfl,rfl,z0,A0⟩;rw[g0];exact ih _ _ _ (I.stepA ok j0 hp L0 v0 e0 F0 z0 A0) (d0 r0)
      ·simp only[hw];refine⟨I0a _ _ _,?_⟩;rw[g0,←hv];exact ih _ _ _ (I.stepA ok j0 hp L0 v0 e0 F0 I.inC (x0a.refl _ _)) (d0 r0)
     ·obtain⟨q,hq⟩:=List.getElem?_of_mem T0;have u1:q<B.length:=(List.getElem?_eq_some_iff.1 hq).1;have u0:sp[q]?=some sp[q]:=List.getElem?_eq_getElem (by omega);obtain⟨d,hd⟩:=Option.isSome_iff_exists.1 (ok.some_ i r0);have g0:l[i].dst=some d:=by simpa[N1a,ho] using hd
      have P0:=a1 q i l[i] sp[q] hq ho u0;have c0:∀s∈Oper.looksAt l.toArray l[i],P0a a s=V3a e pa s:=by
       intro s hs;rw[←b2c ho] at hs;by_cases s0:∃(p:Nat) (v':Value),pa[p]?=some (s,v')
       ·obtain⟨p,v',C0⟩:=s0;have V0:p<A.length:=by have:=(List.getElem?_eq_some_iff.1 C0).1;omega
        have Z0:A[p]?=some A[p]:=List.getElem?_eq_getElem V0;have hw:=ok.BA i T0 A[p] (List.getElem_mem V0) s (j0 p _ s v' Z0 C0) hs;rw[I.hA p _ s v' Z0 (H7a I.clo e0 _ hw) C0];exact(B6a _ _ p s v' (O2b ok t0 j0) C0).symm
       ·rw[E5a]
        ·refine I.rest s fun i' o0 d1 G0=>?_;rcases List.mem_append.1 o0 with o0|o0
         ·obtain⟨p,Q0⟩:=List.getElem?_of_mem o0;have V0:p<A.length:=(List.getElem?_eq_some_iff.1 Q0).1;have C0:pa[p]?=some pa[p]:=List.getElem?_eq_getElem (by omega);have hk:=j0 p i' pa[p].1 pa[p].2 Q0 C0;rw[G0] at hk;have U0:s=pa[p].1:=Option.some.inj hk;exact s0 ⟨p,pa[p].2,by rw[U0];exact C0⟩
         ·exact ok.BB i T0 i' o0 s G0 hs
        ·intro hm;obtain⟨x,hx,Y0⟩:=List.mem_map.1 hm;obtain⟨p,Q0⟩:=List.getElem?_of_mem hx;exact s0 ⟨p,x.2,by rw[Q0,←Y0]⟩
      have n0:execOp (ev (P0a a)) l[i]=execOp (ev (V3a e pa)) l[i]:=n1a f0.1 c0;have p0:Region.wanted l[i] (yielded l.toArray a.tmps)=a1a l.toArray (V3a e pa) l[i]:=by rw[p1a];exact O0a c0
      have E0:Oper.semAt (fc r).round a.eval l[i]=execOp (ev (V3a e pa)) l[i]:=by
       rw[Oper.semAt_eq _ _ _ (fun c hc=>by have:=f0.2;rw[hc] at this;cases this),v2a,n0]
      have v0:=p1 q i d hq hd;unfold wpOpIn;simp only[j1,p0];cases y0:sp[q] with
      | none =>
        rw[y0] at P0 u0;have hw:a1a l.toArray (V3a e pa) l[i]=false:=P0;simp only[hw];refine⟨I0a _ _ _,?_⟩;rw[g0];refine ih _ _ _ (I.stepB ok j0 hq u0 hd v0 e0 F0 O0 ?_ I.inC (x0a.refl _ _) Z) (d0 r0);rintro⟨φ,b,o,h1,_⟩;rw[u0] at h1;cases h1
      | some φ =>
        rw[y0] at P0 u0;obtain⟨hw,_,b0⟩:=P0;simp only[hw,if_true];refine⟨I0a _ _ _,?_⟩;rw[E0];by_cases B0:V3d P C l[i] (V3a e pa) φ
        ·obtain⟨v,w',b0,z0,A0,hφ,q1⟩:=B0.2 w I.inC;rw[b0,Oper.uponIn_value,g0];exact ih _ _ _ (I.stepB ok j0 hq u0 hd v0 e0 F0 O0 (fun _=>q1) z0 A0 hφ) (d0 r0)
        ·have i1:¬Nw P l C B sp (V3a e pa) q:=by
          rintro⟨_,b,o,h1,h2,h3,h4⟩;rw[u0] at h1;cases h1;rw[hq] at h2;cases h2;rw[ho] at h3;cases h3;exact B0 h4
         rcases(b0.resolve_left B0) w I.inC with⟨v,w',b0,z0,A0,hφ⟩|⟨fn,args,b0,m0⟩
         ·rw[b0,Oper.uponIn_value,g0];exact ih _ _ _ (I.stepB ok j0 hq u0 hd v0 e0 F0 O0 (fun h=>absurd h i1) z0 A0 hφ) (d0 r0)
         ·rw[b0,Oper.uponIn_enter];refine⟨fun hh=>by simp[fc,Fence.wide] at hh,F5a (Calls.mono m0 ?_)⟩;rintro en w' ⟨v',rfl,z0,A0,hφ⟩;rw[g0];exact ih _ _ _ (I.stepB ok j0 hq u0 hd v0 e0 F0 O0 (fun h=>absurd h i1) z0 A0 hφ) (d0 r0)
    ·exact absurd (fun j hj=>H7a I.clo e0 j (ok.TT i r1 j hj)) a0
end
theorem L3b{A:List Nat}(h:∀i∈A,i<l.length):∀(p i:Nat) (o:Oper),A[p]?=some i→l[i]?=some o→(A.filterMap (l[·]?))[p]?=some o:=by
 induction A with
 | nil=>intro p i o hp;simp at hp
 | cons x xs ih =>
   intro p i o hp ho;have a0:x<l.length:=h x (by simp);have hx:l[x]?=some l[x]:=List.getElem?_eq_getElem a0;simp only[List.filterMap_cons,hx];cases p with
   | zero=>simp at hp;subst hp;rw[hx] at ho;simpa using ho
   | succ p=>simpa using ih (fun i hi=>h i (by simp[hi])) p i o (by simpa using hp) ho
theorem V3b{A:List Nat}(h:∀i∈A,i<l.length):(A.filterMap (l[·]?)).length=A.length:=by
 induction A with
 | nil=>rfl
 | cons x xs ih =>
   have a0:x<l.length:=h x (by simp);have hx:l[x]?=some l[x]:=List.getElem?_eq_getElem a0;simp only[List.filterMap_cons,hx,List.length_cons,ih (fun i hi=>h i (by simp[hi]))]
theorem y0a{id:Nat}{n t:List Deferred→Env→World→Prop}{b:Nat→List Deferred→Env→World→Prop}{D:List Deferred}{e:Env}{w:World}(hm:P.follows .mixedOrders=true)(A B T:List Nat)
 (e0:(B.all fun i=>(N1a l i).all fun d=>Nat.ble (d+1) N)=true) (C:World→Prop) (hC:C w.drew)
 (h:QL P N l.toArray C (A.filterMap (l[·]?)) (BK P r N l C B T n D) e) (m0:Z2c l A B T=true:=by kernel_rfl):W P r N (.region id l.toArray true) ⟨n,b,t⟩ D e w:=by
 have ok:=u6b m0;have d0:∀i∈A,i<l.length:=fun i hi=>ok.bound i (List.mem_append_left _ (List.mem_append_left _ hi));unfold QL at h;obtain⟨pa,a0,hQ,sp,o0,f0,hT⟩:=h;rw[V3b d0] at a0;unfold W;intro a hs hd he;subst hd he;refine wpIn_region_any hm (p4c (N:=N) (C:=C) (pa:=pa) (sp:=sp) (D:=a.defers) (e:=P0a a) ok a0 o0 (fun p i o hp ho=>?_) (fun q b d hq j0=>?_) f0 ?_ _ _ _ _ ?_ ?_)
 ·exact hQ p o (L3b d0 p i o hp ho)
 ·have:=List.all_eq_true.1 e0 b (List.mem_of_getElem? hq);rw[j0] at this;exact Nat.le_of_ble_eq_true (by simpa using this)
 ·intro w' V a' g0 n0 i0 hG hP b0;have hh:=hT w' V g0 hG hP;unfold WL at hh;exact hh a' _ n0 i0 b0 (fun p0 q0 h1 h2=>⟨h1,h2⟩)
 ·exact {
   lsz:=by simp
   asz:=hs
   adf:=Z
   inC:=hC
   clo:=fun i hi=>by unfold Lst at hi;simp[Array.getElem?_replicate] at hi;split at hi<;>simp_all
   noT:=fun t _ hi=>by unfold Lst at hi;simp[Array.getElem?_replicate] at hi;split at hi<;>simp_all
   hA:=fun p i d v _ hi=>by unfold Lst at hi;simp[Array.getElem?_replicate] at hi;split at hi<;>simp_all
   hB:=fun q b s _ hi=>by unfold Lst at hi;simp[Array.getElem?_replicate] at hi;split at hi<;>simp_all
   rest:=fun s _=>rfl
   apart:=fun q q' b b' d d' g _ _ _ _ _ hi=>by unfold Lst at hi;simp[Array.getElem?_replicate] at hi;split at hi<;>simp_all }
 ·have h1:((A++B).filter fun i=>!(Array.replicate l.toArray.size false).getD i false).length≤(A++B).length:=List.length_filter_le _ _;have h2:(A++B++T).length≤l.length:=by
   have c0:∀(X:List Nat) (m:Nat),X.Pairwise (·≠·)→(∀i∈X,i<m)→X.length≤m:=by
    intro X m hX hb;have:=List.Nodup.length_le_of_subset (l₁:=X) (l₂:=List.range m) hX (fun i hi=>List.mem_range.2 (hb i hi));simpa using this
   exact c0 _ _ ok.nodup ok.bound
  simp only[List.length_append] at h1 h2 ⊢;simp only[List.size_toArray];simp only[List.size_toArray] at h1;omega
end
section
variable {P:Program} {N:Nat} {e:Env} {w:World} {ops:Array Oper} {rest:List Oper} {C:World→Prop} {K:Env→Prop}
variable {d:Nat} {t:TypeId} {p:String} {af:Array Edge} {x y:Operand} {a b:Int} {xt yt:TypeId} {kd:IntKind}
theorem i1a{x:Operand}{v:Value}(hd:Nat.ble (d+1) N=true)(h:QL P N ops C rest K (upd e d v))(hv:ev e x=v:=by conv=>lhs;whnf):QL P N ops C (⟨some d,.move x,t,p,af,none⟩::rest) K e :=
 D2a Z Z hd (fun w _=>by simp only[execOp,hv,Sem.run_pure]) h
theorem n5a{x:Operand}{v:Value}(hv:ev e x=v)(hd:Nat.ble (d+1) N=true)(h:QL P N ops C rest K (upd e d v)):QL P N ops C (⟨some d,.assign x,t,p,af,none⟩::rest) K e :=
 D2a Z Z hd (fun w _=>by simp only[execOp,hv,Sem.run_pure]) h
theorem Y4a{c a b:Operand}{t':Bool}{v:Value}(hc:ev e c=.bool t')(hv:(bif t' then ev e a else ev e b)=v)(hd:Nat.ble (d+1) N=true)(h:QL P N ops C rest K (upd e d v)):
 QL P N ops C (⟨some d,.pick c a b,t,p,af,none⟩::rest) K e :=
 D2a Z Z hd (fun w _=>by subst hv;cases t'<;>simp[execOp,hc,asBool]) h
theorem q1a{s f a0 b o:Nat}{x:Operand}(hF:FA P s f a0)(hx:ev e x=.pointer (some ⟨b,o,none⟩))(hd:Nat.ble (d+1) N=true)
 (h:QL P N ops C rest K (upd e d (.pointer (some ⟨b,o+a0,none⟩)))):QL P N ops C (⟨some d,.fieldAddr s x f,t,p,af,none⟩::rest) K e :=
 D2a Z Z hd (fun w _=>by simp[execOp,hx,hF w,Addr.add_lit]) h
theorem j0a{ty b o:Nat}{x:Operand}{v:Value}(h1:One P ty)(hx:ev e x=.pointer (some ⟨b,o,none⟩))(hc:∀w,C w→w.cell? ⟨b,o,none⟩=some v)(hd:Nat.ble (d+1) N=true)
 (h:QL P N ops C rest K (upd e d v)):QL P N ops C (⟨some d,.load ty x,t,p,af,none⟩::rest) K e :=
 D2a Z Z hd (fun w hw=>by simp[execOp,hx,Instr.loadAt,Instr.sureAddr,h1 w,hc w hw]) h
theorem z1a{ty n b o:Nat}{x:Operand}{cs:LV}(hM:M8a P ty n)(hx:ev e x=.pointer (some ⟨b,o,none⟩))(hc:∀w,C w→Cells w b o cs)(hn:cs.length=n)(hd:Nat.ble (d+1) N=true)
 (h:QL P N ops C rest K (upd e d (.agg cs.toArray))):QL P N ops C (⟨some d,.load ty x,t,p,af,none⟩::rest) K e :=
 D2a Z Z hd (fun w hw=>by
  subst hn;have:=run_loadCells_list (P:=P) w ⟨b,o,none⟩ cs (fun j v hj=>by rw[Addr.add_lit];exact hc w hw j v hj);simp[execOp,hx,Instr.loadAt,Instr.sureAddr,hM w,this]) h
theorem y9b(hx:ev e x=.int kd a)(hy:ev e y=.int kd b)(hd:Nat.ble (d+1) N=true)(h1:a=b→QL P N ops C rest K (upd e d (.bool true)))(h2:a≠b→QL P N ops C rest K (upd e d (.bool false))):
 QL P N ops C (⟨some d,.binOp .eql xt x y yt,t,p,af,none⟩::rest) K e:=by
 by_cases a0:a=b
 ·exact D2a Z Z hd (fun w _=>by simp[execOp,hx,hy,eqGuard_at_int,binOp_eql,a0]) (h1 a0)
 ·exact D2a Z Z hd (fun w _=>by simp[execOp,hx,hy,eqGuard_at_int,binOp_eql,a0]) (h2 a0)
theorem r1d{z:Bool}(hx:ev e x=.bool z)(hd:Nat.ble (d+1) N=true)(h:QL P N ops C rest K (upd e d (.bool (!z)))):QL P N ops C (⟨some d,.unOp .not xt x,t,p,af,none⟩::rest) K e :=
 D2a Z Z hd (fun w _=>by simp[execOp,hx,Op.unary]) h
theorem F0a{ty size b o n c:Nat}{A:Option Addr}(hT:SlT P ty size)(hx:ev e x=.slice A n c)(hA:A=some ⟨b,o,none⟩)(hy:ev e y=.int kd a)(hd:Nat.ble (d+1) N=true)
 (h:QL P N ops C rest K (upd e d (.pointer (some ⟨b,o+a.toNat*size,none⟩)))) (h0:0≤a:=by omega) (h1:a<n:=by omega):QL P N ops C (⟨some d,.indexAddr ty x y,t,p,af,none⟩::rest) K e:=by
 obtain⟨_,hu,a0⟩:=e7a hT;subst hA;exact D2a Z Z hd (fun w _=>by simp[execOp,Instr.indexAt,hx,hy,asIntOf,run_underlying hu,h0,h1,a0,Addr.add_lit]) h
theorem U3a{vs:Array Value}{ix:Nat}{v:Value}(hx:ev e x=.tuple vs)(hv:vs[ix]?=some v)(hd:Nat.ble (d+1) N=true)(h:QL P N ops C rest K (upd e d v)):
 QL P N ops C (⟨some d,.extract x ix,t,p,af,none⟩::rest) K e :=
 D2a Z Z hd (fun w _=>by simp[execOp,hx,Instr.extract,hv]) h
theorem R2a{ty:Nat}{a0:Array (Nat×Operand)}{z:LV}{pl:List (Nat×Nat)}{vs:List (Nat×Value)}{cs:LV}(hB:Bld P ty z pl)(d0:a0.toList.map (fun q=>(q.1,ev e q.2))=vs)
 (c0:R5b pl z.length vs=true) (b0:t1c pl z vs=cs) (hd:Nat.ble (d+1) N=true) (h:QL P N ops C rest K (upd e d (.agg cs.toArray))) :
 QL P N ops C (⟨some d,.build ty a0,t,p,af,none⟩::rest) K e:=by
 have hp:(a0.map fun(i,x)=>(i,ev e x))=vs.toArray:=by subst d0;apply Array.ext';simp
 subst b0;exact D2a Z Z hd (fun w _=>by simp[execOp,hp,hB w vs _ (Z5b pl vs z c0)]) h
theorem v0a{ty len size b o:Nat}(hT:ArT P ty len size)(hx:ev e x=.pointer (some ⟨b,o,none⟩))(hy:ev e y=.int kd a)(hd:Nat.ble (d+1) N=true)
 (h:QL P N ops C rest K (upd e d (.pointer (some ⟨b,o+a.toNat*size,none⟩)))) (h0:0≤a:=by omega) (h1:a<len:=by omega):QL P N ops C (⟨some d,.indexAddr ty x y,t,p,af,none⟩::rest) K e:=by
 obtain⟨_,hu,a0,_⟩:=hT;exact D2a Z Z hd (fun w _=>by simp[execOp,Instr.indexAt,Instr.sureAddr,hx,hy,asIntOf,run_underlying hu,h0,h1,a0,Addr.add_lit]) h
theorem P2d{n:Nat}(hx:ev e x=.int .i64 1)(hy:ev e y=.int .i64 (n:Int))(hn:n≤62)(hd:Nat.ble (d+1) N=true)(h:QL P N ops C rest K (upd e d (.int .i64 ((2 ^ n:Nat):Int)))):
 QL P N ops C (⟨some d,.binOp .shl xt x y yt,t,p,af,none⟩::rest) K e :=
 D2a Z Z hd (fun w _=>by
  have h2:(2:Nat) ^ n≤2 ^ 62:=Nat.pow_le_pow_right (by omega) hn;have h3:min n IntKind.i64.bits=n:=by simp[IntKind.bits];omega
  have h4:((1:Int)*2 ^ n)=((2 ^ n:Nat):Int):=by simp
  have h5:IntKind.i64.wrap ((2 ^ n:Nat):Int)=((2 ^ n:Nat):Int):=by
   generalize (2:Nat) ^ n=q at h2;exact Z5a ⟨by omega,by omega⟩
  have h6:¬((n:Int)<0):=by omega
  simp only[execOp,hx,hy,eqGuard_shl,binOp_shl,Op.shift,h6,if_false,Int.toNat_natCast,h3,h4,h5,Sem.run_bind,Sem.run_pure,Result.andThen_ok]) h
theorem B1c{f:FuncId}{args:Array Operand}{at_:Array TypeId}{vs:LV}{v:Value}(hH:Has P f)(a0:args.toList.map (ev e)=vs)(hd:Nat.ble (d+1) N=true)
 (hc:∀w,C w→A0a P f vs.toArray w fun v' w'=>v'=v∧C w'∧x0a [] w w') (h:QL P N ops C rest K (upd e d v)) :
 QL P N ops C (⟨some d,.call { callee:=.value (.func f),args:=args,argTypes:=at_ },t,p,af,none⟩::rest) K e:=by
 refine s1c Z Z hd (fun w=>?_) hc h;subst a0;have:(args.map (ev e))=(args.toList.map (ev e)).toArray:=by apply Array.ext';simp
 simp[execOp,resolve,Deferred.ofValue,invoke,ev,hH _ w,this]
theorem s6b{f:FuncId}{g:Operand}{caps:Array Value}{args:Array Operand}{at_:Array TypeId}{vs:LV}{v:Value}(hH:Has P f)(hg:ev e g=.func (.func f) #[] caps)
 (a0:args.toList.map (ev e)++caps.toList=vs) (hd:Nat.ble (d+1) N=true)
 (hc:∀w,C w→A0a P f vs.toArray w fun v' w'=>v'=v∧C w'∧x0a [] w w') (h:QL P N ops C rest K (upd e d v)) :
 QL P N ops C (⟨some d,.call { callee:=.value g,args:=args,argTypes:=at_ },t,p,af,none⟩::rest) K e:=by
 refine s1c Z Z hd (fun w=>?_) hc h;subst a0;have:(args.map (ev e)++caps)=(args.toList.map (ev e)++caps.toList).toArray:=by apply Array.ext';simp
 simp[execOp,resolve,Deferred.ofValue,invoke,hg,hH _ w,this]
def Cl(M:List Nat)(w0 w:World)(L:List Ent)(w':World):Prop:=St M w0 w' L∧x0a [] w w'
theorem Cl.start{M:List Nat}{w0 w:World}{L:List Ent}(S:St M w0 w L):Cl M w0 w L w.drew:=⟨S.drew,Z4a _ _⟩
theorem Cl.alloc{M:List Nat}{w0 w:World}{L:List Ent}(w':World)(o:Obj)(h:Cl M w0 w L w'):Cl M w0 w L (w'.alloc o) :=
 ⟨h.1.keeps (h.1.below.alloc _) fun b hm g hg=>Below.heap_alloc w' _ g (h.1.own b hm g hg).2.lt,h.2.trans (G1a _ _ _)⟩
theorem Cl.later{M:List Nat}{w0 w w' a0:World}{L:List Ent}(h:Cl M w0 w L w')(hb:Below w'.heap.size w' a0):Cl M w0 w L a0∧x0a [] w' a0 :=
 ⟨⟨h.1.later hb,h.2.trans (x0a.of_below hb)⟩,x0a.of_below hb⟩
theorem H3b{M:List Nat}{w0 w w':World}{L:List Ent}{f:FuncId}{args:Array Value}{v:Value}{R:Value→World→Prop}(h:Cl M w0 w L w')(hc:A0a P f args w' R)(hR:∀v' a0,R v' a0→v'=v∧Below w'.heap.size w' a0):
 A0a P f args w' fun v' a0=>v'=v∧Cl M w0 w L a0∧x0a [] w' a0 :=
 hc.mono fun v' a0 hr=>⟨(hR v' a0 hr).1,h.later (hR v' a0 hr).2⟩
end
section
variable {P:Program} {l:List Oper} {C:World→Prop} {e:Env} {B:List Nat} {G:List (Nat×Value)→List Nat→World→Prop}
def BKL(P:Program)(l:List Oper)(C:World→Prop)(e:Env)(B:List Nat)(G:List (Nat×Value)→List Nat→World→Prop):Prop :=
 ∃sp:List x5a,sp.length=B.length∧(∀(q b:Nat) (o:Oper) (s:x5a),B[q]?=some b→l[b]?=some o→sp[q]?=some s→BOk P l.toArray C o e s) ∧
  ∀(w:World) (V:Nat→Value),C w→(∀(q:Nat) (s:x5a),sp[q]?=some s→Z3c w s (V q)) →
   (∀q q' g,q≠q'→Nw P l C B sp e q→Nw P l C B sp e q'→w5a (V q)=some g→w5a (V q')=some g→False) →
   ∃gs:List Nat,(∀g∈gs,∃q,Nw P l C B sp e q∧w5a (V q)=some g)∧G ((List.range B.length).map fun q=>((N1a l (B.getD q 0)).getD 0,V q)) gs w
theorem h4a{r:Option Nat}{N:Nat}{T:List Nat}{k:List Deferred→Env→World→Prop}{D:List Deferred}
 (h:BKL P l C e B fun us _ w=>WL P r N l.toArray (T.filterMap (l[·]?)) k D (V3a e us) w):BK P r N l C B T k D e:=by
 obtain⟨sp,hl,a0,hT⟩:=h;exact⟨sp,hl,a0,fun w V hC hV hA=>let ⟨_,_,hh⟩:=hT w V hC hV hA;hh⟩
theorem O1a(h:∀w,C w→G [] [] w):BKL P l C e [] G :=
 ⟨[],Z,fun q b o s hq=>by simp at hq,fun w V hC _ _=>⟨[],fun g hg=>by simp at hg,h w hC⟩⟩
theorem Nw.up{b:Nat}{s:x5a}{sp:List x5a}{q:Nat}(h:Nw P l C B sp e q):Nw P l C (b::B) (s::sp) e (q+1):=by
 obtain⟨φ,b',o,h1,h2,h3,h4⟩:=h;exact⟨φ,b',o,by simpa using h1,by simpa using h2,h3,h4⟩
theorem y7b{b d:Nat}{o:Oper}(s:x5a)(ho:l[b]?=some o)(hd:o.dst=some d)(c0:BOk P l.toArray C o e s)(G':List (Nat×Value)→List Nat→World→Prop)
 (hG:∀(sp:List x5a) (V:Nat→Value) (us:List (Nat×Value)) (gs:List Nat) (w:World),G' us gs w→Z3c w s (V 0) →
   (∀g∈gs,Nw P l C (b::B) (s::sp) e 0→w5a (V 0)=some g→False)→(∃a0,(∀g∈a0,g∈gs∨(Nw P l C (b::B) (s::sp) e 0∧w5a (V 0)=some g))∧G ((d,V 0)::us) a0 w))
 (h:BKL P l C e B G'):BKL P l C e (b::B) G:=by
 obtain⟨sp,hl,f0,hT⟩:=h;refine⟨s::sp,by simp[hl],fun q b' o' s' hq b0 hs=>?_,fun w V hC hV hA=>?_⟩
 ·cases q with
  | zero =>
    simp at hq hs;subst hq;subst hs;rw[ho] at b0;obtain rfl:=Option.some.inj b0;exact c0
  | succ q=>exact f0 q b' o' s' (by simpa using hq) b0 (by simpa using hs)
 ·obtain⟨gs,d0,hh⟩:=hT w (fun q=>V (q+1)) hC (fun q s hs=>hV (q+1) s (by simpa using hs)) (fun q q' g g0 h1 h2=>hA (q+1) (q'+1) g (by omega) h1.up h2.up);obtain⟨a0,h1,h2⟩:=hG sp V _ gs w hh (hV 0 _ Z) (fun g hg hn hb=>by
   obtain⟨q,h3,h4⟩:=d0 g hg;exact hA 0 (q+1) g (by omega) hn h3.up hb h4)
  refine⟨a0,fun g hg=>?_,?_⟩
  ·rcases h1 g hg with h3|⟨h3,h4⟩
   ·obtain⟨q,h5,h6⟩:=d0 g h3;exact⟨q+1,h5.up,h6⟩
   ·exact⟨0,h3,h4⟩
  ·have e0:N1a l b=some d:=by simp[N1a,ho,hd]
   simpa[List.range_succ_eq_map,e0,Function.comp_def] using h2
theorem N5c{b d:Nat}{o:Oper}(φ:Value→World→Prop)(hφ:d1b φ)(ho:l[b]?=some o)(hd:o.dst=some d)(hw:a1a l.toArray e o=true)
 (a0:∀w,C w→(∃v w',(execOp (ev e) o).run P w=.ok (.value v) w'∧C w'∧x0a [] w w'∧φ v w') ∨
   ∃f args,(execOp (ev e) o).run P w=.ok (.enter f args) w∧A0a P f args w (fun v w'=>C w'∧x0a [] w w'∧φ v w'))
 (h:BKL P l C e B fun us gs w=>∀v,φ v w→G ((d,v)::us) gs w):BKL P l C e (b::B) G :=
 y7b (some φ) ho hd ⟨hw,hφ,.inr a0⟩ _ (fun _ _ _ gs _ hh hb _=>⟨gs,fun _ hg=>.inl hg,hh _ hb⟩) h
theorem Q0d{b d:Nat}{o:Oper}(ho:l[b]?=some o)(hd:o.dst=some d)(hw:a1a l.toArray e o=false)
 (h:BKL P l C e B fun us gs w=>G ((d,undef)::us) gs w):BKL P l C e (b::B) G :=
 y7b none ho hd hw _ (fun _ V _ gs _ hh hb _=>⟨gs,fun _ hg=>.inl hg,by have hv:V 0=undef:=hb;rw[hv];exact hh⟩) h
theorem H3c{b d t:Nat}{o:Oper}{mk:Nat→Value}{cs:LV}{w w0:World}{L:List Ent}{M:List Nat}(c0:∀g,w5a (mk g)=some g)(ho:l[b]?=some o)(hd:o.dst=some d)(hw:a1a l.toArray e o=true)
 (d0:∀w1,Cl M w0 w L w1→(execOp (ev e) o).run P w1=.ok (.value (mk w1.heap.size)) (w1.alloc (.cells cs.toArray t (0,0))))
 (h:BKL P l (Cl M w0 w L) e B fun us gs w1=>∀g,p0a w1 (g,t,cs)→w.heap.size≤g→g∉gs→G ((d,mk g)::us) (g::gs) w1):BKL P l (Cl M w0 w L) e (b::B) G:=by
 have a0:V3d P (Cl M w0 w L) o e (fun v w1=>∃g,v=mk g∧p0a w1 (g,t,cs)∧w.heap.size≤g):=by
  refine⟨?_,fun w1 hC=>⟨_,_,d0 w1 hC,Cl.alloc _ _ hC,G1a _ _ _,⟨_,Z,?_,hC.2.size⟩,?_⟩⟩
  ·rintro v w1 g ⟨g',rfl,hb,_⟩ hg;rw[c0] at hg;cases hg;exact hb.lt
  ·unfold p0a;show(w1.heap.push _)[w1.heap.size]?=_;simp
  ·intro g hg;rw[c0] at hg;cases hg;exact Nat.le_refl _
 refine y7b (some fun v w1=>∃g,v=mk g∧p0a w1 (g,t,cs)∧w.heap.size≤g) ho hd ⟨hw,?_,.inl a0⟩ _ (fun sp V us gs w1 hh hb ha=>?_) h
 ·rintro v w1 w2 ⟨g,rfl,hb,hg⟩ hk;exact⟨g,Z,c1a hk hb,hg⟩
 ·obtain⟨g,hv,hb,hg⟩:=hb;have e0:w5a (V 0)=some g:=by rw[hv];exact c0 g
  have f0:Nw P l (Cl M w0 w L) (b::B) (some (fun v w1=>∃g,v=mk g∧p0a w1 (g,t,cs)∧w.heap.size≤g)::sp) e 0:=⟨_,b,o,Z,Z,ho,a0⟩;refine⟨g::gs,fun g' b0=>?_,?_⟩
  ·rcases List.mem_cons.1 b0 with rfl|b0
   ·exact .inr ⟨f0,e0⟩
   ·exact .inl b0
  ·rw[hv];exact hh g hb hg (fun hm=>ha g hm f0 e0)
end
section
variable {P:Program} {l:List Oper} {e:Env} {B:List Nat} {G:List (Nat×Value)→List Nat→World→Prop} {w w0:World} {L:List Ent} {M:List Nat}
theorem N3a{b d ty el size b0 n:Nat}{t:TypeId}{p:String}{af:Array Edge}{gd:Option (Nat×Bool)}{z:Value}{a0:Array (Nat×Operand)}{vs:LV}{cs:LV}
 (ho:l[b]?=some ⟨some d,.buildSlice ty n a0,t,p,af,gd⟩) (hw:a1a l.toArray e ⟨some d,.buildSlice ty n a0,t,p,af,gd⟩=true) (hS:SlZ P ty el size z b0)
 (hn:vs.length=n) (h0:Nat.ble 1 n=true) (hbig:Nat.ble (n*size) 16777216=true) (hv:vs.map (·.cells.size)=List.replicate n size)
 (d0:vs.flatMap (·.cells.toList)=cs)
 (h:BKL P l (Cl M w0 w L) e B fun us gs w1=>∀g,p0a w1 (g,el,cs)→w.heap.size≤g→g∉gs→G ((d,.slice (some ⟨g,0,none⟩) n n)::us) (g::gs) w1) (e0:a0.toList.map (fun q=>(q.1,ev e q.2))=(vs.zipIdx 0).map fun q=>(q.2,q.1):=by rfl) :
 BKL P l (Cl M w0 w L) e (b::B) G:=by
 have hp:(a0.map fun(i,x)=>(i,ev e x))=((vs.zipIdx 0).map fun q=>(q.2,q.1)).toArray:=by rw[←e0];apply Array.ext';simp
 have hv':∀v∈vs,v.cells.size=size:=fun v hm=>by
  have:v.cells.size∈vs.map (·.cells.size):=List.mem_map.2 ⟨v,hm,Z⟩;rw[hv] at this;exact(List.mem_replicate.1 this).2
 refine H3c (mk:=fun g=>.slice (some ⟨g,0,none⟩) n n) (t:=el) (cs:=cs) (fun _=>rfl) ho Z hw (fun w1 _=>?_) h;have c0:=s5a hS hn (Nat.le_of_ble_eq_true h0) (Nat.le_of_ble_eq_true hbig) hv' w1;subst d0;simp only[execOp,hp,Sem.run_bind,c0,Result.andThen_ok,Sem.run_pure]
theorem z8b{b d:Nat}{t:TypeId}{p:String}{af:Array Edge}{gd:Option (Nat×Bool)}{f:FuncId}{args:Array Operand}{at_:Array TypeId}{vs:LV}(φ:Value→World→Prop)
 (ho:l[b]?=some ⟨some d,.call { callee:=.value (.func f),args:=args,argTypes:=at_ },t,p,af,gd⟩) (hw:a1a l.toArray e ⟨some d,.call { callee:=.value (.func f),args:=args,argTypes:=at_ },t,p,af,gd⟩=true)
 (hH:Has P f) (a0:args.toList.map (ev e)=vs) (hφ:d1b φ)
 (hc:∀w1,St M w0 w1 L→x0a [] w w1→A0a P f vs.toArray w1 fun v w2=>φ v w2∧Below w1.heap.size w1 w2)
 (h:BKL P l (Cl M w0 w L) e B fun us gs w1=>∀v,φ v w1→G ((d,v)::us) gs w1):BKL P l (Cl M w0 w L) e (b::B) G:=by
 refine N5c φ hφ ho Z hw (fun w1 hC=>.inr ⟨f,vs.toArray,?_,(hc w1 hC.1 hC.2).mono fun v w2 hr=>⟨(hC.later hr.2).1,(hC.later hr.2).2,hr.1⟩⟩) h;subst a0;have:(args.map (ev e))=(args.toList.map (ev e)).toArray:=by apply Array.ext';simp
 simp[execOp,resolve,Deferred.ofValue,invoke,ev,hH _ w1,this]
end
def S4a(G:Option Nat)(size n:Nat)(cs:LV)(v:Value)(xs:LV):Prop :=
 xs.length=n*size∧((G=none∧v=.slice none 0 0∧n=0) ∨
  ∃g cap,G=some g∧v=.slice (some ⟨g,0,none⟩) n cap∧n≤cap∧cap≤maxLen∧cs.length=cap*size∧cs.take (n*size)=xs)
theorem S4a.nil(size:Nat):S4a none size 0 [] (.slice none 0 0) []:=⟨by simp,.inl ⟨Z,Z,Z⟩⟩
theorem S4a.own{M:List Nat}{w0 w:World}{L:List Ent}{k:Nat}{G:Option Nat}{el size n:Nat}{cs xs:LV}{v:Value}(hR:S4a G size n cs v xs)(S:St M w0 w L)(hk:L[k]?=some (G,el,cs)):
 w.ownsRow 0 el size v n xs∧v.ownBlock=G:=by
 rcases hR with⟨hl,⟨rfl,rfl,rfl⟩|⟨g,a0,rfl,rfl,h1,h2,h3,h4⟩⟩
 ·exact⟨⟨hl,.inl ⟨Z,Z⟩⟩,Z⟩
 ·refine⟨⟨hl,.inr ⟨g,a0,cs.toArray,Z,Nat.zero_le _,S.blk k hk,h1,h2,by simpa using h3,by simpa using h4⟩⟩,Z⟩
theorem b2b{w:World}{base el size n:Nat}{v:Value}{xs:LV}(h:w.ownsRow base el size v n xs):
 ∃G cs,S4a G size n cs v xs∧v.ownBlock=G∧∀g,G=some g→base≤g∧p0a w (g,el,cs):=by
 obtain⟨hl,⟨rfl,rfl⟩|⟨g,a0,cur,rfl,hb,hh,h1,h2,h3,h4⟩⟩:=h
 ·exact⟨none,[],⟨hl,.inl ⟨Z,Z,Z⟩⟩,Z,fun g hg=>by cases hg⟩
 ·refine⟨some g,cur.toList,⟨hl,.inr ⟨g,a0,Z,Z,h1,h2,by simpa using h3,h4⟩⟩,Z,fun g' hg=>?_⟩;cases hg;exact⟨hb,by unfold p0a;simpa using hh⟩
section
variable {d:Nat} {t:TypeId} {p:String} {af:Array Edge} {x y:Operand}
theorem N2b{ty el size b0 k n m c b o:Nat}{z v:Value}{G:Option Nat}{cs xs news:LV}(S:St M w0 w L)(hS:SlZ P ty el size z b0)(hk:L[k]?=some (G,el,cs))(hR:S4a G size n cs v xs)
 (hx:ev e x=v) (hy:ev e y=.slice (some ⟨b,o,none⟩) m c) (e0:Cells w b o news) (hl:news.length=m*size) (h1:∀u∈news,u.oneCell'=true)
 (hbytes:(n+m)*b0≤140737488355328) (hd:Nat.ble (d+1) N=true)
 (h:∀v' G' g0 w1,St M w0 w1 (L.set k (G',el,g0))→S4a G' size (n+m) g0 v' (xs++news)→x0a G.toList w w1→WL P r N ops rest K D (upd e d v') w1) (v0:n+m≤140737488355328:=by omega) :
 WL P r N ops (⟨some d,.call { callee:=.builtin .append,args:=#[x,y],argTypes:=#[ty,ty] },t,p,af,none⟩::rest) K D e w:=by
 obtain⟨i,hi,hz,u0,r0⟩:=hS.parts;obtain⟨m0,hG⟩:=hR.own S hk;obtain⟨v',w1,n0,f0,a0,_,i0⟩:=run_append_own_at (P:=P) w 0 ty t el i z size b0 hS.und hi hz u0 r0 hS.zs hS.pos v n xs m0 ⟨b,o,none⟩ m c news hl
  (fun j u hj=>by rw[Addr.add_lit];exact e0 j u hj) h1 (by unfold maxLen;omega) hbytes (Nat.zero_le _)
 obtain⟨G',g0,q0,o0,j0⟩:=b2b f0;have c0:∀q,q<w.heap.size→G≠some q→w1.heap[q]?=w.heap[q]?:=fun q hq t0=>a0.block q hq (fun hh=>t0 (by rw[←hG,←hh]));have d0:H0a M w0 w1:=⟨a0.os.trans S.below.os,a0.tape.trans S.below.tape,a0.output.trans S.below.output,Nat.le_trans S.size a0.size,fun q hq hm =>
  (c0 q (Nat.lt_of_lt_of_le hq S.size) (fun hh=>by
    subst hh;rcases S.new k hk with h'|h'
    ·omega
    ·exact hm h')).trans (S.below.block q hq hm)⟩
 refine U0a (v:=v') (w':=w1) Z Z hd ?_ (h v' G' g0 w1 (S.replace k hk d0 c0 (fun g hg=>?_)) q0 ⟨a0.size,fun q hq hm=>c0 q hq (fun hh=>hm (by rw[hh];simp))⟩)
 ·simp[execOp,resolve,invoke,builtin,hx,hy,n0]
 ·obtain⟨_,h3⟩:=j0 g hg;rcases i0 with hb|hb
  ·have p0:G=some g:=by rw[←hG,←hb,o0];exact hg
   subst p0;exact⟨S.new k hk,h3,.inl Z⟩
  ·have s0:G'=some g:=hg;rw[o0,s0] at hb;cases hb;exact⟨.inl S.size,h3,.inr (Nat.le_refl _)⟩
theorem s7a{ty el a0 n c:Nat}{z:Value}{kl kc:IntKind}(S:St M w0 w L)(hS:SlZ P ty el 1 z a0)(hx:ev e x=.int kl (n:Int))(hy:ev e y=.int kc (c:Int))
 (e0:z.cells=#[z]) (hd:Nat.ble (d+1) N=true)
 (h:∀g w1,St M w0 w1 ((some g,el,List.replicate c z)::L)→x0a [] w w1→w.heap.size≤g→WL P r N ops rest K D (upd e d (.slice (some ⟨g,0,none⟩) n c)) w1) (f0:n≤c:=by omega) (hb:a0*c≤140737488355328:=by omega) (hc:c≤140737488355328:=by omega) :
 WL P r N ops (⟨some d,.makeSlice ty x y,t,p,af,none⟩::rest) K D e w:=by
 obtain⟨i,hi,hz,d0,c0⟩:=hS.parts;have b0:(i.bytes:Int)*(c:Int)≤281474976710656:=by
  have:((a0*c:Nat):Int)≤281474976710656:=by omega
  rw[c0];rwa [Int.natCast_mul] at this
 have hr:=run_make (P:=P) w ty el i z hS.und hi hz kl kc n c (by omega) (by omega) b0 (by omega);have hm:madeCells z.cells (c*i.size)=(List.replicate c z).toArray:=by
  rw[e0,d0,Nat.mul_one];apply Array.ext
  ·simp[madeCells]
  ·intro j h1 h2;simp[madeCells,Nat.mod_one]
 simp only[Int.toNat_natCast,hm] at hr;refine U0a (v:=.slice (some ⟨w.heap.size,0,none⟩) n c) Z Z hd ?_ (h _ _ (S.alloc el _) (G1a _ _ _) (Nat.le_refl _));simp only[execOp,hx,hy,Sem.run_bind,hr,Result.andThen_ok,Sem.run_pure]
end
theorem b4b{P:Program}{l:List Oper}{e:Env}{B:List Nat}{G:List (Nat×Value)→List Nat→World→Prop}{w w0:World}{L:List Ent}{M:List Nat}{b d:Nat}{t:TypeId}{p:String}{af:Array Edge}{gd:Option (Nat×Bool)}{x y:Operand}
 {ty el a0 n c:Nat} {z:Value} {kl kc:IntKind} (ho:l[b]?=some ⟨some d,.makeSlice ty x y,t,p,af,gd⟩) (hw:a1a l.toArray e ⟨some d,.makeSlice ty x y,t,p,af,gd⟩=true)
 (hS:SlZ P ty el 1 z a0) (hx:ev e x=.int kl (n:Int)) (hy:ev e y=.int kc (c:Int))
 (e0:z.cells=#[z])
 (h:BKL P l (Cl M w0 w L) e B fun us gs w1=>∀g,p0a w1 (g,el,List.replicate c z)→w.heap.size≤g→g∉gs→G ((d,.slice (some ⟨g,0,none⟩) n c)::us) (g::gs) w1) (f0:n≤c:=by omega) (hb:a0*c≤140737488355328:=by omega) (hc:c≤140737488355328:=by omega) :
 BKL P l (Cl M w0 w L) e (b::B) G:=by
 obtain⟨i,hi,hz,d0,c0⟩:=hS.parts;have b0:(i.bytes:Int)*(c:Int)≤281474976710656:=by
  have:((a0*c:Nat):Int)≤281474976710656:=by omega
  rw[c0];rwa [Int.natCast_mul] at this
 refine H3c (mk:=fun g=>.slice (some ⟨g,0,none⟩) n c) (t:=el) (cs:=List.replicate c z) (fun _=>rfl) ho Z hw (fun w1 _=>?_) h;have hr:=run_make (P:=P) w1 ty el i z hS.und hi hz kl kc n c (by omega) (by omega) b0 (by omega);have hm:madeCells z.cells (c*i.size)=(List.replicate c z).toArray:=by
  rw[e0,d0,Nat.mul_one];apply Array.ext
  ·simp[madeCells]
  ·intro j h1 h2;simp[madeCells,Nat.mod_one]
 simp only[Int.toNat_natCast,hm] at hr;simp only[execOp,hx,hy,Sem.run_bind,hr,Result.andThen_ok,Sem.run_pure]
section
variable {d:Nat} {t:TypeId} {p:String} {af:Array Edge} {f:FuncId} {args:Array Operand} {at_:Array TypeId} {vs:LV}
theorem h0a{R:Value→World→Prop}(S:St M w0 w L)(hH:Has P f)(a0:args.toList.map (ev e)=vs)(hd:Nat.ble (d+1) N=true)
 (hc:A0a P f vs.toArray w fun v w'=>R v w'∧Below w.heap.size w w') (h:∀v w1,R v w1→St M w0 w1 L→x0a [] w w1→WL P r N ops rest K D (upd e d v) w1) :
 WL P r N ops (⟨some d,.call { callee:=.value (.func f),args:=args,argTypes:=at_ },t,p,af,none⟩::rest) K D e w :=
 a2a hH a0 hd hc fun v w1 hr=>h v w1 hr.1 (S.later hr.2) (x0a.of_below hr.2)
theorem r0a{V:Value}(S:St M w0 w L)(hH:Has P f)(a0:args.toList.map (ev e)=vs)(hd:Nat.ble (d+1) N=true)
 (hc:A0a P f vs.toArray w fun v w'=>v=V∧Below w.heap.size w w') (h:∀w1,St M w0 w1 L→x0a [] w w1→WL P r N ops rest K D (upd e d V) w1) :
 WL P r N ops (⟨some d,.call { callee:=.value (.func f),args:=args,argTypes:=at_ },t,p,af,none⟩::rest) K D e w :=
 h0a S hH a0 hd hc fun v w1 hr S1 X1=>by subst hr;exact h w1 S1 X1
theorem i0a{b:Bool}(S:St M w0 w L)(hH:Has P f)(a0:args.toList.map (ev e)=vs)(hd:Nat.ble (d+1) N=true)
 (hc:A0a P f vs.toArray w fun v w'=>v=.bool b∧Below w.heap.size w w') (h1:b=true→∀w1,St M w0 w1 L→x0a [] w w1→WL P r N ops rest K D (upd e d (.bool true)) w1)
 (h2:b=false→∀w1,St M w0 w1 L→x0a [] w w1→WL P r N ops rest K D (upd e d (.bool false)) w1) :
 WL P r N ops (⟨some d,.call { callee:=.value (.func f),args:=args,argTypes:=at_ },t,p,af,none⟩::rest) K D e w:=by
 cases b
 ·exact r0a S hH a0 hd hc (h2 Z)
 ·exact r0a S hH a0 hd hc (h1 Z)
theorem q8a{g:Operand}{caps:Array Value}{R:Value→World→Prop}(S:St M w0 w L)(hH:Has P f)(hg:ev e g=.func (.func f) #[] caps)(a0:args.toList.map (ev e)++caps.toList=vs)(hd:Nat.ble (d+1) N=true)
 (hc:A0a P f vs.toArray w fun v w'=>R v w'∧Below w.heap.size w w') (h:∀v w1,R v w1→St M w0 w1 L→x0a [] w w1→WL P r N ops rest K D (upd e d v) w1) :
 WL P r N ops (⟨some d,.call { callee:=.value g,args:=args,argTypes:=at_ },t,p,af,none⟩::rest) K D e w :=
 M7a hH hg a0 hd hc fun v w1 hr=>h v w1 hr.1 (S.later hr.2) (x0a.of_below hr.2)
variable {Kq:Env→Prop}
theorem k1a{V:Value}(hH:Has P f)(a0:args.toList.map (ev e)=vs)(hd:Nat.ble (d+1) N=true)
 (hc:∀w1,St M w0 w1 L→x0a [] w w1→A0a P f vs.toArray w1 fun v w'=>v=V∧Below w1.heap.size w1 w') (h:QL P N ops (Cl M w0 w L) rest Kq (upd e d V)) :
 QL P N ops (Cl M w0 w L) (⟨some d,.call { callee:=.value (.func f),args:=args,argTypes:=at_ },t,p,af,none⟩::rest) Kq e :=
 B1c hH a0 hd (fun w1 hw=>H3b hw (hc w1 hw.1 hw.2) fun _ _ h=>h) h
theorem H2a{b:Bool}(hH:Has P f)(a0:args.toList.map (ev e)=vs)(hd:Nat.ble (d+1) N=true)
 (hc:∀w1,St M w0 w1 L→x0a [] w w1→A0a P f vs.toArray w1 fun v w'=>v=.bool b∧Below w1.heap.size w1 w') (h1:b=true→QL P N ops (Cl M w0 w L) rest Kq (upd e d (.bool true)))
 (h2:b=false→QL P N ops (Cl M w0 w L) rest Kq (upd e d (.bool false))) :
 QL P N ops (Cl M w0 w L) (⟨some d,.call { callee:=.value (.func f),args:=args,argTypes:=at_ },t,p,af,none⟩::rest) Kq e:=by
 cases b
 ·exact k1a hH a0 hd hc (h2 Z)
 ·exact k1a hH a0 hd hc (h1 Z)
end
section
variable {α:Type}
def RdS(M:List Nat)(w:World)(size:Nat)(R:LV→α→Prop)(v:Value)(l:List α):Prop :=
 ∃A n c,v=.slice A n c∧n=l.length∧n≤c∧c≤maxLen∧n≤140737488355328 ∧
  (0<n→∃b o,A=some ⟨b,o,none⟩∧b∉M∧∀i x,l[i]?=some x→∃cs,cs.length=size∧Cells w b (o+i*size) cs∧R cs x)
theorem Cells.keep{M:List Nat}{w w':World}{b o:Nat}{cs:LV}(h:Cells w b o cs)(hk:x0a M w w')(hb:b∉M):Cells w' b o cs :=
 fun j v hj=>hk.cell (a:=⟨b,o+j,none⟩) hb (h j v hj)
theorem RdS.keep{M:List Nat}{w w':World}{size:Nat}{R:LV→α→Prop}{v:Value}{l:List α}(h:RdS M w size R v l)(hk:x0a M w w'):RdS M w' size R v l:=by
 obtain⟨A,n,c,h1,h2,h3,h4,c0,h5⟩:=h;refine⟨A,n,c,h1,h2,h3,h4,c0,fun hn=>?_⟩;obtain⟨b,o,h6,h7,h8⟩:=h5 hn;refine⟨b,o,h6,h7,fun i x hi=>?_⟩;obtain⟨cs,h9,a0,b0⟩:=h8 i x hi;exact⟨cs,h9,a0.keep hk h7,b0⟩
theorem RdS.mono{M:List Nat}{w:World}{size:Nat}{R R':LV→α→Prop}{v:Value}{l:List α}(h:RdS M w size R v l)(hR:∀cs x,R cs x→R' cs x):RdS M w size R' v l:=by
 obtain⟨A,n,c,h1,h2,h3,h4,a0,h5⟩:=h;refine⟨A,n,c,h1,h2,h3,h4,a0,fun hn=>?_⟩;obtain⟨b,o,h6,h7,h8⟩:=h5 hn;exact⟨b,o,h6,h7,fun i x hi=>let ⟨cs,h9,h10,h11⟩:=h8 i x hi;⟨cs,h9,h10,hR _ _ h11⟩⟩
theorem RdS.less{M M':List Nat}{w:World}{size:Nat}{R:LV→α→Prop}{v:Value}{l:List α}(h:RdS M w size R v l)(hM:∀g∈M',g∈M):RdS M' w size R v l:=by
 obtain⟨A,n,c,h1,h2,h3,h4,a0,h5⟩:=h;refine⟨A,n,c,h1,h2,h3,h4,a0,fun hn=>?_⟩;obtain⟨b,o,h6,h7,h8⟩:=h5 hn;exact⟨b,o,h6,fun hh=>h7 (hM b hh),h8⟩
def r9b(cs:LV)(x:Int):Prop:=cs=[.int .i64 x]∧i64 x
abbrev RdI(M:List Nat)(w:World)(v:Value)(l:List Int):Prop:=RdS M w 1 r9b v l
theorem S4a.rd{M':List Nat}{w0 w:World}{L:List Ent}{k:Nat}{G:Option Nat}{el size n:Nat}{cs xs:LV}{v:Value}{M:List Nat}{R:LV→α→Prop}{l:List α}(hR:S4a G size n cs v xs)(S:St M' w0 w L)(hk:L[k]?=some (G,el,cs))
 (hM:∀g,G=some g→g∉M) (hn:n=l.length) (hbig:n≤140737488355328) (hl:∀i x,l[i]?=some x→((xs.drop (i*size)).take size).length=size∧R ((xs.drop (i*size)).take size) x):RdS M w size R v l:=by
 rcases hR with⟨b0,⟨rfl,rfl,rfl⟩|⟨g,a0,rfl,rfl,h1,h2,h3,h4⟩⟩
 ·exact⟨none,0,0,Z,hn,Nat.le_refl _,by unfold maxLen;omega,hbig,fun h=>absurd h (by omega)⟩
 ·refine⟨_,n,a0,Z,hn,h1,h2,hbig,fun _=>⟨g,0,Z,hM g Z,fun i x hi=>⟨(xs.drop (i*size)).take size,(hl i x hi).1,fun j v hj=>?_,(hl i x hi).2⟩⟩⟩;refine S.cell k hk ?_;rw[List.getElem?_take] at hj
  split at hj
  ·rw[List.getElem?_drop,←h4,List.getElem?_take] at hj
   split at hj
   ·rw[Nat.zero_add];exact hj
   ·cases hj
  ·cases hj
theorem S4a.rdI{w0 w:World}{L:List Ent}{k:Nat}{G:Option Nat}{el n:Nat}{cs:LV}{v:Value}{M:List Nat}{l:List Int}(hR:S4a G 1 n cs v (l.map (Value.int .i64)))(S:St [] w0 w L)(hk:L[k]?=some (G,el,cs))
 (hM:∀g∈M,g<w0.heap.size) (hl:∀x∈l,i64 x) (hbig:l.length≤140737488355328):RdI M w v l:=by
 have hn:n=l.length:=by have:=hR.1;simp at this;omega
 subst hn;refine hR.rd S hk (fun g hg hm=>?_) Z hbig (fun i x hi=>?_)
 ·subst hg;rcases S.new k hk with h|h
  ·have:=hM g hm;omega
  ·simp at h
 ·have a0:i<l.length:=(List.getElem?_eq_some_iff.1 hi).1;have hx:l[i]=x:=(List.getElem?_eq_some_iff.1 hi).2;have e1:((l.map (Value.int .i64)).drop (i*1)).take 1=[.int .i64 x]:=by
   rw[Nat.mul_one,List.drop_eq_getElem_cons (by simpa using a0)];simp[hx]
  rw[e1];exact⟨Z,Z,hl x (by rw[←hx];exact List.getElem_mem a0)⟩
theorem RdS.at{M:List Nat}{w:World}{size:Nat}{R:LV→α→Prop}{A:Option Addr}{n c:Nat}{l:List α}(h:RdS M w size R (.slice A n c) l):n=l.length∧n≤c∧c≤maxLen∧n≤140737488355328 ∧
 (0<n→∃b o,A=some ⟨b,o,none⟩∧b∉M∧∀i x,l[i]?=some x→∃cs,cs.length=size∧Cells w b (o+i*size) cs∧R cs x):=by
 obtain⟨_,_,_,he,h1,h2,h3,h4,h5⟩:=h;cases he;exact⟨h1,h2,h3,h4,h5⟩
theorem RdS.form{M:List Nat}{w:World}{size:Nat}{R:LV→α→Prop}{v:Value}{l:List α}(h:RdS M w size R v l):∃A n c,v=.slice A n c:=by
 obtain⟨_,_,_,he,_⟩:=h;exact⟨_,_,_,he⟩
theorem RdS.more{M M':List Nat}{w:World}{size:Nat}{R:LV→α→Prop}{v:Value}{l:List α}(h:RdS M w size R v l)(hs:0<size)(hM:∀g∈M',g∈M∨w.heap.size≤g):RdS M' w size R v l:=by
 obtain⟨A,n,c,h1,h2,h3,h4,b0,h5⟩:=h;refine⟨A,n,c,h1,h2,h3,h4,b0,fun hn=>?_⟩;obtain⟨b,o,h6,h7,h8⟩:=h5 hn;refine⟨b,o,h6,fun hh=>?_,h8⟩;rcases hM b hh with h|h
 ·exact h7 h
 ·have hl:0<l.length:=by omega
  obtain⟨cs,_,a0,_⟩:=h8 0 l[0] (List.getElem?_eq_getElem hl);have:=World.block_lt_of_cell? w _ (a0 0 cs[0] (List.getElem?_eq_getElem (by omega)));simp at this;omega
theorem St.rd1{w0 w:World}{L:List Ent}{k:Nat}{g el n:Nat}{cs:LV}{M M':List Nat}{R:LV→α→Prop}{l:List α}(S:St M' w0 w L)(hk:L[k]?=some (some g,el,cs))(hM:g∉M)(hn:n=l.length)(hbig:n≤140737488355328)
 (hl:∀(i:Nat) (x:α),l[i]?=some x→∃v,cs[i]?=some v∧R [v] x):RdS M w 1 R (.slice (some ⟨g,0,none⟩) n n) l:=by
 refine⟨_,n,n,Z,hn,Nat.le_refl _,by unfold maxLen;omega,hbig,fun _=>⟨g,0,Z,hM,fun i x hi=>?_⟩⟩;obtain⟨v,hv,hr⟩:=hl i x hi;refine⟨[v],Z,fun j u hj=>?_,hr⟩;cases j with
 | zero=>simp at hj;subst hj;simpa using S.cell k hk hv
 | succ j=>simp at hj
end
section
variable {d:Nat} {t:TypeId} {p:String} {af:Array Edge} {x y:Operand} {kd:IntKind}
theorem f0c{ty size:Nat}(hT:SlT P ty size)(hx:ev e x=.slice none 0 0)(hy:ev e y=.int kd 0)(hd:Nat.ble (d+1) N=true)
 (h:WL P r N ops rest K D (upd e d (.slice none 0 0)) w) :
 WL P r N ops (⟨some d,.slice ty x none (some y) none,t,p,af,none⟩::rest) K D e w:=by
 obtain⟨_,hu,b0⟩:=e7a hT;refine U0a Z Z hd ?_ h;have a0:(Instr.slice ty (.slice none 0 0) none (some (.int kd 0)) none).run P w=.ok (.slice none 0 0) w:=by
  simp[Instr.slice,Instr.sliceBounds,Instr.sliceBound,asIntOf,run_underlying hu,b0]
 simp only[execOp,Instr.sliceAt,Sem.run_bind,run_underlying hu,Result.andThen_ok,hx,hy,Option.map_none,Option.map_some,a0,Sem.run_pure]
theorem b5b{ty el size a0 n c m:Nat}{z:Value}{A B:Option Addr}(hS:SlZ P ty el size z a0)(hx:ev e x=.slice A n c)(d0:n≤c)(hy:ev e y=.slice B 0 m)(hd:Nat.ble (d+1) N=true)
 (h:WL P r N ops rest K D (upd e d (.slice A n c)) w) :
 WL P r N ops (⟨some d,.call { callee:=.builtin .append,args:=#[x,y],argTypes:=#[ty,ty] },t,p,af,none⟩::rest) K D e w:=by
 obtain⟨_,hi,_,f0,_⟩:=hS.parts;have hu:=hS.und;refine U0a Z Z hd ?_ h;have e0:(sizeOf el).run P w=.ok size w:=by simp[sizeOf,typeInfo,hi,f0]
 have c0:(Builtin.firstCells size 0 (.slice B 0 m)).run P w=.ok #[] w:=by
  cases B<;>simp[Builtin.firstCells,loadCells,loadCellsFrom]
 have b0:(Builtin.append_ #[ty,ty] t #[.slice A n c,.slice B 0 m]).run P w=.ok (.slice A n c) w:=by
  simp[Builtin.append_,run_underlying hu,e0,Builtin.lenOf,d0,c0];cases A<;>simp[storeCells]
 simp[execOp,resolve,invoke,builtin,hx,hy,b0]
theorem q1c{ty tn el a0 k:Nat}{z:Value}{kn:IntKind}(S:St M w0 w L)(hS:SlZ P ty el 1 z a0)(n0:z.cells=#[z])(m0:P.underlying tn=some (.int kn))(hx:ev e x=.slice none 0 0)(hy:ev e y=.int .i64 (k:Int))(h0:0<k)(hk:k≤1000000000)(hb:a0≤1000)(hd:Nat.ble (d+1) N=true)
 (h:∀g b0 w1,St M w0 w1 ((some g,el,List.replicate b0 z)::L)→k≤b0→b0≤maxLen→x0a [] w w1→w.heap.size≤g→WL P r N ops rest K D (upd e d (.slice (some ⟨g,0,none⟩) k b0)) w1) :
 WL P r N ops (⟨some d,.call { callee:=.builtin .append,args:=#[x,y],argTypes:=#[ty,tn] },t,p,af,none⟩::rest) K D e w:=by
 obtain⟨i,hi,hz,_,e0⟩:=hS.parts;have d0:Builtin.nextslicecap (0+k) 0*i.bytes≤281474976710656:=by
  have:Builtin.nextslicecap (0+k) 0=k:=by
   unfold Builtin.nextslicecap;simp;omega
  rw[this,e0];exact Nat.le_trans (Nat.mul_le_mul hk hb) (by omega)
 have i0:k*i.bytes≤281474976710656:=by rw[e0];exact Nat.le_trans (Nat.mul_le_mul hk hb) (by omega)
 have hr:=Go.Lib.run_append_grow_zeros (P:=P) w ty tn t el i z .i64 kn hS.und m0 hi hz none 0 0 [] (by simp[Builtin.firstCells]) k h0 (by omega) (by omega) (by omega) i0 d0;simp only[Nat.zero_add] at hr;have g0:=grownCap_ge w k 0 el;have j0:=grownCap_le_maxLen w k 0 el (by unfold maxLen;omega);generalize f0:grownCap w k 0 el=b0 at *;have c0:(([]:LV).toArray++Builtin.zeroCells z.cells k++Builtin.zeroCells z.cells (b0-k))=(List.replicate b0 z).toArray:=by
  rw[n0];apply Array.ext
  ·simp[Builtin.zeroCells];omega
  ·intro j h1 h2;simp[Builtin.zeroCells,Array.getElem_append,Nat.mod_one]
 rw[c0] at hr;refine U0a Z Z hd ?_ (h _ b0 _ (S.drew.alloc el _) g0 j0 ((Z4a _ _).trans (G1a _ _ _)) (Nat.le_refl _));simp[execOp,resolve,invoke,builtin,hx,hy,hr]
theorem j9c{ty size k c n o b:Nat}(hT:SlT P ty size)(hx:ev e x=.slice (some ⟨b,o,none⟩) n c)(hy:ev e y=.int kd (k:Int))(h2:k≤c)(h3:n≤c)(hd:Nat.ble (d+1) N=true)
 (h:WL P r N ops rest K D (upd e d (.slice (some ⟨b,o,none⟩) k c)) w) :
 WL P r N ops (⟨some d,.slice ty x none (some y) none,t,p,af,none⟩::rest) K D e w:=by
 refine u7a (h1:=(Nat.zero_le _)) (lo:=0) (hi:=k) (kd:=kd) hT hx (.inl ⟨Z,Z⟩) (.inr (by rw[Option.map_some,hy])) h2 h3 hd ?_;simpa using h
theorem RdI.cells{M':List Nat}{A:Option Addr}{m c:Nat}{l:List Int}(h:RdI M' w (.slice A m c) l)(hm:0<m):∃b o,A=some ⟨b,o,none⟩∧b∉M'∧Cells w b o (l.map (Value.int .i64)):=by
 obtain⟨_,_,_,_,h5⟩:=h.at;obtain⟨b,o,hA,hb,he⟩:=h5 hm;refine⟨b,o,hA,hb,fun j v hj=>?_⟩;rw[List.getElem?_map] at hj;cases hx:l[j]? with
 | none=>rw[hx] at hj;cases hj
 | some x =>
   rw[hx] at hj;obtain⟨_,_,h7,h8⟩:=he j x hx;have:=h7 0 (.int .i64 x) (by rw[h8.1];rfl);simp at hj this;rw[←hj];exact this
theorem U5a{ty el a0 k m c:Nat}{z v:Value}{G:Option Nat}{B:Option Addr}{cs:LV}{xs l:List Int}{M':List Nat}(S:St M w0 w L)(hS:SlZ P ty el 1 z a0)(hk:L[k]?=some (G,el,cs))(hR:S4a G 1 xs.length cs v (xs.map (Value.int .i64)))
 (hx:ev e x=v) (hy:ev e y=.slice B m c) (hl:RdI M' w (.slice B m c) l) (f0:xs.length+l.length≤100000000) (hd:Nat.ble (d+1) N=true)
 (h:∀v' G' b0 w1,St M w0 w1 (L.set k (G',el,b0))→S4a G' 1 (xs++l).length b0 v' ((xs++l).map (Value.int .i64))→x0a G.toList w w1→WL P r N ops rest K D (upd e d v') w1) (hbytes:a0≤1000:=by omega) :
 WL P r N ops (⟨some d,.call { callee:=.builtin .append,args:=#[x,y],argTypes:=#[ty,ty] },t,p,af,none⟩::rest) K D e w:=by
 obtain⟨hm,_⟩:=hl.at;by_cases h0:m=0
 ·obtain rfl:l=[]:=List.length_eq_zero_iff.1 (by omega);subst h0;have hv:∃A n c,v=.slice A n c∧n≤c:=by
   rcases hR with⟨_,⟨_,rfl,_⟩|⟨g,e0,_,rfl,h1,_⟩⟩
   ·exact⟨_,_,_,Z,Nat.le_refl _⟩
   ·exact⟨_,_,_,Z,h1⟩
  obtain⟨A,n,_,rfl,d0⟩:=hv;refine b5b hS hx d0 hy hd ?_;refine h _ G cs w ?_ (by simpa using hR) (x0a.refl _ _);obtain⟨c0,he⟩:=List.getElem?_eq_some_iff.1 hk;rw[←he,List.set_getElem_self c0];exact S
 ·obtain⟨_,_,rfl,_,hc⟩:=RdI.cells hl (by omega);refine N2b (n:=xs.length) (m:=m) (news:=l.map (Value.int .i64)) S hS hk hR hx hy hc (by simp;omega) (by simp[Value.oneCell']) (Nat.le_trans (Nat.mul_le_mul (show xs.length+m≤100000000 by omega) hbytes) (by omega)) hd ?_;intro v' G' b0 w1 S1 R1 K1;refine h v' G' b0 w1 S1 ?_ K1;rw[List.length_append,←hm,List.map_append];exact R1
end
def d5a(el:Nat)(w0 w:World)(v:Value)(l:List Int):Prop :=
 ∃G cs,S4a G 1 l.length cs v (l.map (Value.int .i64))∧∀g,G=some g→w0.heap.size≤g∧p0a w (g,el,cs)
theorem d5a.open_{M:List Nat}{el:Nat}{w0 w w1:World}{L:List Ent}{v:Value}{l:List Int}(h:d5a el w w1 v l)(S:St M w0 w1 L)(Sw:St M w0 w L):
 ∃G cs,S4a G 1 l.length cs v (l.map (Value.int .i64))∧St M w0 w1 ((G,el,cs)::L):=by
 obtain⟨G,cs,h1,h2⟩:=h;refine⟨G,cs,h1,?_⟩;cases G with
 | none =>
   refine⟨S.below,fun b hm g hg=>?_,List.pairwise_cons.2 ⟨fun b hb g hg=>(by cases hg),S.apart⟩⟩;rcases List.mem_cons.1 hm with rfl|hm
   ·cases hg
   ·exact S.own b hm g hg
 | some g =>
   obtain⟨h3,h4⟩:=h2 g Z;exact S.push_new Sw h4 h3
inductive Tr|l|n (k v:Nat) (a b:Tr)
def Tr.find(k:Nat):Tr→Option Nat
 | .l=>none
 | .n k' v a b=>bif Nat.beq k k' then some v else bif Nat.blt k k' then a.find k else b.find k
def Tr.All(p:Nat→Nat→Prop):Tr→Prop
 | .l=>True
 | .n k v a b=>p k v∧a.All p∧b.All p
theorem Tr.find_all{p:Nat→Nat→Prop}{k v:Nat}:∀{t:Tr},t.All p→t.find k=some v→p k v
 | .l,_,h=>by cases h
 | .n k' v' a b,h,hf=>by
   unfold Tr.find at hf;cases hb:Nat.beq k k' with
   | true=>rw[hb] at hf;cases hf;rw[Nat.eq_of_beq_eq_true hb];exact h.1
   | false =>
     rw[hb] at hf;simp only[cond_false] at hf;cases hl:Nat.blt k k' with
     | true=>rw[hl] at hf;exact Tr.find_all h.2.1 hf
     | false=>rw[hl] at hf;exact Tr.find_all h.2.2 hf
structure Tab where
 fa:Tr
 fl:Tr
 sl:Tr
 ld:Tr
 bo:Tr
def u4b(p:Nat→Nat→Nat→Prop)(k v:Nat):Prop:=∀s f,f<64→k=s*64+f→p s f v
theorem u4b.of{p:Nat→Nat→Nat→Prop}{k v s f:Nat}(h:p s f v)(hf:Nat.blt f 64=true)(hk:Nat.beq k (s*64+f)=true):u4b p k v:=by
 intro s' f' a0 b0;have h1:=Nat.eq_of_beq_eq_true hk;have h2:f<64:=Nat.le_of_ble_eq_true hf;have h3:s=s':=by omega
 have h4:f=f':=by omega
 subst h3 h4;exact h
def LdT(P:Program)(t:Nat):Nat→Prop
 | 0=>One P t
 | n+1=>M8a P t (n+1)
structure Tab.Ok (P:Program) (T:Tab):Prop where
 fa:T.fa.All (u4b (FA P))
 fl:T.fl.All (u4b (Fld P))
 sl:T.sl.All (SlT P)
 ld:T.ld.All (LdT P)
 bo:T.bo.All fun t _=>P.underlying t=some .bool
def f9b(t:Tr)(s f:Nat):Option Nat:=bif Nat.blt f 64 then t.find (s*64+f) else none
theorem u5b{p:Nat→Nat→Nat→Prop}{t:Tr}{s f v:Nat}(h:t.All (u4b p))(hv:f9b t s f=some v):p s f v:=by
 unfold f9b at hv;cases hb:Nat.blt f 64 with
 | false=>rw[hb] at hv;cases hv
 | true=>rw[hb] at hv;exact Tr.find_all h hv s f (Nat.le_of_ble_eq_true hb) Z
inductive j7a|o (k:Nat)|f (i j:Nat)|x (b o:Nat)|i|w (k:Nat)|v (i:Nat)
abbrev Row:=Nat×Nat×LV
def nth{α:Type}:List α→Nat→Option α
 | [],_=>none
 | a::_,0=>some a
 | _::l,n+1=>nth l n
theorem d8a{α:Type}:∀(l:List α) (n:Nat),nth l n=l[n]?
 | [],_=>by simp[nth]
 | a::l,0=>by simp[nth]
 | _::l,n+1=>by simp[nth,d8a l n]
def sub{β:Type}(cs:LV):Nat→Nat→(LV→β)→β→β
 | 0,n,k,z=>go n cs k z
 | o+1,n,k,z=>match cs with
   | []=>z
   | _::cs=>sub cs o n k z
where go:Nat→LV→(LV→β)→β→β
 | 0,_,k,_=>k []
 | _+1,[],_,z=>z
 | n+1,v::cs,k,z=>go n cs (fun l=>k (v::l)) z
inductive Sr
 | val (v:Value)
 | need (p:Prop) (v:Value)
 | br (p p':Prop)
 | stop
def cmp(op:BinOp)(a b:Int):Sr:=match op with
 | .lss=>.br (a<b) (b≤a)
 | .leq=>.br (a≤b) (b<a)
 | .gtr=>.br (b<a) (a≤b)
 | .geq=>.br (b≤a) (a<b)
 | .eql=>.br (a=b) (a≠b)
 | .neq=>.br (a≠b) (a=b)
 | _=>.stop
def P3d(op:BinOp)(a b:Int):Sr:=match op with
 | .add=>.need (-9223372036854775808≤a+b∧a+b≤9223372036854775807) (.int .i64 (a+b))
 | .sub=>.need (-9223372036854775808≤a-b∧a-b≤9223372036854775807) (.int .i64 (a-b))
 | .mul=>.need (-9223372036854775808≤a*b∧a*b≤9223372036854775807) (.int .i64 (a*b))
 | .and=>.val (.int .i64 (N8a a b))
 | .or=>.val (.int .i64 (bor a b))
 | .xor=>.val (.int .i64 (b3c a b))
 | op=>cmp op a b
def n4d(T:Tab)(op:BinOp)(xt:Nat)(x y:Value):Sr:=match x with
 | .int .i64 a=>(match y with | .int .i64 b=>P3d op a b|_=>.stop)
 | .int .u8 a=>(match y with | .int .u8 b=>cmp op a b|_=>.stop)
 | .bool a=>(match y with
   | .bool b=>(match T.bo.find xt with
     | some _=>(match op with | .eql=>.val (.bool (a==b)) | .neq=>.val (.bool (!(a==b)))|_=>.stop)
     | none=>.stop)
   | _=>.stop)
 | _=>.stop
def unS(op:UnOp)(x:Value):Sr:=match op with
 | .not=>(match x with | .bool b=>.val (.bool (!b))|_=>.stop)
 | .neg=>(match x with | .int .i64 a=>.need (-9223372036854775808≤-a∧-a≤9223372036854775807) (.int .i64 (-a))|_=>.stop)
 | .xor=>(match x with | .int .i64 a=>.val (.int .i64 (b3c (-1) a))|_=>.stop)
 | _=>.stop
def g5d(T:Tab)(b:Builtin)(l:List Operand)(ts:List Nat)(e:Env):Sr:=match l with
 | [x]=>(match ts with
   | [ty]=>(match ev e x with
     | .slice _ n c=>(match T.sl.find ty with
       | some _=>(match b with | .len=>.val (.int .i64 n) | .cap=>.val (.int .i64 c)|_=>.stop)
       | none=>.stop)
     | _=>.stop)
   | _=>.stop)
 | _=>.stop
def a0d(T:Tab)(c:Call)(e:Env):Sr:=match c with
 | ⟨.builtin b,args,ts⟩=>g5d T b args.toList ts.toList e
 | _=>.stop
def G3c(T:Tab)(hs:List j7a)(ty:Nat)(x y:Value):Sr:=match x with
 | .slice A n _=>(match y with
   | .int .i64 a=>(match T.sl.find ty with
     | some size=>(match hs with
       | .x b o::_=>.need (A=some ⟨b,o,none⟩∧0≤a∧a<n) (.pointer (some ⟨b,o+a.toNat*size,none⟩))
       | .i::_=>(match A with
         | some ⟨b,o,none⟩=>.need (0≤a∧a<n) (.pointer (some ⟨b,o+a.toNat*size,none⟩))
         | _=>.stop)
       | _=>.stop)
     | none=>.stop)
   | _=>.stop)
 | _=>.stop
def b4d(T:Tab)(ty:Nat)(cs:LV)(j:Nat)(p:Prop):Sr:=match T.ld.find ty with
 | some 0=>(match nth cs j with|some v=>.need p v|none=>.stop)
 | some (n+1)=>sub cs j (n+1) (fun l=>.need p (.agg l.toArray)) .stop
 | none=>.stop
def ldW(T:Tab)(ty:Nat)(cs:LV)(p:Prop):Sr:=match T.ld.find ty with
 | some (n+1)=>.need (p∧cs.length=n+1) (.agg cs.toArray)
 | _=>.stop
def ldS(T:Tab)(L:List Ent)(F:List Row)(hs:List j7a)(ty:Nat)(x:Value):Sr:=match x with
 | .pointer (some ⟨b,o,none⟩)=>(match hs with
   | .o k::_=>(match nth L k with
     | some (some g,_,cs)=>b4d T ty cs o (b=g)
     | _=>.stop)
   | .f i j::_=>(match nth F i with
     | some (b',o',cs)=>b4d T ty cs j ((b,o)=(b',o'+j))
     | none=>.stop)
   | .w k::_=>(match nth L k with
     | some (some g,_,cs)=>ldW T ty cs ((b,o)=(g,0))
     | _=>.stop)
   | .v i::_=>(match nth F i with
     | some (b',o',cs)=>ldW T ty cs ((b,o)=(b',o'))
     | none=>.stop)
   | _=>.stop)
 | _=>.stop
def K5c(T:Tab)(L:List Ent)(F:List Row)(hs:List j7a)(e:Env)(op:Op):Sr:=match op with
 | .move x=>.val (ev e x)
 | .assign x=>.val (ev e x)
 | .pick c a b=>(match ev e c with | .bool true=>.val (ev e a) | .bool false=>.val (ev e b)|_=>.stop)
 | .nilCheck x=>(match ev e x with | .pointer (some a)=>.val (.pointer (some a))|_=>.stop)
 | .fieldAddr s x f=>(match ev e x with
   | .pointer (some ⟨b,o,none⟩)=>(match f9b T.fa s f with|some off=>.val (.pointer (some ⟨b,o+off,none⟩))|none=>.stop)
   | _=>.stop)
 | .field s x f=>(match ev e x with
   | .agg cs=>(match f9b T.fl s f with|some off=>(match nth cs.toList off with|some v=>.val v|none=>.stop)|none=>.stop)
   | _=>.stop)
 | .extract x i=>(match ev e x with | .tuple vs=>(match nth vs.toList i with|some v=>.val v|none=>.stop)|_=>.stop)
 | .binOp op xt x y _=>n4d T op xt (ev e x) (ev e y)
 | .unOp op _ x=>unS op (ev e x)
 | .indexAddr ty x y=>G3c T hs ty (ev e x) (ev e y)
 | .call c=>a0d T c e
 | .load ty x=>ldS T L F hs ty (ev e x)
 | _=>.stop
def R1b(P:Program)(C:World→Prop)(e:Env)(op:Op)(v:Value):Prop :=
 ∀d t p af g w,C w→(execOp (ev e) ⟨d,op,t,p,af,g⟩).run P w=.ok (.value v) w
def Sr.ok(P:Program)(C:World→Prop)(e:Env)(op:Op):Sr→Prop
 | .val v=>R1b P C e op v
 | .need p v=>p→R1b P C e op v
 | .br p p'=>(p→R1b P C e op (.bool true))∧(p'→R1b P C e op (.bool false))∧(p∨p')
 | .stop=>True
structure Kn (C:World→Prop) (L:List Ent) (F:List Row):Prop where
 own:∀w,C w→∀b∈L,∀g,b.1=some g→p0a w (g,b.2)
 row:∀w,C w→∀f∈F,Cells w f.1 f.2.1 f.2.2
section
variable {P:Program} {T:Tab} {C:World→Prop} {L:List Ent} {F:List Row} {e:Env}
theorem u7c{kd:IntKind}{op:BinOp}{xt yt:Nat}{x y:Operand}{a b:Int}(hx:ev e x=.int kd a)(hy:ev e y=.int kd b):(cmp op a b).ok P C e (.binOp op xt x y yt):=by
 cases op<;>first
  | exact trivial
  | refine⟨fun h _ _ _ _ _ w _=>?_,fun h _ _ _ _ _ w _=>?_,by omega⟩
 case lss.refine_1=>simp[execOp,hx,hy,eqGuard_lss,binOp_lss,h]
 case lss.refine_2=>simp[execOp,hx,hy,eqGuard_lss,binOp_lss];omega
 case leq.refine_1=>simp[execOp,hx,hy,eqGuard_leq,binOp_leq,h]
 case leq.refine_2=>simp[execOp,hx,hy,eqGuard_leq,binOp_leq];omega
 case gtr.refine_1=>simp[execOp,hx,hy,eqGuard_gtr,binOp_gtr,h]
 case gtr.refine_2=>simp[execOp,hx,hy,eqGuard_gtr,binOp_gtr];omega
 case geq.refine_1=>simp[execOp,hx,hy,eqGuard_geq,binOp_geq,h]
 case geq.refine_2=>simp[execOp,hx,hy,eqGuard_geq,binOp_geq];omega
 case eql.refine_1=>simp[execOp,hx,hy,eqGuard_at_int,binOp_eql,h]
 case eql.refine_2=>simp[execOp,hx,hy,eqGuard_at_int,binOp_eql,h]
 case neq.refine_1=>simp[execOp,hx,hy,eqGuard_at_int,binOp_neq,h]
 case neq.refine_2=>simp[execOp,hx,hy,eqGuard_at_int,binOp_neq,h]
theorem s6c{op:BinOp}{xt yt:Nat}{x y:Operand}{a b:Int}(hx:ev e x=.int .i64 a)(hy:ev e y=.int .i64 b):(P3d op a b).ok P C e (.binOp op xt x y yt):=by
 cases op
 case add=>exact fun h _ _ _ _ _ w _=>by simp[execOp,hx,hy,eqGuard_add,binOp_add,Op.intArith,Z5a (show i64 _ from h)]
 case sub=>exact fun h _ _ _ _ _ w _=>by simp[execOp,hx,hy,eqGuard_sub,binOp_sub,Op.intArith,Z5a (show i64 _ from h)]
 case mul=>exact fun h _ _ _ _ _ w _=>by simp[execOp,hx,hy,eqGuard_mul,binOp_mul,Op.intArith,Z5a (show i64 _ from h)]
 case and=>exact fun _ _ _ _ _ w _=>by simp[execOp,hx,hy,eqGuard_and,binOp_and,intBits_and,N8a]
 case or=>exact fun _ _ _ _ _ w _=>by simp[execOp,hx,hy,eqGuard_or,binOp_or,intBits_or,bor]
 case xor=>exact fun _ _ _ _ _ w _=>by simp[execOp,hx,hy,eqGuard_xor,binOp_xor,intBits_xor,b3c]
 all_goals exact u7c hx hy
theorem y9c(hT:T.Ok P){op:BinOp}{xt yt:Nat}{x y:Operand}:(n4d T op xt (ev e x) (ev e y)).ok P C e (.binOp op xt x y yt):=by
 unfold n4d
 split
 ·rename_i a hx
  split
  ·rename_i b hy;exact s6c hx hy
  ·trivial
 ·rename_i a hx
  split
  ·rename_i b hy;exact u7c hx hy
  ·trivial
 ·rename_i a hx
  split
  ·rename_i b hy
   split
   ·rename_i u hu;have hU:=Tr.find_all hT.bo hu
    split
    ·exact fun _ _ _ _ _ w _=>by simp[execOp,hx,hy,eqGuard_at_bool,binOp,run_equal_bool w xt a b hU]
    ·exact fun _ _ _ _ _ w _=>by simp[execOp,hx,hy,eqGuard_at_bool,binOp,run_equal_bool w xt a b hU]
    ·trivial
   ·trivial
  ·trivial
 ·trivial
theorem B3d{op:UnOp}{xt:Nat}{x:Operand}:(unS op (ev e x)).ok P C e (.unOp op xt x):=by
 unfold unS
 split
 ·split
  ·rename_i b hx;exact fun _ _ _ _ _ w _=>by simp[execOp,hx,Op.unary]
  ·trivial
 ·split
  ·rename_i a hx;exact fun h _ _ _ _ _ w _=>by
    have h0:(0:Int)-a=-a:=by omega
    simp only[execOp,hx,Op.unary,Op.intArith,Sem.run_bind,Sem.run_pure,Result.andThen_ok,h0,Z5a (show i64 _ from h)]
  ·trivial
 ·split
  ·rename_i a hx;exact fun _ _ _ _ _ w _=>by
    have h0:Op.unary .xor (.int .i64 a)=Op.intBits .xor .i64 (-1) a:=Z;simp[execOp,hx,h0,intBits_xor,b3c]
  ·trivial
 ·trivial
theorem b4c(hT:T.Ok P){c:Call}:(a0d T c e).ok P C e (.call c):=by
 obtain⟨_,args,ts⟩:=c;unfold a0d
 split
 ·rename_i b a0 e0 c0;cases c0;unfold g5d
  split
  ·rename_i x ha
   split
   ·rename_i ty ht;have b0:args=#[x]:=by apply Array.ext';simpa using ha
    have d0:ts=#[ty]:=by apply Array.ext';simpa using ht
    subst b0 d0
    split
    ·rename_i A n c hx
     split
     ·rename_i size hs;obtain⟨_,hu,-⟩:=Tr.find_all hT.sl hs
      split
      ·exact fun _ _ _ _ _ w _=>by simp[execOp,resolve,invoke,builtin,Builtin.len_,hx,run_underlying hu,goInt]
      ·exact fun _ _ _ _ _ w _=>by simp[execOp,resolve,invoke,builtin,Builtin.cap_,hx,run_underlying hu,goInt]
      ·trivial
     ·trivial
    ·trivial
   ·trivial
  ·trivial
 ·trivial
theorem u3c(hT:T.Ok P){hs:List j7a}{ty:Nat}{x y:Operand}:(G3c T hs ty (ev e x) (ev e y)).ok P C e (.indexAddr ty x y):=by
 have key:∀{b o n c size:Nat} {a:Int} {A:Option Addr},ev e x=.slice A n c→ev e y=.int .i64 a→T.sl.find ty=some size→A=some ⟨b,o,none⟩→0≤a→a<n →
  R1b P C e (.indexAddr ty x y) (.pointer (some ⟨b,o+a.toNat*size,none⟩)):=by
  intro b o n c size a A hx hy hs hA h0 h1 _ _ _ _ _ w _;obtain⟨_,hu,a0⟩:=e7a (Tr.find_all hT.sl hs);subst hA;simp[execOp,Instr.indexAt,hx,hy,asIntOf,run_underlying hu,h0,h1,a0,Addr.add_lit]
 unfold G3c
 split
 ·rename_i A n c hx
  split
  ·rename_i a hy
   split
   ·rename_i size hs
    split
    ·exact fun h=>key hx hy hs h.1 h.2.1 h.2.2
    ·split
     ·exact fun h=>key hx hy hs Z h.1 h.2
     ·trivial
    ·trivial
   ·trivial
  ·trivial
 ·trivial
theorem H6c{β:Type}{p:β→Prop}{z:β}(hz:p z):∀(o:Nat) (cs:LV) (n:Nat) (k:LV→β),(∀l:LV,l.length=n→(∀(j:Nat) (v:Value),l[j]?=some v→cs[o+j]?=some v)→p (k l))→p (sub cs o n k z)
 | 0,cs,n,k,h=>by
   unfold sub;have key:∀(n:Nat) (cs:LV) (k:LV→β),(∀l:LV,l.length=n→(∀(j:Nat) (v:Value),l[j]?=some v→cs[j]?=some v)→p (k l))→p (sub.go n cs k z):=by
    intro n
    induction n with
    | zero=>intro cs k h;unfold sub.go;exact h [] Z (by simp)
    | succ n ih =>
      intro cs k h;cases cs with
      | nil=>unfold sub.go;exact hz
      | cons v cs =>
        unfold sub.go;refine ih cs _ fun l hl hj=>h (v::l) (by simp[hl]) fun j u hu=>?_;cases j with
        | zero=>simpa using hu
        | succ j=>simpa using hj j u (by simpa using hu)
   exact key n cs k fun l hl hj=>h l hl fun j v hv=>by rw[Nat.zero_add];exact hj j v hv
 | o+1,[],n,k,h=>by unfold sub;exact hz
 | o+1,c::cs,n,k,h=>by
   unfold sub;exact H6c hz o cs n k fun l hl hj=>h l hl fun j v hv=>by rw[Nat.add_right_comm];simpa using hj j v hv
theorem Q2c(hT:T.Ok P){ty b o j:Nat}{x:Operand}{cs:LV}{p:Prop}(hx:ev e x=.pointer (some ⟨b,o,none⟩))(hc:p→∀w,C w→∀i v,cs[j+i]?=some v→w.cell? ⟨b,o+i,none⟩=some v):
 (b4d T ty cs j p).ok P C e (.load ty x):=by
 unfold b4d
 split
 ·rename_i ht;have h1:One P ty:=Tr.find_all (p:=LdT P) hT.ld ht
  split
  ·rename_i v hv;rw[d8a] at hv;exact fun hp _ _ _ _ _ w hw=>by
    have:=hc hp w hw 0 v (by simpa using hv);rw[Nat.add_zero] at this;simp[execOp,hx,Instr.loadAt,Instr.sureAddr,h1 w,this]
  ·trivial
 ·rename_i n ht;have h1:M8a P ty (n+1):=Tr.find_all (p:=LdT P) hT.ld ht;refine H6c (p:=fun(s:Sr)=>s.ok P C e (.load ty x)) (z:=.stop) (show Sr.ok P C e (.load ty x) .stop from trivial) _ _ _ _ fun l hl hj=>?_;exact fun hp _ _ _ _ _ w hw=>by
   have:=run_loadCells_list (P:=P) w ⟨b,o,none⟩ l (fun i v hv=>by rw[Addr.add_lit];exact hc hp w hw i v (hj i v hv));rw[hl] at this;simp[execOp,hx,Instr.loadAt,Instr.sureAddr,h1 w,this]
 ·trivial
theorem V6c(hT:T.Ok P){ty b o:Nat}{x:Operand}{cs:LV}{p:Prop}(hx:ev e x=.pointer (some ⟨b,o,none⟩))(hc:p→∀w,C w→Cells w b o cs):
 (ldW T ty cs p).ok P C e (.load ty x):=by
 unfold ldW
 split
 ·rename_i n ht;have h1:M8a P ty (n+1):=Tr.find_all (p:=LdT P) hT.ld ht;exact fun hp _ _ _ _ _ w hw=>by
   have:=run_loadCells_list (P:=P) w ⟨b,o,none⟩ cs (fun i v hv=>by rw[Addr.add_lit];exact hc hp.1 w hw i v hv);rw[hp.2] at this;simp[execOp,hx,Instr.loadAt,Instr.sureAddr,h1 w,this]
 ·trivial
theorem h3d(hT:T.Ok P)(hL:Kn C L F){hs:List j7a}{ty:Nat}{x:Operand}:(ldS T L F hs ty (ev e x)).ok P C e (.load ty x):=by
 unfold ldS
 split
 ·rename_i b o hx
  split
  ·split
   ·rename_i g t cs hn;have hm:∀w,C w→p0a w (g,t,cs):=fun w hw=>hL.own w hw _ (List.mem_of_getElem? (by rw[←d8a];exact hn)) g Z;exact Q2c hT hx fun hp w hw i v hv=>by subst hp;exact(hm w hw).cell hv
   ·trivial
  ·split
   ·rename_i i j b' o' cs hn;have hm:∀w,C w→Cells w b' o' cs:=fun w hw=>hL.row w hw _ (List.mem_of_getElem? (by rw[←d8a];exact hn));refine Q2c hT hx fun hp w hw i v hv=>?_;simp only[Prod.mk.injEq] at hp;obtain⟨rfl,rfl⟩:=hp;have:=hm w hw _ v hv
    rwa [←Nat.add_assoc] at this
   ·trivial
  ·split
   ·rename_i g t cs hn;have hm:∀w,C w→p0a w (g,t,cs):=fun w hw=>hL.own w hw _ (List.mem_of_getElem? (by rw[←d8a];exact hn)) g Z;refine V6c hT hx fun hp w hw i v hv=>?_;simp only[Prod.mk.injEq] at hp;obtain⟨rfl,rfl⟩:=hp;rw[Nat.zero_add];exact(hm w hw).cell hv
   ·trivial
  ·split
   ·rename_i i b' o' cs hn;have hm:∀w,C w→Cells w b' o' cs:=fun w hw=>hL.row w hw _ (List.mem_of_getElem? (by rw[←d8a];exact hn));refine V6c hT hx fun hp w hw=>?_;simp only[Prod.mk.injEq] at hp;obtain⟨rfl,rfl⟩:=hp;exact hm w hw
   ·trivial
  ·trivial
 ·trivial
theorem G5c(hT:T.Ok P)(hL:Kn C L F){hs:List j7a}{op:Op}:(K5c T L F hs e op).ok P C e op:=by
 unfold K5c
 split
 ·exact fun _ _ _ _ _ w _=>by simp only[execOp,Sem.run_pure]
 ·exact fun _ _ _ _ _ w _=>by simp only[execOp,Sem.run_pure]
 ·split
  ·rename_i hc;exact fun _ _ _ _ _ w _=>by simp[execOp,hc,asBool]
  ·rename_i hc;exact fun _ _ _ _ _ w _=>by simp[execOp,hc,asBool]
  ·trivial
 ·split
  ·rename_i a hx;exact fun _ _ _ _ _ w _=>by simp[execOp,hx]
  ·trivial
 ·split
  ·rename_i b o hx
   split
   ·rename_i a0 hf;have:=u5b hT.fa hf;exact fun _ _ _ _ _ w _=>by simp[execOp,hx,this w,Addr.add_lit]
   ·trivial
  ·trivial
 ·split
  ·rename_i cs hx
   split
   ·rename_i a0 hf;have hF:=u5b hT.fl hf
    split
    ·rename_i v hv;rw[d8a] at hv;exact fun _ _ _ _ _ w _=>by simp[execOp,hx,hF w cs v (by simpa using hv)]
    ·trivial
   ·trivial
  ·trivial
 ·split
  ·rename_i vs hx
   split
   ·rename_i v hv;rw[d8a] at hv;exact fun _ _ _ _ _ w _=>by simp[execOp,hx,Instr.extract,(by simpa using hv:vs[_]?=some v)]
   ·trivial
  ·trivial
 ·exact y9c hT
 ·exact B3d
 ·exact u3c hT
 ·exact b4c hT
 ·exact h3d hT hL
 ·trivial
end
inductive S1
 | next (hs:List j7a) (q:Prop) (e:Env)
 | br (p p':Prop) (d:Nat)
 | stop (o:Oper)
def force(v:Value)(k:Value→S1):S1:=match v with
 | .bool b=>k (.bool b)
 | .int kd n=>k (.int kd n)
 | .float a b=>k (.float a b)
 | .complex a b c=>k (.complex a b c)
 | .string s=>k (.string s)
 | .pointer a=>k (.pointer a)
 | .slice a n c=>k (.slice a n c)
 | .map r=>k (.map r)
 | .chan r=>k (.chan r)
 | .func f a b=>k (.func f a b)
 | .nilFunc=>k .nilFunc
 | .iface t v=>k (.iface t v)
 | .nilIface=>k .nilIface
 | .agg cs=>k (.agg cs)
 | .tuple vs=>k (.tuple vs)
theorem Y7b(v:Value)(k:Value→S1):force v k=k v:=by cases v<;>rfl
def N3c(N:Nat)(os:Array Oper)(e:Env)(g:Option (Nat×Bool)):Option Bool:=match g with
 | none=>some true
 | some (j,want)=>(match nth os.toList j with
   | some o=>(match o.dst with
     | some s=>bif Nat.ble (s+1) N then some (isB want (e s)) else none
     | none=>none)
   | none=>none)
def w5d(hs:List j7a):Op→List j7a
 | .load _ _=>hs.tail
 | .indexAddr _ _ _=>hs.tail
 | _=>hs
def D0d(T:Tab)(L:List Ent)(F:List Row)(hs:List j7a)(q:Prop)(e:Env)(d:Nat)(op:Op)(z:Oper):S1:=match K5c T L F hs e op with
 | .val v=>force v fun v=>.next hs q (upd e d v)
 | .need p v=>force v fun v=>.next (w5d hs op) (p∧q) (upd e d v)
 | .br p p'=>.br p p' d
 | .stop=>.stop z
def g6c(T:Tab)(N:Nat)(L:List Ent)(F:List Row)(hs:List j7a)(q:Prop)(os:Array Oper)(e:Env)(o:Oper):S1:=match o with
 | ⟨dst,op,ty,p,af,g⟩=>(match N3c N os e g with
   | none=>.stop ⟨dst,op,ty,p,af,g⟩
   | some false=>(match dst with
     | none=>.next hs q e
     | some d=>bif Nat.ble (d+1) N then .next hs q (upd e d undef) else .stop ⟨dst,op,ty,p,af,g⟩)
   | some true=>(match dst with
     | none=>.stop ⟨none,op,ty,p,af,none⟩
     | some d=>bif Nat.ble (d+1) N then D0d T L F hs q e d op ⟨some d,op,ty,p,af,none⟩ else .stop ⟨some d,op,ty,p,af,none⟩))
def w0c(P:Program)(N:Nat)(C:World→Prop)(os:Array Oper)(e:Env)(o:Oper)(e':Env):Prop :=
 (∃d v,o.dst=some d∧d<N∧e'=upd e d v∧((a1a os e o=true∧(∀c,o.op≠.defer c)∧∀w,C w→(execOp (ev e) o).run P w=.ok (.value v) w)∨(a1a os e o=false∧v=undef))) ∨
   (o.dst=none∧a1a os e o=false∧e'=e)
def t6c(N:Nat)(os:Array Oper)(e:Env)(o o':Oper):Prop :=
 o'=o∨∃j want s,o.guard=some (j,want)∧o'=⟨o.dst,o.op,o.type,o.pos,o.after,none⟩∧(os[j]?).bind (·.dst)=some s∧Nat.ble (s+1) N=true∧isB want (e s)=true
def S1.ok(P:Program)(N:Nat)(C:World→Prop)(os:Array Oper)(e:Env)(o:Oper)(q:Prop):S1→Prop
 | .next _ q' e'=>q'→q∧w0c P N C os e o e'
 | .br p p' d=>o.dst=some d∧(p→w0c P N C os e o (upd e d (.bool true)))∧(p'→w0c P N C os e o (upd e d (.bool false)))∧(p∨p')
 | .stop o'=>t6c N os e o o'
section
variable {P:Program} {T:Tab} {C:World→Prop} {L:List Ent} {F:List Row} {e:Env} {N:Nat} {os:Array Oper}
theorem d0d{hs:List j7a}{op:Op}(h:K5c T L F hs e op≠.stop):∀c,op≠.defer c:=by
 rintro c rfl;exact h Z
theorem i1b{g:Option (Nat×Bool)}{b:Bool}(h:N3c N os e g=some b){dst:Option Nat}{op:Op}{ty:Nat}{p:String}{af:Array Edge}:
 a1a os e ⟨dst,op,ty,p,af,g⟩=b∧(b=true→t6c N os e ⟨dst,op,ty,p,af,g⟩ ⟨dst,op,ty,p,af,none⟩):=by
 unfold N3c at h
 split at h
 ·cases h;exact⟨Z,fun _=>.inl Z⟩
 ·rename_i j a0
  split at h
  ·rename_i o ho;rw[d8a] at ho
   split at h
   ·rename_i s hs;cases hb:Nat.ble (s+1) N with
    | false=>rw[hb] at h;cases h
    | true =>
      rw[hb] at h;simp only[cond_true,Option.some.injEq] at h;have hd:(os[j]?).bind (·.dst)=some s:=by
       have:os[j]?=some o:=by simpa using ho
       rw[this];exact hs
      refine⟨by simp only[a1a,hd,Option.any_some,h],fun ht=>.inr ⟨j,a0,s,Z,Z,hd,hb,by rw[h,ht]⟩⟩
   ·cases h
  ·cases h
theorem V7b(hT:T.Ok P)(hL:Kn C L F){hs:List j7a}{q:Prop}{o:Oper}:(g6c T N L F hs q os e o).ok P N C os e o q:=by
 obtain⟨dst,op,ty,p,af,g⟩:=o;unfold g6c
 split
 rename_i x dst op ty p af g c0;cases c0
 split
 ·exact .inl Z
 ·rename_i hg;have hg:=(i1b hg (dst:=dst) (op:=op) (ty:=ty) (p:=p) (af:=af)).1
  split
  ·exact fun h=>⟨h,.inr ⟨Z,hg,Z⟩⟩
  ·rename_i d;cases hb:Nat.ble (d+1) N with
   | false=>exact .inl Z
   | true=>exact fun h=>⟨h,.inl ⟨d,undef,Z,Nat.le_of_ble_eq_true hb,Z,.inr ⟨hg,Z⟩⟩⟩
 ·rename_i hg;have hg:=i1b hg (dst:=dst) (op:=op) (ty:=ty) (p:=p) (af:=af)
  split
  ·exact hg.2 Z
  ·rename_i d;cases hb:Nat.ble (d+1) N with
   | false=>exact hg.2 Z
   | true =>
     have d0:=Nat.le_of_ble_eq_true hb;have a0:=G5c (P:=P) (C:=C) (e:=e) (op:=op) hT hL (hs:=hs);have b0:=d0d (T:=T) (L:=L) (F:=F) (e:=e) (hs:=hs) (op:=op);show S1.ok _ _ _ _ _ _ _ (D0d T L F hs q e d op _);unfold D0d;have key:∀v,R1b P C e op v→(∀c,op≠.defer c)→w0c P N C os e ⟨some d,op,ty,p,af,g⟩ (upd e d v):=fun v hv hn=>.inl ⟨d,v,Z,d0,Z,.inl ⟨hg.1,hn,fun w hw=>hv _ _ _ _ _ w hw⟩⟩
     split
     ·rename_i v hv;rw[hv] at a0 b0;rw[Y7b];exact fun h=>⟨h,key v a0 (b0 (by simp))⟩
     ·rename_i p v hv;rw[hv] at a0 b0;rw[Y7b];exact fun h=>⟨h.2,key v (a0 h.1) (b0 (by simp))⟩
     ·rename_i p p' hv;rw[hv] at a0 b0;exact⟨Z,fun h=>key _ (a0.1 h) (b0 (by simp)),fun h=>key _ (a0.2.1 h) (b0 (by simp)),a0.2.2⟩
     ·exact hg.2 Z
end
section
variable {P:Program} {r:Option Nat} {N:Nat} {D:List Deferred} {e e':Env} {w:World} {os:Array Oper} {rest:List Oper} {K:List Deferred→Env→World→Prop} {Kq:Env→Prop} {C:World→Prop} {o o':Oper}
theorem S3b(hw:C w)(hs:w0c P N C os e o e')(h:WL P r N os rest K D e' w):WL P r N os (o::rest) K D e w:=by
 unfold WL at *;intro a Q e0 f0 he hK;rcases hs with⟨d,v,hd,g0,rfl,hs⟩|⟨hd,hg,rfl⟩
 ·have c0:d<a.tmps.size:=by rw[e0];exact g0
  have a0:=h (a.put (some d) v) Q (by simp[Act.put,e0]) (by simp[Act.put,f0]) (by rw[b1a v c0,he]) hK;rcases hs with⟨hg,hn,d0⟩|⟨hg,rfl⟩
  ·have b0:Region.wanted o (yielded os a.tmps)=true:=by rw[p1a,he];exact hg
   simp only[wpListIn,b0,if_true];refine⟨I0a o w _,?_⟩;have:Oper.semAt (fc r).round a.eval o=execOp (ev e) o:=by rw[Oper.semAt_eq _ _ _ hn,v2a,he]
   rw[this,d0 w hw,Oper.uponIn_value,hd];exact a0
  ·have b0:Region.wanted o (yielded os a.tmps)=false:=by rw[p1a,he];exact hg
   simp only[wpListIn,b0,hd];exact⟨I0a _ _ _,a0⟩
 ·have b0:Region.wanted o (yielded os a.tmps)=false:=by rw[p1a,he];exact hg
  simp only[wpListIn,b0,hd];exact⟨I0a _ _ _,h a Q e0 f0 he hK⟩
theorem m6c(hs:t6c N os e o o')(h:WL P r N os (o'::rest) K D e w):WL P r N os (o::rest) K D e w:=by
 rcases hs with rfl|⟨j,a0,s,hg,rfl,h1,h2,h3⟩
 ·exact h
 ·obtain⟨_,_⟩:=o;simp only at hg;subst hg;exact T2a h1 h2 h3 h
theorem r3b{d:Nat}(hd:o.dst=some d)(hs:w0c P N C os e o e')(h:QL P N os C rest Kq e'):QL P N os C (o::rest) Kq e:=by
 rcases hs with⟨d,v,hd,c0,rfl,hs⟩|⟨b0,_⟩
 ·refine z3b hd (by rw[Nat.ble_eq];exact c0) ?_ h;rcases hs with⟨hg,hn,a0⟩|⟨hg,rfl⟩
  ·exact .inl ⟨hg,fun w hw=>.inl (a0 w hw)⟩
  ·exact .inr ⟨hg,Z⟩
 ·rw[hd] at b0;cases b0
theorem h5c(hs:t6c N os e o o')(h:QL P N os C (o'::rest) Kq e):QL P N os C (o::rest) Kq e:=by
 rcases hs with rfl|⟨j,a0,s,hg,rfl,h1,h2,h3⟩
 ·exact h
 ·obtain⟨_,_⟩:=o;simp only at hg;subst hg;exact y1a h1 h3 h
end
inductive Fr
 | seq (y:Code)
 | blk (id:Nat)
 | cut (I:List Deferred→Env→World→Prop)
def V1a(P:Program)(r:Option Nat)(N:Nat)(k:W4b):List Fr→W4b
 | []=>k
 | .seq y::s=>⟨fun D e w=>W P r N y (V1a P r N k s) D e w,(V1a P r N k s).brk,(V1a P r N k s).ret⟩
 | .blk id::s=>⟨(V1a P r N k s).norm,T5b id (V1a P r N k s).norm (V1a P r N k s).brk,(V1a P r N k s).ret⟩
 | .cut I::s=>⟨I,(V1a P r N k s).brk,(V1a P r N k s).ret⟩
inductive Ctl
 | code (c:Code)
 | ops (os:Array Oper) (l:List Oper)
 | fall
inductive Res
 | ops (q:Prop) (os:Array Oper) (l:List Oper) (s:List Fr) (e:Env)
 | code (q:Prop) (c:Code) (s:List Fr) (e:Env)
 | br (q p p':Prop) (os:Array Oper) (l:List Oper) (s:List Fr) (e:Env) (d:Nat)
 | fin (q:Prop) (e:Env)
 | pred (q:Prop) (I:List Deferred→Env→World→Prop) (e:Env)
 | ret (q:Prop) (e:Env)
 | fall (q:Prop) (s:List Fr) (e:Env)
def L2c(id:Nat):List Fr→Option (List Fr)
 | []=>none
 | .blk i::s=>bif Nat.beq id i then some s else L2c id s
 | _::s=>L2c id s
def run(T:Tab)(N:Nat)(L:List Ent)(F:List Row):Nat→List j7a→Prop→Ctl→List Fr→Env→Res
 | 0,_,q,c,s,e=>(match c with | .code c=>.code q c s e | .ops os l=>.ops q os l s e | .fall=>.fall q s e)
 | n+1,hs,q,.fall,s,e=>(match s with
   | []=>.fin q e
   | .seq y::s=>run T N L F n hs q (.code y) s e
   | .blk _::s=>run T N L F n hs q .fall s e
   | .cut I::_=>.pred q I e)
 | n+1,hs,q,.code c,s,e=>(match c with
   | .skip=>run T N L F n hs q .fall s e
   | .label _=>run T N L F n hs q .fall s e
   | .seq a b=>run T N L F n hs q (.code a) (.seq b::s) e
   | .block id c=>run T N L F n hs q (.code c) (.blk id::s) e
   | .cond x a b=>(match ev e x with
     | .bool true=>run T N L F n hs q (.code a) s e
     | .bool false=>run T N L F n hs q (.code b) s e
     | _=>.code q (.cond x a b) s e)
   | .exit id=>(match L2c id s with
     | some s=>run T N L F n hs q .fall s e
     | none=>.code q (.exit id) s e)
   | .ret=>.ret q e
   | .region _ os false=>run T N L F n hs q (.ops os os.toList) s e
   | c=>.code q c s e)
 | n+1,hs,q,.ops os l,s,e=>(match l with
   | []=>run T N L F n hs q .fall s e
   | o::l=>(match g6c T N L F hs q os e o with
     | .next hs q e=>run T N L F n hs q (.ops os l) s e
     | .br p p' d=>.br q p p' os l s e d
     | .stop o=>.ops q os (o::l) s e))
section
variable {P:Program} {T:Tab} {r:Option Nat} {N:Nat} {k:W4b} {D:List Deferred} {w:World} {L:List Ent} {F:List Row}
def Ctl.ok(P:Program)(r:Option Nat)(N:Nat)(k:W4b)(D:List Deferred)(w:World)(s:List Fr)(e:Env):Ctl→Prop
 | .code c=>W P r N c (V1a P r N k s) D e w
 | .ops os l=>WL P r N os l (V1a P r N k s).norm D e w
 | .fall=>(V1a P r N k s).norm D e w
def Res.ok(P:Program)(r:Option Nat)(N:Nat)(k:W4b)(D:List Deferred)(w:World):Res→Prop
 | .ops q os l s e=>q∧WL P r N os l (V1a P r N k s).norm D e w
 | .code q c s e=>q∧W P r N c (V1a P r N k s) D e w
 | .br q p p' os l s e d=>q∧(p→WL P r N os l (V1a P r N k s).norm D (upd e d (.bool true)) w)∧(p'→WL P r N os l (V1a P r N k s).norm D (upd e d (.bool false)) w)
 | .fin q e=>q∧k.norm D e w
 | .pred q I e=>q∧I D e w
 | .ret q e=>q∧k.ret D e w
 | .fall q s e=>q∧(V1a P r N k s).norm D e w
theorem i8a:∀(s:List Fr),(V1a P r N k s).ret=k.ret
 | []=>rfl
 | .seq _::s=>i8a s
 | .blk _::s=>i8a s
 | .cut _::s=>i8a s
theorem c0b{id:Nat}{e:Env}:∀(s s':List Fr),L2c id s=some s'→(V1a P r N k s').norm D e w→(V1a P r N k s).brk id D e w
 | [],_,h,_=>by cases h
 | .blk i::s,s',h,g=>by
   unfold L2c at h;cases hb:Nat.beq id i with
   | true =>
     rw[hb] at h;cases h;rw[Nat.eq_of_beq_eq_true hb];exact o9b g
   | false =>
     rw[hb] at h;exact I0c hb (c0b s s' h g)
 | .seq _::s,s',h,g=>c0b s s' h g
 | .cut _::s,s',h,g=>c0b s s' h g
theorem m2a(hT:T.Ok P)(hL:Kn (·=w) L F):∀(n:Nat) (hs:List j7a) (q:Prop) (c:Ctl) (s:List Fr) (e:Env),(run T N L F n hs q c s e).ok P r N k D w→q∧c.ok P r N k D w s e:=by
 intro n
 induction n with
 | zero =>
   intro hs q c s e h;cases c with
   | code c=>exact h
   | ops os l=>exact h
   | fall=>exact h
 | succ n ih =>
   intro hs q c s e h;cases c with
   | fall =>
     unfold run at h;cases s with
     | nil=>exact h
     | cons f s =>
       cases f with
       | seq y=>exact ih hs q (.code y) s e h
       | blk i=>exact ih hs q .fall s e h
       | cut I=>exact h
   | code c =>
     unfold run at h
     split at h
     ·have:=ih _ _ _ _ _ h;exact⟨this.1,p3d this.2⟩
     ·have:=ih _ _ _ _ _ h;exact⟨this.1,x9c this.2⟩
     ·have:=ih _ _ _ _ _ h;exact⟨this.1,v9c this.2⟩
     ·have:=ih _ _ _ _ _ h;exact⟨this.1,Q9c this.2⟩
     ·split at h
      ·rename_i hx;have:=ih _ _ _ _ _ h;exact⟨this.1,X2d hx this.2⟩
      ·rename_i hx;have:=ih _ _ _ _ _ h;exact⟨this.1,Y2d hx this.2⟩
      ·exact h
     ·split at h
      ·rename_i s' hs;have:=ih _ _ _ _ _ h;exact⟨this.1,v3d (c0b _ _ hs this.2)⟩
      ·exact h
     ·exact⟨h.1,m4d (by rw[i8a];exact h.2)⟩
     ·rename_i id os;have:=ih _ _ _ _ _ h;refine⟨this.1,?_⟩;have h2:WL P r N os.toList.toArray os.toList (V1a P r N k s).norm D e w:=by
       have h3:WL P r N os os.toList (V1a P r N k s).norm D e w:=this.2;simpa using h3
      have:=Y4c (id:=id) (b:=(V1a P r N k s).brk) (t:=(V1a P r N k s).ret) h2;show W P r N (.region id os false) (V1a P r N k s) D e w;simpa using this
     ·exact h
   | ops os l =>
     unfold run at h;cases l with
     | nil =>
       have:=ih _ _ _ _ _ h;exact⟨this.1,S0a this.2⟩
     | cons o l =>
       simp only at h;have h1:=V7b (N:=N) (os:=os) (e:=e) hT hL (hs:=hs) (q:=q) (o:=o)
       split at h
       ·rename_i b0 q' e' a0;rw[a0] at h1;have:=ih _ _ _ _ _ h;have h2:=h1 this.1;exact⟨h2.1,S3b (C:=(·=w)) Z h2.2 this.2⟩
       ·rename_i p p' d a0;rw[a0] at h1;obtain⟨_,a1,a2,a3⟩:=h1;obtain⟨hq,b1,b2⟩:=h;refine⟨hq,?_⟩;rcases a3 with hp|hp
        ·exact S3b (C:=(·=w)) Z (a1 hp) (b1 hp)
        ·exact S3b (C:=(·=w)) Z (a2 hp) (b2 hp)
       ·rename_i o' a0;rw[a0] at h1;exact⟨h.1,m6c h1 h.2⟩
end
structure KW (M:List Nat) (w0 w:World) (L:List Ent) (F:List Row):Prop where
 st:St M w0 w L
 row:∀f∈F,Cells w f.1 f.2.1 f.2.2
def KQ(M:List Nat)(w0 w:World)(L:List Ent)(F:List Row):Prop:=∀w1,Cl M w0 w L w1→∀f∈F,Cells w1 f.1 f.2.1 f.2.2
section
variable {M:List Nat} {w0 w:World} {L:List Ent} {F:List Row} {b' o':Nat} {cs:LV}
theorem kn0{C:World→Prop}:Kn C [] []:=⟨fun _ _ _ hb=>by simp at hb,fun _ _ _ hb=>by simp at hb⟩
theorem St.k(S:St M w0 w L):KW M w0 w L []:=⟨S,fun _ hf=>by simp at hf⟩
theorem KW.b(K:KW M w0 w L F)(h:Cells w b' o' cs):KW M w0 w L ((b',o',cs)::F):=⟨K.st,fun f hf=>by
 rcases List.mem_cons.1 hf with rfl|hf
 ·exact h
 ·exact K.row f hf⟩
theorem St.row(S:St [] w0 w L)(h:Cells w0 b' o' cs):Cells w b' o' cs:=fun j v hj=>S.old (h j v hj)
theorem KW.a(K:KW [] w0 w L F)(h:Cells w0 b' o' cs):KW [] w0 w L ((b',o',cs)::F):=K.b (K.st.row h)
theorem KW.kn(K:KW M w0 w L F):Kn (·=w) L F:=⟨fun w' hw b hb g hg=>by subst hw;exact(K.st.own b hb g hg).2,fun w' hw f hf=>by subst hw;exact K.row f hf⟩
theorem St.q(_:St M w0 w L):KQ M w0 w L []:=fun _ _ _ hf=>by simp at hf
theorem KQ.add(K:KQ M w0 w L F)(h:∀w1,Cl M w0 w L w1→Cells w1 b' o' cs):KQ M w0 w L ((b',o',cs)::F):=fun w1 hw f hf=>by
 rcases List.mem_cons.1 hf with rfl|hf
 ·exact h w1 hw
 ·exact K w1 hw f hf
theorem KQ.a(K:KQ [] w0 w L F)(h:Cells w0 b' o' cs):KQ [] w0 w L ((b',o',cs)::F):=K.add fun _ hw=>hw.1.row h
theorem KQ.b(K:KQ M w0 w L F)(h:Cells w b' o' cs):KQ M w0 w L ((b',o',cs)::F):=K.add fun _ hw=>h.keep hw.2 (by simp)
theorem KQ.kn(K:KQ M w0 w L F):Kn (Cl M w0 w L) L F:=⟨fun _ hw b hb g hg=>(hw.1.own b hb g hg).2,fun w1 hw f hf=>K w1 hw f hf⟩
end
class HasTab (P:Program) where
 T:Tab
 ok:T.Ok P
section
variable {P:Program} [H:HasTab P] {r:Option Nat} {N:Nat} {k:W4b} {kn kr:List Deferred→Env→World→Prop} {kb:Nat→List Deferred→Env→World→Prop} {D:List Deferred} {M:List Nat} {w0 w:World} {L:List Ent} {F:List Row} {c c':Code} {s s':List Fr} {e e':Env} {os os':Array Oper} {l l':List Oper} {q p p':Prop} {I:List Deferred→Env→World→Prop} {d:Nat}
theorem wO(K:KW M w0 w L F)(hs:List j7a)(h:run H.T N L F 999 hs True (.code c) s e=.ops q os l s' e')(hq:q)(g:WL P r N os l (V1a P r N k s').norm D e' w):W P r N c (V1a P r N k s) D e w :=
 (m2a (r:=r) (k:=k) H.ok K.kn _ _ True (.code c) s e (by rw[h];exact⟨hq,g⟩)).2
theorem wO0(h:run H.T N [] [] 999 [] True (.code c) s e=.ops q os l s' e')(hq:q)(g:WL P r N os l (V1a P r N k s').norm D e' w):W P r N c (V1a P r N k s) D e w :=
 (m2a (r:=r) (k:=k) H.ok kn0 _ _ True (.code c) s e (by rw[h];exact⟨hq,g⟩)).2
theorem wO1(h:run H.T N [] [] 999 [] True (.code c) s e=.ops True os l s' e')(g:WL P r N os l (V1a P r N k s').norm D e' w):W P r N c (V1a P r N k s) D e w :=wO0 h ⟨⟩ g
theorem wOn(n:Nat)(K:KW M w0 w L F)(hs:List j7a)(h:run H.T N L F n hs True (.code c) s e=.ops q os l s' e')(hq:q)(g:WL P r N os l (V1a P r N k s').norm D e' w):W P r N c (V1a P r N k s) D e w :=
 (m2a (r:=r) (k:=k) H.ok K.kn _ _ True (.code c) s e (by rw[h];exact⟨hq,g⟩)).2
theorem wC(K:KW M w0 w L F)(hs:List j7a)(h:run H.T N L F 999 hs True (.code c) s e=.code q c' s' e')(hq:q)(g:W P r N c' (V1a P r N k s') D e' w):W P r N c (V1a P r N k s) D e w :=
 (m2a (r:=r) (k:=k) H.ok K.kn _ _ True (.code c) s e (by rw[h];exact⟨hq,g⟩)).2
theorem wC0(h:run H.T N [] [] 999 [] True (.code c) s e=.code q c' s' e')(hq:q)(g:W P r N c' (V1a P r N k s') D e' w):W P r N c (V1a P r N k s) D e w :=
 (m2a (r:=r) (k:=k) H.ok kn0 _ _ True (.code c) s e (by rw[h];exact⟨hq,g⟩)).2
theorem wC1(h:run H.T N [] [] 999 [] True (.code c) s e=.code True c' s' e')(g:W P r N c' (V1a P r N k s') D e' w):W P r N c (V1a P r N k s) D e w :=wC0 h ⟨⟩ g
theorem wB(K:KW M w0 w L F)(hs:List j7a)(h:run H.T N L F 999 hs True (.code c) s e=.br q p p' os l s' e' d)(hq:q)(g:p→WL P r N os l (V1a P r N k s').norm D (upd e' d (.bool true)) w)(g':p'→WL P r N os l (V1a P r N k s').norm D (upd e' d (.bool false)) w):W P r N c (V1a P r N k s) D e w :=
 (m2a (r:=r) (k:=k) H.ok K.kn _ _ True (.code c) s e (by rw[h];exact⟨hq,g,g'⟩)).2
theorem wB0(h:run H.T N [] [] 999 [] True (.code c) s e=.br q p p' os l s' e' d)(hq:q)(g:p→WL P r N os l (V1a P r N k s').norm D (upd e' d (.bool true)) w)(g':p'→WL P r N os l (V1a P r N k s').norm D (upd e' d (.bool false)) w):W P r N c (V1a P r N k s) D e w :=
 (m2a (r:=r) (k:=k) H.ok kn0 _ _ True (.code c) s e (by rw[h];exact⟨hq,g,g'⟩)).2
theorem wB1(h:run H.T N [] [] 999 [] True (.code c) s e=.br True p p' os l s' e' d)(g:p→WL P r N os l (V1a P r N k s').norm D (upd e' d (.bool true)) w)(g':p'→WL P r N os l (V1a P r N k s').norm D (upd e' d (.bool false)) w):W P r N c (V1a P r N k s) D e w :=wB0 h ⟨⟩ g g'
theorem wR0(h:run H.T N [] [] 999 [] True (.code c) s e=.ret q e')(hq:q)(g:kr D e' w):W P r N c (V1a P r N ⟨kn,kb,kr⟩ s) D e w :=
 (m2a (r:=r) (k:=⟨kn,kb,kr⟩) H.ok kn0 _ _ True (.code c) s e (by rw[h];exact⟨hq,g⟩)).2
theorem wF0(h:run H.T N [] [] 999 [] True (.code c) s e=.fin q e')(hq:q)(g:kn D e' w):W P r N c (V1a P r N ⟨kn,kb,kr⟩ s) D e w :=
 (m2a (r:=r) (k:=⟨kn,kb,kr⟩) H.ok kn0 _ _ True (.code c) s e (by rw[h];exact⟨hq,g⟩)).2
theorem lO(K:KW M w0 w L F)(hs:List j7a)(h:run H.T N L F 999 hs True (.ops os' l') s e=.ops q os l s' e')(hq:q)(g:WL P r N os l (V1a P r N k s').norm D e' w):WL P r N os' l' (V1a P r N k s).norm D e w :=
 (m2a (r:=r) (k:=k) H.ok K.kn _ _ True (.ops os' l') s e (by rw[h];exact⟨hq,g⟩)).2
theorem lO0(h:run H.T N [] [] 999 [] True (.ops os' l') s e=.ops q os l s' e')(hq:q)(g:WL P r N os l (V1a P r N k s').norm D e' w):WL P r N os' l' (V1a P r N k s).norm D e w :=
 (m2a (r:=r) (k:=k) H.ok kn0 _ _ True (.ops os' l') s e (by rw[h];exact⟨hq,g⟩)).2
theorem lO1(h:run H.T N [] [] 999 [] True (.ops os' l') s e=.ops True os l s' e')(g:WL P r N os l (V1a P r N k s').norm D e' w):WL P r N os' l' (V1a P r N k s).norm D e w :=lO0 h ⟨⟩ g
theorem fO0(h:run H.T N [] [] 999 [] True (.fall) s e=.ops q os l s' e')(hq:q)(g:WL P r N os l (V1a P r N k s').norm D e' w):(V1a P r N k s).norm D e w :=
 (m2a (r:=r) (k:=k) H.ok kn0 _ _ True (.fall) s e (by rw[h];exact⟨hq,g⟩)).2
theorem lOn(n:Nat)(K:KW M w0 w L F)(hs:List j7a)(h:run H.T N L F n hs True (.ops os' l') s e=.ops q os l s' e')(hq:q)(g:WL P r N os l (V1a P r N k s').norm D e' w):WL P r N os' l' (V1a P r N k s).norm D e w :=
 (m2a (r:=r) (k:=k) H.ok K.kn _ _ True (.ops os' l') s e (by rw[h];exact⟨hq,g⟩)).2
theorem lC(K:KW M w0 w L F)(hs:List j7a)(h:run H.T N L F 999 hs True (.ops os' l') s e=.code q c' s' e')(hq:q)(g:W P r N c' (V1a P r N k s') D e' w):WL P r N os' l' (V1a P r N k s).norm D e w :=
 (m2a (r:=r) (k:=k) H.ok K.kn _ _ True (.ops os' l') s e (by rw[h];exact⟨hq,g⟩)).2
theorem lC0(h:run H.T N [] [] 999 [] True (.ops os' l') s e=.code q c' s' e')(hq:q)(g:W P r N c' (V1a P r N k s') D e' w):WL P r N os' l' (V1a P r N k s).norm D e w :=
 (m2a (r:=r) (k:=k) H.ok kn0 _ _ True (.ops os' l') s e (by rw[h];exact⟨hq,g⟩)).2
theorem lC1(h:run H.T N [] [] 999 [] True (.ops os' l') s e=.code True c' s' e')(g:W P r N c' (V1a P r N k s') D e' w):WL P r N os' l' (V1a P r N k s).norm D e w :=lC0 h ⟨⟩ g
theorem fC0(h:run H.T N [] [] 999 [] True (.fall) s e=.code q c' s' e')(hq:q)(g:W P r N c' (V1a P r N k s') D e' w):(V1a P r N k s).norm D e w :=
 (m2a (r:=r) (k:=k) H.ok kn0 _ _ True (.fall) s e (by rw[h];exact⟨hq,g⟩)).2
theorem lCn(n:Nat)(K:KW M w0 w L F)(hs:List j7a)(h:run H.T N L F n hs True (.ops os' l') s e=.code q c' s' e')(hq:q)(g:W P r N c' (V1a P r N k s') D e' w):WL P r N os' l' (V1a P r N k s).norm D e w :=
 (m2a (r:=r) (k:=k) H.ok K.kn _ _ True (.ops os' l') s e (by rw[h];exact⟨hq,g⟩)).2
theorem fCn(n:Nat)(K:KW M w0 w L F)(hs:List j7a)(h:run H.T N L F n hs True (.fall) s e=.code q c' s' e')(hq:q)(g:W P r N c' (V1a P r N k s') D e' w):(V1a P r N k s).norm D e w :=
 (m2a (r:=r) (k:=k) H.ok K.kn _ _ True (.fall) s e (by rw[h];exact⟨hq,g⟩)).2
theorem lB(K:KW M w0 w L F)(hs:List j7a)(h:run H.T N L F 999 hs True (.ops os' l') s e=.br q p p' os l s' e' d)(hq:q)(g:p→WL P r N os l (V1a P r N k s').norm D (upd e' d (.bool true)) w)(g':p'→WL P r N os l (V1a P r N k s').norm D (upd e' d (.bool false)) w):WL P r N os' l' (V1a P r N k s).norm D e w :=
 (m2a (r:=r) (k:=k) H.ok K.kn _ _ True (.ops os' l') s e (by rw[h];exact⟨hq,g,g'⟩)).2
theorem lB0(h:run H.T N [] [] 999 [] True (.ops os' l') s e=.br q p p' os l s' e' d)(hq:q)(g:p→WL P r N os l (V1a P r N k s').norm D (upd e' d (.bool true)) w)(g':p'→WL P r N os l (V1a P r N k s').norm D (upd e' d (.bool false)) w):WL P r N os' l' (V1a P r N k s).norm D e w :=
 (m2a (r:=r) (k:=k) H.ok kn0 _ _ True (.ops os' l') s e (by rw[h];exact⟨hq,g,g'⟩)).2
theorem lB1(h:run H.T N [] [] 999 [] True (.ops os' l') s e=.br True p p' os l s' e' d)(g:p→WL P r N os l (V1a P r N k s').norm D (upd e' d (.bool true)) w)(g':p'→WL P r N os l (V1a P r N k s').norm D (upd e' d (.bool false)) w):WL P r N os' l' (V1a P r N k s).norm D e w :=lB0 h ⟨⟩ g g'
theorem lP(K:KW M w0 w L F)(hs:List j7a)(h:run H.T N L F 999 hs True (.ops os' l') s e=.pred q I e')(hq:q)(g:I D e' w):WL P r N os' l' (V1a P r N k s).norm D e w :=
 (m2a (r:=r) (k:=k) H.ok K.kn _ _ True (.ops os' l') s e (by rw[h];exact⟨hq,g⟩)).2
theorem lP0(h:run H.T N [] [] 999 [] True (.ops os' l') s e=.pred q I e')(hq:q)(g:I D e' w):WL P r N os' l' (V1a P r N k s).norm D e w :=
 (m2a (r:=r) (k:=k) H.ok kn0 _ _ True (.ops os' l') s e (by rw[h];exact⟨hq,g⟩)).2
theorem lP1(h:run H.T N [] [] 999 [] True (.ops os' l') s e=.pred (q∧True) I e')(g:I D e' w)(hq:q:=by omega):WL P r N os' l' (V1a P r N k s).norm D e w :=lP0 h ⟨hq,⟨⟩⟩ g
theorem fP0(h:run H.T N [] [] 999 [] True (.fall) s e=.pred q I e')(hq:q)(g:I D e' w):(V1a P r N k s).norm D e w :=
 (m2a (r:=r) (k:=k) H.ok kn0 _ _ True (.fall) s e (by rw[h];exact⟨hq,g⟩)).2
theorem lR(K:KW M w0 w L F)(hs:List j7a)(h:run H.T N L F 999 hs True (.ops os' l') s e=.ret q e')(hq:q)(g:kr D e' w):WL P r N os' l' (V1a P r N ⟨kn,kb,kr⟩ s).norm D e w :=
 (m2a (r:=r) (k:=⟨kn,kb,kr⟩) H.ok K.kn _ _ True (.ops os' l') s e (by rw[h];exact⟨hq,g⟩)).2
theorem lR0(h:run H.T N [] [] 999 [] True (.ops os' l') s e=.ret q e')(hq:q)(g:kr D e' w):WL P r N os' l' (V1a P r N ⟨kn,kb,kr⟩ s).norm D e w :=
 (m2a (r:=r) (k:=⟨kn,kb,kr⟩) H.ok kn0 _ _ True (.ops os' l') s e (by rw[h];exact⟨hq,g⟩)).2
theorem lR1(h:run H.T N [] [] 999 [] True (.ops os' l') s e=.ret True e')(g:kr D e' w):WL P r N os' l' (V1a P r N ⟨kn,kb,kr⟩ s).norm D e w :=lR0 h ⟨⟩ g
theorem fR0(h:run H.T N [] [] 999 [] True (.fall) s e=.ret q e')(hq:q)(g:kr D e' w):(V1a P r N ⟨kn,kb,kr⟩ s).norm D e w :=
 (m2a (r:=r) (k:=⟨kn,kb,kr⟩) H.ok kn0 _ _ True (.fall) s e (by rw[h];exact⟨hq,g⟩)).2
theorem lF0(h:run H.T N [] [] 999 [] True (.ops os' l') s e=.fin q e')(hq:q)(g:kn D e' w):WL P r N os' l' (V1a P r N ⟨kn,kb,kr⟩ s).norm D e w :=
 (m2a (r:=r) (k:=⟨kn,kb,kr⟩) H.ok kn0 _ _ True (.ops os' l') s e (by rw[h];exact⟨hq,g⟩)).2
theorem lF1(h:run H.T N [] [] 999 [] True (.ops os' l') s e=.fin True e')(g:kn D e' w):WL P r N os' l' (V1a P r N ⟨kn,kb,kr⟩ s).norm D e w :=lF0 h ⟨⟩ g
theorem lT{fn:Func}{R:Value→World→Prop}{t:Nat}(h:run H.T N [] [] 999 [] True (.ops os' l') s e=.ret q e')(hq:q)(hf:fn.results=#[.tmp t])(g:R (e' t) w):WL P r N os' l' (V1a P r N ⟨kn,kb,g4a P fn R⟩ s).norm [] e w:=lR0 h hq (w0a (hv:=Z) hf g)
theorem lU{fn:Func}{R:Value→World→Prop}{t:Nat}(h:run H.T N [] [] 999 [] True (.ops os' l') s e=.ret True e')(hf:fn.results=#[.tmp t])(g:R (e' t) w):WL P r N os' l' (V1a P r N ⟨kn,kb,g4a P fn R⟩ s).norm [] e w:=lT h ⟨⟩ hf g
theorem lT2{fn:Func}{R:Value→World→Prop}{t u:Nat}(h:run H.T N [] [] 999 [] True (.ops os' l') s e=.ret q e')(hq:q)(hf:fn.results=#[.tmp t,.tmp u])(g:R (.tuple #[e' t,e' u]) w):WL P r N os' l' (V1a P r N ⟨kn,kb,g4a P fn R⟩ s).norm [] e w:=lR0 h hq (o3b (hv:=Z) (hv':=Z) hf g)
theorem lT1{fn:Func}{R:Value→World→Prop}{t u:Nat}(h:run H.T N [] [] 999 [] True (.ops os' l') s e=.ret True e')(hf:fn.results=#[.tmp t,.tmp u])(g:R (.tuple #[e' t,e' u]) w):WL P r N os' l' (V1a P r N ⟨kn,kb,g4a P fn R⟩ s).norm [] e w:=lT2 h ⟨⟩ hf g
end
section
variable {P:Program} {r:Option Nat} {N:Nat} {k:W4b} {D:List Deferred} {w:World} {c:Code} {s:List Fr} {e:Env}
theorem a0a{f:FuncId}{fn:Func}{c:Code}{args:Array Value}{R:Value→World→Prop}(hf:P.funcs[f]?=some fn)(hb:fn.body=some c)(hN:fn.ntmps=N)(a0:Nat.ble args.size N=true)
 (h:W P none N c (V1a P none N ⟨g4a P fn R,fun _ _ _ _=>False,g4a P fn R⟩ []) [] (T0b args) w):A0a P f args w R:=w9b hf hb hN a0 h
theorem wJ{kn kr:List Deferred→Env→World→Prop}{kb:Nat→List Deferred→Env→World→Prop}{s:List Fr}(h:W P r N c ⟨(V1a P r N ⟨kn,kb,kr⟩ s).norm,(V1a P r N ⟨kn,kb,kr⟩ s).brk,kr⟩ D e w):W P r N c (V1a P r N ⟨kn,kb,kr⟩ s) D e w:=by
 have h2:(V1a P r N ⟨kn,kb,kr⟩ s).ret=kr:=i8a s;generalize V1a P r N ⟨kn,kb,kr⟩ s=K at h h2;obtain⟨_,_,c'⟩:=K;obtain rfl:c'=kr:=h2;exact h
theorem wI{kk:W4b}(h:W P r N c (V1a P r N kk []) D e w):W P r N c kk D e w:=h
theorem wE(h:W P r N c ⟨(V1a P r N k s).norm,(V1a P r N k s).brk,(V1a P r N k s).ret⟩ D e w):W P r N c (V1a P r N k s) D e w:=h
def Sl(e:Env)(l:List (Nat×Value)):Prop:=l.map (fun p=>e p.1)=l.map (·.2)
def e4d(e:Env):List (Nat×Value)→Env
 | []=>e
 | (d,v)::l=>upd (e4d e l) d v
theorem h5b{e:Env}:∀{l:List (Nat×Value)},Sl e l→e4d e l=e
 | [],_=>rfl
 | (d,v)::l,h=>by
   simp only[Sl,List.map_cons,List.cons.injEq] at h;rw[e4d,h5b h.2];exact b8b e h.1
theorem wK{k:W4b}{l:List (Nat×Value)}(h:Sl e l)(g:W P r N c k D (e4d e l) w):W P r N c k D e w:=by rwa [h5b h] at g
theorem wL(J:Nat→List Deferred→Env→World→Prop){μ:Nat}(h0:J μ D e w)
 (g:∀μ D e w,J μ D e w→W P r N c (V1a P r N k (.cut (fun D' e' w'=>∃m,m<μ∧J m D' e' w')::s)) D e w):W P r N (.loop c) (V1a P r N k s) D e w:=wE (J1d J h0 g)
theorem wX{x y:Code}(J:List Deferred→Env→World→Prop)(h:W P r N x (V1a P r N k (.cut J::s)) D e w)(h':∀D e w,J D e w→W P r N y (V1a P r N k s) D e w):W P r N (.seq x y) (V1a P r N k s) D e w:=wE (q3d J h h')
theorem wY{x y z:Code}(J:List Deferred→Env→World→Prop)(h:W P r N x (V1a P r N k (.seq y::.cut J::s)) D e w)(h':∀D e w,J D e w→W P r N z (V1a P r N k s) D e w):W P r N (.seq x (.seq y z)) (V1a P r N k s) D e w:=wE (v9c (k7c h (fun _ _ _ hb=>wE (q3d J hb h')) (fun _ _ _ _ h=>h) (fun _ _ _ h=>h)))
end
inductive f4d
 | ops (q:Prop) (l:List Oper) (e:Env)
 | br (q p p':Prop) (l:List Oper) (e:Env) (d:Nat)
 | nil (q:Prop) (e:Env)
def M0c(T:Tab)(N:Nat)(L:List Ent)(F:List Row)(os:Array Oper):Nat→List j7a→Prop→List Oper→Env→f4d
 | 0,_,q,l,e=>.ops q l e
 | n+1,hs,q,l,e=>(match l with
   | []=>.nil q e
   | o::l=>(match o.dst with
     | none=>.ops q (o::l) e
     | some _=>(match g6c T N L F hs q os e o with
       | .next hs q e=>M0c T N L F os n hs q l e
       | .br p p' d=>.br q p p' l e d
       | .stop o=>.ops q (o::l) e)))
section
variable {P:Program} {N:Nat} {C:World→Prop} {M:List Nat} {w0 w:World} {L:List Ent} {F:List Row} {e e':Env} {os:Array Oper} {l l':List Oper} {q p p':Prop} {d:Nat} {K:Env→Prop}
def f4d.ok(P:Program)(N:Nat)(C:World→Prop)(os:Array Oper)(K:Env→Prop):f4d→Prop
 | .ops q l e=>q∧QL P N os C l K e
 | .br q p p' l e d=>q∧(p→QL P N os C l K (upd e d (.bool true)))∧(p'→QL P N os C l K (upd e d (.bool false)))
 | .nil q e=>q∧K e
theorem C7a{T:Tab}(hT:T.Ok P)(hL:Kn C L F):∀(n:Nat) (hs:List j7a) (q:Prop) (l:List Oper) (e:Env),(M0c T N L F os n hs q l e).ok P N C os K→q∧QL P N os C l K e:=by
 intro n
 induction n with
 | zero=>intro hs q l e h;exact h
 | succ n ih =>
   intro hs q l e h;unfold M0c at h;cases l with
   | nil=>exact⟨h.1,n0a h.2⟩
   | cons o l =>
     simp only at h
     split at h
     ·exact h
     ·rename_i d hd;have h1:=V7b (N:=N) (os:=os) (e:=e) hT hL (hs:=hs) (q:=q) (o:=o)
      split at h
      ·rename_i b0 q' e' a0;rw[a0] at h1;have:=ih _ _ _ _ h;have h2:=h1 this.1;exact⟨h2.1,r3b hd h2.2 this.2⟩
      ·rename_i p p' d a0;rw[a0] at h1;obtain⟨_,a1,a2,a3⟩:=h1;obtain⟨hq,b1,b2⟩:=h;refine⟨hq,?_⟩;rcases a3 with hp|hp
       ·exact r3b hd (a1 hp) (b1 hp)
       ·exact r3b hd (a2 hp) (b2 hp)
      ·rename_i o' a0;rw[a0] at h1;exact⟨h.1,h5c h1 h.2⟩
variable [H:HasTab P]
theorem qO(K':KQ M w0 w L F)(hs:List j7a)(h:M0c H.T N L F os 999 hs True l' e=.ops q l e')(hq:q)(g:QL P N os (Cl M w0 w L) l K e'):QL P N os (Cl M w0 w L) l' K e :=
 (C7a H.ok K'.kn _ _ True l' e (by rw[h];exact⟨hq,g⟩)).2
theorem qO0(h:M0c H.T N [] [] os 999 [] True l' e=.ops q l e')(hq:q)(g:QL P N os C l K e'):QL P N os C l' K e :=
 (C7a H.ok kn0 _ _ True l' e (by rw[h];exact⟨hq,g⟩)).2
theorem qO1(h:M0c H.T N [] [] os 999 [] True l' e=.ops True l e')(g:QL P N os C l K e'):QL P N os C l' K e :=qO0 h ⟨⟩ g
theorem qOn(n:Nat)(K':KQ M w0 w L F)(hs:List j7a)(h:M0c H.T N L F os n hs True l' e=.ops q l e')(hq:q)(g:QL P N os (Cl M w0 w L) l K e'):QL P N os (Cl M w0 w L) l' K e :=
 (C7a H.ok K'.kn _ _ True l' e (by rw[h];exact⟨hq,g⟩)).2
theorem qB(K':KQ M w0 w L F)(hs:List j7a)(h:M0c H.T N L F os 999 hs True l' e=.br q p p' l e' d)(hq:q)(g:p→QL P N os (Cl M w0 w L) l K (upd e' d (.bool true)))(g':p'→QL P N os (Cl M w0 w L) l K (upd e' d (.bool false))):QL P N os (Cl M w0 w L) l' K e :=
 (C7a H.ok K'.kn _ _ True l' e (by rw[h];exact⟨hq,g,g'⟩)).2
theorem qB0(h:M0c H.T N [] [] os 999 [] True l' e=.br q p p' l e' d)(hq:q)(g:p→QL P N os C l K (upd e' d (.bool true)))(g':p'→QL P N os C l K (upd e' d (.bool false))):QL P N os C l' K e :=
 (C7a H.ok kn0 _ _ True l' e (by rw[h];exact⟨hq,g,g'⟩)).2
theorem qB1(h:M0c H.T N [] [] os 999 [] True l' e=.br True p p' l e' d)(g:p→QL P N os C l K (upd e' d (.bool true)))(g':p'→QL P N os C l K (upd e' d (.bool false))):QL P N os C l' K e :=qB0 h ⟨⟩ g g'
theorem qN(K':KQ M w0 w L F)(hs:List j7a)(h:M0c H.T N L F os 999 hs True l' e=.nil q e')(hq:q)(g:K e'):QL P N os (Cl M w0 w L) l' K e :=
 (C7a H.ok K'.kn _ _ True l' e (by rw[h];exact⟨hq,g⟩)).2
theorem qN0(h:M0c H.T N [] [] os 999 [] True l' e=.nil q e')(hq:q)(g:K e'):QL P N os C l' K e :=
 (C7a H.ok kn0 _ _ True l' e (by rw[h];exact⟨hq,g⟩)).2
theorem qN1(h:M0c H.T N [] [] os 999 [] True l' e=.nil True e')(g:K e'):QL P N os C l' K e :=qN0 h ⟨⟩ g
theorem qD{l0:List Oper}{T':List Nat}{r:Option Nat}{k':List Deferred→Env→World→Prop}{D:List Deferred}(h:M0c H.T N [] [] l0.toArray 999 [] True l' e=.nil q e')(hq:q)(g:∀w1,Cl M w0 w L w1→WL P r N l0.toArray (T'.filterMap (l0[·]?)) k' D (V3a e' []) w1):QL P N l0.toArray (Cl M w0 w L) l' (BK P r N l0 (Cl M w0 w L) [] T' k' D) e:=qN0 h hq (h4a (O1a g))
theorem lV{l0:List Oper}{T':List Nat}{r:Option Nat}{k':List Deferred→Env→World→Prop}{D:List Deferred}(h:M0c H.T N [] [] l0.toArray 999 [] True l' e=.nil True e')(g:∀w1,Cl M w0 w L w1→WL P r N l0.toArray (T'.filterMap (l0[·]?)) k' D (V3a e' []) w1):QL P N l0.toArray (Cl M w0 w L) l' (BK P r N l0 (Cl M w0 w L) [] T' k' D) e:=qD h ⟨⟩ g
end
attribute [irreducible] V1a
theorem b3a:M8a prog 27 4:=C2a (by rw[Tryz.underlying27];simp)
theorem R0a:SlZ prog 28 3 1 (.int .i64 0) 8:=⟨Tryz.underlying28,by kernel_rfl,Z,by decide⟩
theorem N9c:FA prog 27 3 3:=P1a (n:=0) Tryz.underlying27 Z Z
theorem x3d:One prog 25:=K2a Tryz.underlying25 (by intro _ h;cases h) (by intro _ _ h;cases h)
theorem B7c:SlZ prog 25 64 7 (.agg #[.string ByteArray.empty,.int .i64 0,.slice none 0 0,.slice none 0 0,.slice none 0 0,.slice none 0 0,.bool false]) 128:=⟨Tryz.underlying25,by kernel_rfl,Z,by decide⟩
theorem J3a:∀w,(zeroValue 41).run prog w=.ok (.agg #[.slice none 0 0,.slice none 0 0,.slice none 0 0]) w:=fun _=>by kernel_rfl
theorem B2a:Sz prog 41 3:=C3a
theorem x1a:M8a prog 41 3:=C2a (by rw[Tryz.underlying41];simp)
theorem z7c:SlZ prog 47 5 1 (.int .u8 0) 1:=⟨Tryz.underlying47,by kernel_rfl,Z,by decide⟩
theorem E0a:One prog 3:=K2a Tryz.underlying3 (by intro _ h;cases h) (by intro _ _ h;cases h)
theorem V8c:FA prog 64 4 4:=P1a (n:=0) Tryz.underlying64 Z Z
theorem Q2d:One prog 61:=K2a Tryz.underlying61 (by intro _ h;cases h) (by intro _ _ h;cases h)
theorem G0c:SlZ prog 61 60 11 (.agg #[.int .i64 0,.int .i64 0,.int .i64 0,.int .i64 0,.int .i64 0,.int .i64 0,.slice none 0 0,.slice none 0 0,.bool false,.int .i64 0,.int .i64 0]) 120:=⟨Tryz.underlying61,by kernel_rfl,Z,by decide⟩
theorem L0d:FA prog 60 7 10:=P1a (n:=0) Tryz.underlying60 Z Z
theorem X1a:∀w,(zeroValue 37).run prog w=.ok (.agg #[.int .i64 0,.int .i64 0,.int .i64 0,.slice none 0 0]) w:=fun _=>by kernel_rfl
theorem h1a:Sz prog 37 4:=C3a
theorem L7c:FA prog 37 0 0:=P1a (n:=0) Tryz.underlying37 Z Z
theorem D0a:M8a prog 37 4:=C2a (by rw[Tryz.underlying37];simp)
theorem o6a:One prog 28:=K2a Tryz.underlying28 (by intro _ h;cases h) (by intro _ _ h;cases h)
theorem v4d:One prog 5:=K2a Tryz.underlying5 (by intro _ h;cases h) (by intro _ _ h;cases h)
theorem F8c:FA prog 27 1 1:=P1a (n:=0) Tryz.underlying27 Z Z
theorem x6c:One prog 23:=K2a Tryz.underlying23 (by intro _ h;cases h) (by intro _ _ h;cases h)
theorem z6c:SlZ prog 23 81 11 (.agg #[.string ByteArray.empty,.string ByteArray.empty,.int .i64 0,.int .i64 0,.int .i64 0,.slice none 0 0,.int .i64 0,.int .i64 0,.int .i64 0,.slice none 0 0,.slice none 0 0]) 152:=⟨Tryz.underlying23,by kernel_rfl,Z,by decide⟩
theorem x1c:FA prog 41 1 1:=P1a (n:=0) Tryz.underlying41 Z Z
theorem k8c:∀w,(zeroValue 27).run prog w=.ok (.agg #[.slice none 0 0,.slice none 0 0,.slice none 0 0,.slice none 0 0]) w:=fun _=>by kernel_rfl
theorem e1d:Sz prog 27 4:=C3a
theorem y8c:FA prog 81 3 6:=P1a (n:=3) Tryz.underlying81 Z Z
theorem n9c:FA prog 81 4 10:=P1a (n:=0) Tryz.underlying81 Z Z
theorem Y1d:Sz prog 28 1:=C3a
theorem K2c:FA prog 27 0 0:=P1a (n:=0) Tryz.underlying27 Z Z
theorem Y1b:One prog 22:=K2a Tryz.underlying22 (by intro _ h;cases h) (by intro _ _ h;cases h)
theorem v6a:SlZ prog 22 83 6 (.agg #[.string ByteArray.empty,.int .i64 0,.int .i64 0,.int .i64 0,.bool false,.int .i64 0]) 56:=⟨Tryz.underlying22,by kernel_rfl,Z,by decide⟩
theorem C8c:FA prog 83 3 3:=P1a (n:=0) Tryz.underlying83 Z Z
theorem n1c:FA prog 41 0 0:=P1a (n:=0) Tryz.underlying41 Z Z
theorem r7a:Bld prog 89 [.slice none 0 0,.slice none 0 0,.slice none 0 0] [(0,1),(1,1),(2,1)]:=q6a Tryz.underlying89 (fun _=>by kernel_rfl) (fun _=>by kernel_rfl)
theorem D5a:∀w,(zeroValue 89).run prog w=.ok (.agg #[.slice none 0 0,.slice none 0 0,.slice none 0 0]) w:=fun _=>by kernel_rfl
theorem i5a:Sz prog 89 3:=C3a
theorem r0d:M8a prog 83 6:=C2a (by rw[Tryz.underlying83];simp)
theorem J9c:∀w,(zeroValue 83).run prog w=.ok (.agg #[.string ByteArray.empty,.int .i64 0,.int .i64 0,.int .i64 0,.bool false,.int .i64 0]) w:=fun _=>by kernel_rfl
theorem p9c:Sz prog 83 6:=C3a
theorem m4a:SlZ prog 86 4 1 (.bool false) 1:=⟨Tryz.underlying86,by kernel_rfl,Z,by decide⟩
theorem E2a:One prog 4:=K2a Tryz.underlying4 (by intro _ h;cases h) (by intro _ _ h;cases h)
theorem t1b:FA prog 41 2 2:=P1a (n:=0) Tryz.underlying41 Z Z
theorem P4a:One prog 32:=K2a Tryz.underlying32 (by intro _ h;cases h) (by intro _ _ h;cases h)
theorem S2a:SlZ prog 32 72 2 (.agg #[.int .i64 0,.int .i64 0]) 16:=⟨Tryz.underlying32,by kernel_rfl,Z,by decide⟩
theorem A2a:M8a prog 89 3:=C2a (by rw[Tryz.underlying89];simp)
theorem S1a:ArT prog 72 2 1:=C9a Tryz.underlying72 (fun _ _=>by kernel_rfl)
theorem L1d:Sz prog 3 1:=C3a
theorem H0d:FA prog 64 3 3:=P1a (n:=0) Tryz.underlying64 Z Z
theorem g9a:M8a prog 72 2:=C2a (by rw[Tryz.underlying72];simp)
theorem D3d:Has prog 10:=f0a func10 Z
theorem S3d:Has prog 11:=f0a func11 Z
theorem L9c:FA prog 27 2 2:=P1a (n:=0) Tryz.underlying27 Z Z
theorem O3d:One prog 24:=K2a Tryz.underlying24 (by intro _ h;cases h) (by intro _ _ h;cases h)
theorem p2d:SlZ prog 24 103 6 (.agg #[.int .i64 0,.int .i64 0,.int .i64 0,.int .i64 0,.slice none 0 0,.int .i64 0]) 64:=⟨Tryz.underlying24,by kernel_rfl,Z,by decide⟩
theorem C0d:M8a prog 64 7:=C2a (by rw[Tryz.underlying64];simp)
theorem M1b:∀w,(zeroValue 64).run prog w=.ok (.agg #[.string ByteArray.empty,.int .i64 0,.slice none 0 0,.slice none 0 0,.slice none 0 0,.slice none 0 0,.bool false]) w:=fun _=>by kernel_rfl
theorem I1b:Sz prog 64 7:=C3a
theorem b1d:FA prog 64 2 2:=P1a (n:=0) Tryz.underlying64 Z Z
theorem Q1a:One prog 35:=K2a Tryz.underlying35 (by intro _ h;cases h) (by intro _ _ h;cases h)
theorem T0a:SlZ prog 35 37 4 (.agg #[.int .i64 0,.int .i64 0,.int .i64 0,.slice none 0 0]) 48:=⟨Tryz.underlying35,by kernel_rfl,Z,by decide⟩
theorem s9c:FA prog 64 5 5:=P1a (n:=0) Tryz.underlying64 Z Z
theorem S1d:One prog 62:=K2a Tryz.underlying62 (by intro _ h;cases h) (by intro _ _ h;cases h)
theorem d3d:SlZ prog 62 155 6 (.agg #[.int .i64 0,.slice none 0 0,.int .i64 0,.int .i64 0,.int .i64 0,.slice none 0 0]) 80:=⟨Tryz.underlying62,by kernel_rfl,Z,by decide⟩
theorem n1d:FA prog 81 2 2:=P1a (n:=3) Tryz.underlying81 Z Z
theorem a5c:FA prog 103 1 1:=P1a (n:=3) Tryz.underlying103 Z Z
theorem V0b:Has prog 12:=f0a func12 Z
theorem g1c:Has prog 13:=f0a func13 Z
theorem W0d:M8a prog 60 11:=C2a (by rw[Tryz.underlying60];simp)
theorem Y0d:∀w,(zeroValue 60).run prog w=.ok (.agg #[.int .i64 0,.int .i64 0,.int .i64 0,.int .i64 0,.int .i64 0,.int .i64 0,.slice none 0 0,.slice none 0 0,.bool false,.int .i64 0,.int .i64 0]) w:=fun _=>by kernel_rfl
theorem t1d:Sz prog 60 11:=C3a
theorem L9b:∀w,(zeroValue 72).run prog w=.ok (.agg #[.int .i64 0,.int .i64 0]) w:=fun _=>by kernel_rfl
theorem J6b:Sz prog 72 2:=C3a
theorem v2d:Has prog 14:=f0a func14 Z
theorem E2b:Has prog 15:=f0a func15 Z
theorem t8c:FA prog 37 1 1:=P1a (n:=0) Tryz.underlying37 Z Z
theorem M9c:FA prog 37 2 2:=P1a (n:=0) Tryz.underlying37 Z Z
theorem t9c:FA prog 37 3 3:=P1a (n:=0) Tryz.underlying37 Z Z
theorem M4b:Has prog 16:=f0a func16 Z
theorem s1a:Bld prog 37 [.int .i64 0,.int .i64 0,.int .i64 0,.slice none 0 0] [(0,1),(1,1),(2,1),(3,1)]:=q6a Tryz.underlying37 (fun _=>by kernel_rfl) (fun _=>by kernel_rfl)
theorem i7c:Has prog 17:=f0a func17 Z
theorem y8b:Has prog 18:=f0a func18 Z
theorem M2c:Has prog 19:=f0a func19 Z
theorem H8a:Has prog 20:=f0a func20 Z
theorem r5b:Has prog 21:=f0a func21 Z
theorem g2c:Has prog 22:=f0a func22 Z
theorem v3a:Bld prog 41 [.slice none 0 0,.slice none 0 0,.slice none 0 0] [(0,1),(1,1),(2,1)]:=q6a Tryz.underlying41 (fun _=>by kernel_rfl) (fun _=>by kernel_rfl)
theorem v1b:SlZ prog 178 28 1 (.slice none 0 0) 24:=⟨Tryz.underlying178,by kernel_rfl,Z,by decide⟩
theorem i4d:∀w,(zeroValue 32).run prog w=.ok (.slice none 0 0) w:=fun _=>by kernel_rfl
theorem C9c:Sz prog 32 1:=C3a
theorem N1d:Has prog 23:=f0a func23 Z
theorem D6b:SlZ prog 125 86 1 (.slice none 0 0) 24:=⟨Tryz.underlying125,by kernel_rfl,Z,by decide⟩
theorem B1b:One prog 86:=K2a Tryz.underlying86 (by intro _ h;cases h) (by intro _ _ h;cases h)
theorem p4b:Sz prog 4 1:=C3a
theorem a3d:Has prog 24:=f0a func24 Z
theorem d7b:FA prog 60 4 7:=P1a (n:=0) Tryz.underlying60 Z Z
theorem W0c:One prog 58:=K2a Tryz.underlying58 (by intro _ h;cases h) (by intro _ _ h;cases h)
theorem E0d:FA prog 60 2 2:=P1a (n:=0) Tryz.underlying60 Z Z
theorem V7c:FA prog 60 0 0:=P1a (n:=0) Tryz.underlying60 Z Z
theorem k0d:FA prog 60 6 9:=P1a (n:=0) Tryz.underlying60 Z Z
theorem O6c:Has prog 29:=f0a func29 Z
theorem m8c:FA prog 83 1 1:=P1a (n:=0) Tryz.underlying83 Z Z
theorem U2d:Has prog 35:=f0a func35 Z
theorem E6a:Has prog 37:=f0a func37 Z
theorem L7b:Has prog 38:=f0a func38 Z
theorem Q8b:Has prog 39:=f0a func39 Z
theorem J7c:Has prog 41:=f0a func41 Z
theorem t7c:Has prog 42:=f0a func42 Z
theorem O2d:Has prog 43:=f0a func43 Z
theorem U8b:Has prog 44:=f0a func44 Z
theorem S1c:FA prog 89 0 0:=P1a (n:=0) Tryz.underlying89 Z Z
theorem G2c:FA prog 89 1 1:=P1a (n:=0) Tryz.underlying89 Z Z
theorem r2d:Has prog 48:=f0a func48 Z
theorem y7c:Bld prog 83 [.string ByteArray.empty,.int .i64 0,.int .i64 0,.int .i64 0,.bool false,.int .i64 0] [(0,1),(1,1),(2,1),(3,1),(4,1),(5,1)]:=q6a Tryz.underlying83 (fun _=>by kernel_rfl) (fun _=>by kernel_rfl)
theorem d1c:Bld prog 142 [.int .i64 0,.int .i64 0,.int .i64 0,.int .i64 0,.slice none 0 0] [(0,1),(1,4)]:=q6a Tryz.underlying142 (fun _=>by kernel_rfl) (fun _=>by kernel_rfl)
theorem H9a:SlZ prog 58 142 5 (.agg #[.int .i64 0,.int .i64 0,.int .i64 0,.int .i64 0,.slice none 0 0]) 56:=⟨Tryz.underlying58,by kernel_rfl,Z,by decide⟩
theorem j7c:Bld prog 60 [.int .i64 0,.int .i64 0,.int .i64 0,.int .i64 0,.int .i64 0,.int .i64 0,.slice none 0 0,.slice none 0 0,.bool false,.int .i64 0,.int .i64 0] [(0,1),(1,1),(2,1),(3,4),(7,1),(8,1),(9,1),(10,1)]:=q6a Tryz.underlying60 (fun _=>by kernel_rfl) (fun _=>by kernel_rfl)
theorem w7c:Bld prog 64 [.string ByteArray.empty,.int .i64 0,.slice none 0 0,.slice none 0 0,.slice none 0 0,.slice none 0 0,.bool false] [(0,1),(1,1),(2,1),(3,1),(4,1),(5,1),(6,1)]:=q6a Tryz.underlying64 (fun _=>by kernel_rfl) (fun _=>by kernel_rfl)
theorem c7c:Bld prog 81 [.string ByteArray.empty,.string ByteArray.empty,.int .i64 0,.int .i64 0,.int .i64 0,.slice none 0 0,.int .i64 0,.int .i64 0,.int .i64 0,.slice none 0 0,.slice none 0 0] [(0,1),(1,1),(2,4),(6,4),(10,1)]:=q6a Tryz.underlying81 (fun _=>by kernel_rfl) (fun _=>by kernel_rfl)
theorem j3d:Bld prog 27 (pL none 0 0 none 0 0 none 0 0 none 0 0) [(0,1),(1,1),(2,1),(3,1)]:=q6a Tryz.underlying27 (fun _=>by kernel_rfl) (fun _=>by kernel_rfl)
theorem C6c:Has prog 49:=f0a func49 Z
theorem C3d:∀w,(zeroValue 145).run prog w=.ok (.agg #[.pointer none,.slice none 0 0]) w:=fun _=>by kernel_rfl
theorem t2d:∀w,(zeroValue 146).run prog w=.ok (.nilFunc) w:=fun _=>by kernel_rfl
theorem g3d:Sz prog 146 1:=C3a
theorem q2c:One prog 146:=K2a Tryz.underlying146 (by intro _ h;cases h) (by intro _ _ h;cases h)
theorem i2d:Has prog 50:=f0a func50 Z
theorem w8c:FA prog 60 3 3:=P1a (n:=3) Tryz.underlying60 Z Z
theorem h9b:FA prog 142 1 1:=P1a (n:=3) Tryz.underlying142 Z Z
theorem Y5c:FA prog 155 2 2:=P1a (n:=3) Tryz.underlying155 Z Z
theorem M4c:FA prog 155 1 1:=P1a (n:=0) Tryz.underlying155 Z Z
theorem L0b:Has prog 51:=f0a func51 Z
theorem N9a:Has prog 52:=f0a func52 Z
theorem k2c:Has prog 53:=f0a func53 Z
theorem k3d:Has prog 54:=f0a func54 Z
theorem d7c:Has prog 55:=f0a func55 Z
theorem c8c:M8a prog 81 11:=C2a (by rw[Tryz.underlying81];simp)
theorem R0d:∀w,(zeroValue 81).run prog w=.ok (.agg #[.string ByteArray.empty,.string ByteArray.empty,.int .i64 0,.int .i64 0,.int .i64 0,.slice none 0 0,.int .i64 0,.int .i64 0,.int .i64 0,.slice none 0 0,.slice none 0 0]) w:=fun _=>by kernel_rfl
theorem H9c:Sz prog 81 11:=C3a
theorem v7c:Has prog 56:=f0a func56 Z
theorem U6c:Has prog 57:=f0a func57 Z
theorem u2d:Has prog 58:=f0a func58 Z
theorem b2d:Has prog 59:=f0a func59 Z
theorem M1d:Has prog 60:=f0a func60 Z
theorem A7c:Has prog 61:=f0a func61 Z
theorem K6c:Has prog 62:=f0a func62 Z
theorem w3d:Has prog 63:=f0a func63 Z
theorem S6c:Has prog 64:=f0a func64 Z
theorem O1d:Has prog 65:=f0a func65 Z
theorem Z3a:ArT prog 173 64 1:=C9a Tryz.underlying173 (fun _ _=>by kernel_rfl)
theorem z2b:Sz prog 171 1:=C3a
theorem X8b:Has prog 66:=f0a func66 Z
theorem E7c:∀w,(zeroValue 175).run prog w=.ok (.agg #[.bool false,.bool false,.bool false,.bool false,.bool false,.bool false,.bool false,.bool false,.bool false,.bool false,.bool false,.bool false,.bool false,.bool false,.bool false,.bool false,.bool false,.bool false,.bool false,.bool false,.bool false,.bool false,.bool false,.bool false,.bool false,.bool false,.bool false,.bool false,.bool false,.bool false,.bool false,.bool false]) w:=fun _=>by kernel_rfl
theorem T5c:M8a prog 175 32:=C2a (by rw[Tryz.underlying175];simp)
theorem G7c:Has prog 67:=f0a func67 Z
theorem W1c:Has prog 68:=f0a func68 Z
theorem V2c:Has prog 69:=f0a func69 Z
theorem O4a:One prog 171:=K2a Tryz.underlying171 (by intro _ h;cases h) (by intro _ _ h;cases h)
theorem F6c:Has prog 70:=f0a func70 Z
theorem H1d:Has prog 71:=f0a func71 Z
theorem y3d:Has prog 72:=f0a func72 Z
theorem m2c:Has prog 73:=f0a func73 Z
theorem D8b:Has prog 74:=f0a func74 Z
theorem q2d:Has prog 75:=f0a func75 Z
theorem I3d:Has prog 76:=f0a func76 Z
theorem G8b:Has prog 77:=f0a func77 Z
theorem s4d:Sz prog 86 1:=C3a
theorem B6c:Has prog 78:=f0a func78 Z
theorem b3d:Has prog 79:=f0a func79 Z
theorem o3c:Has prog 80:=f0a func80 Z
theorem i8c:FA prog 83 2 2:=P1a (n:=0) Tryz.underlying83 Z Z
theorem i0d:FA prog 64 6 6:=P1a (n:=0) Tryz.underlying64 Z Z
theorem m0d:FA prog 60 1 1:=P1a (n:=0) Tryz.underlying60 Z Z
theorem P7b:FA prog 142 0 0:=P1a (n:=0) Tryz.underlying142 Z Z
theorem o2b:Has prog 87:=f0a func87 Z
theorem u5d:∀w,(zeroValue 3).run prog w=.ok (.int .i64 0) w:=fun _=>by kernel_rfl
theorem Z2d:∀w,(zeroValue 193).run prog w=.ok (.nilFunc) w:=fun _=>by kernel_rfl
theorem M2d:Sz prog 193 1:=C3a
theorem X2c:One prog 193:=K2a Tryz.underlying193 (by intro _ h;cases h) (by intro _ _ h;cases h)
theorem D6c:Has prog 88:=f0a func88 Z
theorem h3b:ArT prog 196 9 1:=C9a Tryz.underlying196 (fun _ _=>by kernel_rfl)
theorem f2d:∀w,(zeroValue 197).run prog w=.ok (.agg #[.int .i64 0,.int .i64 0,.int .i64 0]) w:=fun _=>by kernel_rfl
theorem U2b:ArT prog 197 3 1:=C9a Tryz.underlying197 (fun _ _=>by kernel_rfl)
theorem k6c:M8a prog 197 3:=C2a (by rw[Tryz.underlying197];simp)
theorem A8b:Has prog 90:=f0a func90 Z
theorem X1d:Has prog 91:=f0a func91 Z
theorem Y1c:Has prog 92:=f0a func92 Z
theorem N6c:Has prog 93:=f0a func93 Z
theorem P6c:Has prog 94:=f0a func94 Z
theorem n7c:Has prog 95:=f0a func95 Z
theorem y1d:ArT prog 152 11 1:=C9a Tryz.underlying152 (fun _ _=>by kernel_rfl)
theorem G3d:One prog 9:=K2a Tryz.underlying9 (by intro _ h;cases h) (by intro _ _ h;cases h)
theorem u2b:Has prog 96:=f0a func96 Z
theorem I5c:FA prog 145 1 1:=P1a (n:=0) Tryz.underlying145 Z Z
theorem F7c:One prog 47:=K2a Tryz.underlying47 (by intro _ h;cases h) (by intro _ _ h;cases h)
theorem D4d:Sz prog 47 1:=C3a
theorem f1c:Has prog 97:=f0a func97 Z
theorem i2b:Has prog 98:=f0a func98 Z
theorem m3d:Has prog 99:=f0a func99 Z
theorem P2c:Has prog 100:=f0a func100 Z
theorem X0d:Bld prog 201 (pL none 0 0 none 0 0 none 0 0 none 0 0) [(0,4)]:=q6a Tryz.underlying201 (fun _=>by kernel_rfl) (fun _=>by kernel_rfl)
theorem P1d:∀w,(zeroValue 201).run prog w=.ok (.agg #[.slice none 0 0,.slice none 0 0,.slice none 0 0,.slice none 0 0]) w:=fun _=>by kernel_rfl
theorem C2d:Sz prog 201 4:=C3a
theorem K3b:M8a prog 201 4:=C2a (by rw[Tryz.underlying201];simp)
theorem U7c:ArT prog 204 3 1:=C9a Tryz.underlying204 (fun _ _=>by kernel_rfl)
theorem J1c:Has prog 101:=f0a func101 Z
theorem Z7c:Has prog 102:=f0a func102 Z
theorem M1c:Has prog 103:=f0a func103 Z
theorem I1c:Has prog 104:=f0a func104 Z
theorem S2c:Has prog 105:=f0a func105 Z
theorem D9c:Has prog 106:=f0a func106 Z
theorem k1c:Has prog 107:=f0a func107 Z
theorem D0c:Has prog 108:=f0a func108 Z
theorem L0c:Has prog 109:=f0a func109 Z
theorem N0c:Has prog 110:=f0a func110 Z
theorem S9c:Has prog 111:=f0a func111 Z
theorem h9c:FA prog 64 1 1:=P1a (n:=0) Tryz.underlying64 Z Z
theorem j8c:Has prog 112:=f0a func112 Z
theorem G0d:FA prog 83 0 0:=P1a (n:=0) Tryz.underlying83 Z Z
theorem e0d:FA prog 83 5 5:=P1a (n:=0) Tryz.underlying83 Z Z
theorem z9c:Has prog 113:=f0a func113 Z
theorem L8c:FA prog 81 0 0:=P1a (n:=0) Tryz.underlying81 Z Z
theorem o0d:FA prog 81 1 1:=P1a (n:=0) Tryz.underlying81 Z Z
theorem h1d:Has prog 114:=f0a func114 Z
theorem E4c:M8a prog 103 6:=C2a (by rw[Tryz.underlying103];simp)
theorem I7c:∀w,(zeroValue 103).run prog w=.ok (.agg #[.int .i64 0,.int .i64 0,.int .i64 0,.int .i64 0,.slice none 0 0,.int .i64 0]) w:=fun _=>by kernel_rfl
theorem y6c:Sz prog 103 6:=C3a
theorem R5c:FA prog 103 0 0:=P1a (n:=0) Tryz.underlying103 Z Z
theorem U0d:FA prog 83 4 4:=P1a (n:=0) Tryz.underlying83 Z Z
theorem Z4c:FA prog 103 2 5:=P1a (n:=0) Tryz.underlying103 Z Z
theorem B8c:Has prog 115:=f0a func115 Z
theorem A8c:FA prog 64 0 0:=P1a (n:=0) Tryz.underlying64 Z Z
theorem o4c:M8a prog 155 6:=C2a (by rw[Tryz.underlying155];simp)
theorem A6c:∀w,(zeroValue 155).run prog w=.ok (.agg #[.int .i64 0,.slice none 0 0,.int .i64 0,.int .i64 0,.int .i64 0,.slice none 0 0]) w:=fun _=>by kernel_rfl
theorem M6c:Sz prog 155 6:=C3a
theorem v5c:FA prog 155 0 0:=P1a (n:=0) Tryz.underlying155 Z Z
theorem e4b:Has prog 116:=f0a func116 Z
theorem w7a:Has prog 117:=f0a func117 Z
theorem h6b:Has prog 118:=f0a func118 Z
theorem w7b:Has prog 119:=f0a func119 Z
theorem q8c:Has prog 120:=f0a func120 Z
theorem D3b:ArT prog 175 32 1:=C9a Tryz.underlying175 (fun _ _=>by kernel_rfl)
theorem R1c:Has prog 121:=f0a func121 Z
theorem a8c:Has prog 122:=f0a func122 Z
theorem b6a:Has prog 125:=f0a func125 Z
theorem q5d:∀w,(zeroValue 4).run prog w=.ok (.bool false) w:=fun _=>by kernel_rfl
theorem i6b:Has prog 126:=f0a func126 Z
theorem j0d:Has prog 127:=f0a func127 Z
theorem q4d:∀w,(zeroValue 28).run prog w=.ok (.slice none 0 0) w:=fun _=>by kernel_rfl
theorem c2c:Has prog 128:=f0a func128 Z
theorem P0d:Has prog 129:=f0a func129 Z
theorem R7c:Has prog 130:=f0a func130 Z
theorem v1d:Has prog 131:=f0a func131 Z
theorem T0d:Has prog 132:=f0a func132 Z
theorem W7c:Has prog 133:=f0a func133 Z
theorem J3c:Has prog 134:=f0a func134 Z
theorem q0b:Has prog 135:=f0a func135 Z
theorem V6b:Has prog 136:=f0a func136 Z
theorem Y6b:Has prog 137:=f0a func137 Z
theorem m9c:Has prog 138:=f0a func138 Z
theorem F0b:Has prog 139:=f0a func139 Z
theorem X3c:Has prog 140:=f0a func140 Z
theorem J2c:Has prog 141:=f0a func141 Z
theorem S8c:Has prog 142:=f0a func142 Z
theorem p2c:Has prog 145:=f0a func145 Z
theorem F9c:Has prog 146:=f0a func146 Z
theorem h3c:Has prog 147:=f0a func147 Z
theorem M0d:Has prog 148:=f0a func148 Z
theorem z1d:Has prog 149:=f0a func149 Z
theorem E5c:FA prog 145 0 0:=P1a (n:=0) Tryz.underlying145 Z Z
theorem Z2b:One prog 143:=K2a Tryz.underlying143 (by intro _ h;cases h) (by intro _ _ h;cases h)
theorem H3d:Sz prog 143 1:=C3a
theorem E8c:Has prog 151:=f0a func151 Z
theorem d4c:FA prog 201 0 0:=P1a (n:=3) Tryz.underlying201 Z Z
theorem O0d:Has prog 152:=f0a func152 Z
theorem r9c:Has prog 153:=f0a func153 Z
theorem u0d:Has prog 154:=f0a func154 Z
theorem W7a:∀w,(zeroValue 245).run prog w=.ok (.agg #[]) w:=fun _=>by kernel_rfl
theorem G2b:Sz prog 245 0:=C3a
theorem R2b:Bld prog 245 [] []:=q6a Tryz.underlying245 (fun _=>by kernel_rfl) (fun _=>by kernel_rfl)
theorem V0d:Has prog 155:=f0a func155 Z
theorem v8c:Has prog 157:=f0a func157 Z
theorem P0c:Has prog 158:=f0a func158 Z
theorem N7c:Has prog 159:=f0a func159 Z
theorem K1c:Has prog 160:=f0a func160 Z
theorem g8c:Has prog 161:=f0a func161 Z
theorem y1c:Has prog 162:=f0a func162 Z
theorem i1c:Has prog 163:=f0a func163 Z
theorem K0d:Has prog 164:=f0a func164 Z
theorem x0d:Has prog 165:=f0a func165 Z
theorem q1d:Has prog 166:=f0a func166 Z
theorem f1d:Has prog 167:=f0a func167 Z
theorem m3b:Has prog 168:=f0a func168 Z
theorem e4a:Has prog 169:=f0a func169 Z
theorem r8c:Has prog 170:=f0a func170 Z
theorem A1b:Has prog 171:=f0a func171 Z
theorem m3c:Has prog 172:=f0a func172 Z
theorem T8c:Has prog 173:=f0a func173 Z
theorem d1d:FA prog 60 5 8:=P1a (n:=0) Tryz.underlying60 Z Z
theorem s0b:Has prog 174:=f0a func174 Z
theorem R0c:Has prog 175:=f0a func175 Z
theorem E4b:∀w,(zeroValue 259).run prog w=.ok (.agg #[.int .u64 0,.int .u64 0,.int .u64 0,.int .u64 0,.int .u64 0,.int .u64 0,.int .u64 0,.int .u64 0,.int .u64 0,.int .u64 0,.int .u64 0,.int .u64 0,.int .u64 0,.int .u64 0,.int .u64 0,.int .u64 0,.int .u64 0,.int .u64 0,.int .u64 0,.int .u64 0,.int .u64 0,.int .u64 0,.int .u64 0,.int .u64 0,.int .u64 0,.int .u64 0,.int .u64 0,.int .u64 0,.int .u64 0,.int .u64 0,.int .u64 0,.int .u64 0,.int .u64 0,.int .u64 0,.int .u64 0,.int .u64 0,.int .u64 0,.int .u64 0,.int .u64 0,.int .u64 0,.int .u64 0,.int .u64 0,.int .u64 0,.int .u64 0,.int .u64 0,.int .u64 0,.int .u64 0,.int .u64 0,.int .u64 0,.int .u64 0,.int .u64 0,.int .u64 0,.int .u64 0,.int .u64 0,.int .u64 0,.int .u64 0,.int .u64 0,.int .u64 0,.int .u64 0,.int .u64 0,.int .u64 0,.int .u64 0,.int .u64 0,.int .u64 0]) w:=fun _=>by kernel_rfl
theorem L6b:FA prog 89 2 2:=P1a (n:=0) Tryz.underlying89 Z Z
theorem N0b:Has prog 176:=f0a func176 Z
theorem n8c:Has prog 177:=f0a func177 Z
theorem p0d:Has prog 189:=f0a func189 Z
theorem f7b:Has prog 190:=f0a func190 Z
theorem E9c:Has prog 191:=f0a func191 Z
theorem I3c:Has prog 192:=f0a func192 Z
theorem W6b:Has prog 193:=f0a func193 Z
theorem H8c:Has prog 194:=f0a func194 Z
theorem E1b:Has prog 195:=f0a func195 Z
theorem Q1c:Has prog 196:=f0a func196 Z
theorem Y7c:Has prog 197:=f0a func197 Z
theorem P6a:Has prog 198:=f0a func198 Z
theorem S8a:Has prog 199:=f0a func199 Z
theorem M3b:Has prog 202:=f0a func202 Z
theorem a3a:Has prog 203:=f0a func203 Z
theorem h4b:Has prog 204:=f0a func204 Z
theorem n0d:Has prog 205:=f0a func205 Z
theorem F1b:Has prog 206:=f0a func206 Z
theorem x0b:Has prog 207:=f0a func207 Z
theorem m7b:Has prog 208:=f0a func208 Z
theorem y9a:Has prog 209:=f0a func209 Z
theorem h8c:Has prog 210:=f0a func210 Z
theorem D7b:Has prog 211:=f0a func211 Z
theorem h7c:∀w,(zeroValue 242).run prog w=.ok (.nilFunc) w:=fun _=>by kernel_rfl
theorem T6c:Sz prog 242 1:=C3a
theorem q0d:Has prog 212:=f0a func212 Z
theorem w4c:M8a prog 142 5:=C2a (by rw[Tryz.underlying142];simp)
theorem z4b:∀w,(zeroValue 142).run prog w=.ok (.agg #[.int .i64 0,.int .i64 0,.int .i64 0,.int .i64 0,.slice none 0 0]) w:=fun _=>by kernel_rfl
theorem K4b:Sz prog 142 5:=C3a
theorem o2c:Fld prog 276 0 0:=e3d Tryz.underlying276 Z Z Tryz.underlying274 (by intro _ h;cases h) (by intro _ _ h;cases h)
theorem m1d:Has prog 213:=f0a func213 Z
theorem W8a:Has prog 214:=f0a func214 Z
theorem V1c:Has prog 224:=f0a func224 Z
theorem P7c:Has prog 225:=f0a func225 Z
theorem w0d:Has prog 226:=f0a func226 Z
theorem D3c:Has prog 227:=f0a func227 Z
theorem P3b:Has prog 228:=f0a func228 Z
theorem O1c:Has prog 229:=f0a func229 Z
theorem t3b:ArT prog 259 64 1:=C9a Tryz.underlying259 (fun _ _=>by kernel_rfl)
theorem c3c:Has prog 231:=f0a func231 Z
theorem z0d:Has prog 232:=f0a func232 Z
theorem f2c:One prog 170:=K2a Tryz.underlying170 (by intro _ h;cases h) (by intro _ _ h;cases h)
theorem x1d:One prog 262:=K2a Tryz.underlying262 (by intro _ h;cases h) (by intro _ _ h;cases h)
theorem I2c:Has prog 238:=f0a func238 Z
theorem p1d:Has prog 239:=f0a func239 Z
theorem E1c:Sz prog 259 64:=C3a
theorem k1d:Has prog 240:=f0a func240 Z
theorem f9c:Has prog 241:=f0a func241 Z
theorem I9c:Has prog 246:=f0a func246 Z
theorem c1d:Has prog 247:=f0a func247 Z
theorem i3b:One prog 242:=K2a Tryz.underlying242 (by intro _ h;cases h) (by intro _ _ h;cases h)
theorem X0b:Has prog 248:=f0a func248 Z
theorem v0d:Has prog 249:=f0a func249 Z
theorem K4c:M8a prog 277 8:=C2a (by rw[Tryz.underlying277];simp)
theorem B0d:Has prog 250:=f0a func250 Z
theorem n3d:∀w,(zeroValue 277).run prog w=.ok (.agg #[.nilFunc,.nilFunc,.nilFunc,.nilFunc,.nilFunc,.nilFunc,.nilFunc,.nilFunc]) w:=fun _=>by kernel_rfl
theorem I7a:Bld prog 276 [.nilFunc] [(0,1)]:=q6a Tryz.underlying276 (fun _=>by kernel_rfl) (fun _=>by kernel_rfl)
theorem M3d:Sz prog 277 8:=C3a
theorem S2b:Has prog 254:=f0a func254 Z
theorem e7b:Has prog 255:=f0a func255 Z
theorem T7c:Has prog 256:=f0a func256 Z
theorem r6b:Has prog 257:=f0a func257 Z
theorem T2c:Has prog 260:=f0a func260 Z
theorem T1c:Has prog 261:=f0a func261 Z
theorem B8b:M8a prog 259 64:=C2a (by rw[Tryz.underlying259];simp)
theorem B0c:Has prog 262:=f0a func262 Z
theorem f0d:Has prog 263:=f0a func263 Z
theorem w9c:Has prog 268:=f0a func268 Z
theorem q9c:Has prog 269:=f0a func269 Z
theorem W9c:Has prog 270:=f0a func270 Z
theorem a9c:Has prog 271:=f0a func271 Z
theorem R8c:Has prog 272:=f0a func272 Z
theorem J0d:Has prog 273:=f0a func273 Z
theorem I8c:Has prog 274:=f0a func274 Z
theorem K9c:Has prog 275:=f0a func275 Z
theorem B2c:Has prog 276:=f0a func276 Z
theorem w6b:Has prog 279:=f0a func279 Z
theorem q7b:Has prog 280:=f0a func280 Z
theorem Q0b:Has prog 281:=f0a func281 Z
theorem X8c:Has prog 282:=f0a func282 Z
theorem d2c:Has prog 283:=f0a func283 Z
theorem g0d:Has prog 284:=f0a func284 Z
theorem b0a:prog.follows .mixedOrders=true:=by kernel_rfl
def tab:Tab where
 fa:=.n 4102 6 (.n 3841 1 (.n 2370 2 (.n 1731 3 (.n 1729 1 (.n 1728 0 .l .l) (.n 1730 2 .l .l)) (.n 2369 1 (.n 2368 0 .l .l) .l)) (.n 2625 1 (.n 2624 0 (.n 2371 3 .l .l) .l) (.n 3840 0 (.n 2626 2 .l .l) .l))) (.n 4096 0 (.n 3845 8 (.n 3843 3 (.n 3842 2 .l .l) (.n 3844 7 .l .l)) (.n 3847 10 (.n 3846 9 .l .l) .l)) (.n 4099 3 (.n 4098 2 (.n 4097 1 .l .l) .l) (.n 4101 5 (.n 4100 4 .l .l) .l)))) (.n 5697 1 (.n 5313 1 (.n 5187 6 (.n 5185 1 (.n 5184 0 .l .l) (.n 5186 2 .l .l)) (.n 5312 0 (.n 5188 10 .l .l) .l)) (.n 5316 4 (.n 5315 3 (.n 5314 2 .l .l) .l) (.n 5696 0 (.n 5317 5 .l .l) .l))) (.n 9280 0 (.n 6594 5 (.n 6592 0 (.n 5698 2 .l .l) (.n 6593 1 .l .l)) (.n 9089 1 (.n 9088 0 .l .l) .l)) (.n 9921 1 (.n 9920 0 (.n 9281 1 .l .l) .l) (.n 12864 0 (.n 9922 2 .l .l) .l))))
 fl:=.n 17664 0 .l .l
 sl:=.n 47 1 (.n 25 7 (.n 23 11 (.n 22 6 .l .l) (.n 24 6 .l .l)) (.n 32 2 (.n 28 1 .l .l) (.n 35 4 .l .l))) (.n 86 1 (.n 61 11 (.n 58 5 .l .l) (.n 62 6 .l .l)) (.n 178 1 (.n 125 1 .l .l) .l))
 ld:=.n 72 2 (.n 32 0 (.n 23 0 (.n 5 0 (.n 4 0 (.n 3 0 .l .l) .l) (.n 22 0 (.n 9 0 .l .l) .l)) (.n 27 4 (.n 25 0 (.n 24 0 .l .l) .l) (.n 28 0 .l .l))) (.n 58 0 (.n 41 3 (.n 37 4 (.n 35 0 .l .l) .l) (.n 47 0 .l .l)) (.n 62 0 (.n 61 0 (.n 60 11 .l .l) .l) (.n 64 7 .l .l)))) (.n 170 0 (.n 103 6 (.n 86 0 (.n 83 6 (.n 81 11 .l .l) .l) (.n 89 3 .l .l)) (.n 146 0 (.n 143 0 (.n 142 5 .l .l) .l) (.n 155 6 .l .l))) (.n 201 4 (.n 193 0 (.n 175 32 (.n 171 0 .l .l) .l) (.n 197 3 .l .l)) (.n 262 0 (.n 259 64 (.n 242 0 .l .l) .l) (.n 277 8 .l .l))))
 bo:=.n 4 0 .l .l
theorem k4d:tab.Ok prog where
 fa:=⟨.of i0d Z Z,⟨.of m0d Z Z,⟨.of M9c Z Z,⟨.of N9c Z Z,⟨.of F8c Z Z,⟨.of K2c Z Z,trivial,trivial⟩,⟨.of L9c Z Z,trivial,trivial⟩⟩,⟨.of t8c Z Z,⟨.of L7c Z Z,trivial,trivial⟩,trivial⟩⟩,⟨.of x1c Z Z,⟨.of n1c Z Z,⟨.of t9c Z Z,trivial,trivial⟩,trivial⟩,⟨.of V7c Z Z,⟨.of t1b Z Z,trivial,trivial⟩,trivial⟩⟩⟩,⟨.of A8c Z Z,⟨.of d1d Z Z,⟨.of w8c Z Z,⟨.of E0d Z Z,trivial,trivial⟩,⟨.of d7b Z Z,trivial,trivial⟩⟩,⟨.of L0d Z Z,⟨.of k0d Z Z,trivial,trivial⟩,trivial⟩⟩,⟨.of H0d Z Z,⟨.of b1d Z Z,⟨.of h9c Z Z,trivial,trivial⟩,trivial⟩,⟨.of s9c Z Z,⟨.of V8c Z Z,trivial,trivial⟩,trivial⟩⟩⟩⟩,⟨.of G2c Z Z,⟨.of m8c Z Z,⟨.of y8c Z Z,⟨.of o0d Z Z,⟨.of L8c Z Z,trivial,trivial⟩,⟨.of n1d Z Z,trivial,trivial⟩⟩,⟨.of G0d Z Z,⟨.of n9c Z Z,trivial,trivial⟩,trivial⟩⟩,⟨.of U0d Z Z,⟨.of C8c Z Z,⟨.of i8c Z Z,trivial,trivial⟩,trivial⟩,⟨.of S1c Z Z,⟨.of e0d Z Z,trivial,trivial⟩,trivial⟩⟩⟩,⟨.of E5c Z Z,⟨.of Z4c Z Z,⟨.of R5c Z Z,⟨.of L6b Z Z,trivial,trivial⟩,⟨.of a5c Z Z,trivial,trivial⟩⟩,⟨.of h9b Z Z,⟨.of P7b Z Z,trivial,trivial⟩,trivial⟩⟩,⟨.of M4c Z Z,⟨.of v5c Z Z,⟨.of I5c Z Z,trivial,trivial⟩,trivial⟩,⟨.of d4c Z Z,⟨.of Y5c Z Z,trivial,trivial⟩,trivial⟩⟩⟩⟩⟩
 fl:=⟨.of o2c Z Z,trivial,trivial⟩
 sl:=⟨z7c.slT,⟨B7c.slT,⟨z6c.slT,⟨v6a.slT,trivial,trivial⟩,⟨p2d.slT,trivial,trivial⟩⟩,⟨S2a.slT,⟨R0a.slT,trivial,trivial⟩,⟨T0a.slT,trivial,trivial⟩⟩⟩,⟨m4a.slT,⟨G0c.slT,⟨H9a.slT,trivial,trivial⟩,⟨d3d.slT,trivial,trivial⟩⟩,⟨v1b.slT,⟨D6b.slT,trivial,trivial⟩,trivial⟩⟩⟩
 ld:=⟨g9a,⟨P4a,⟨x6c,⟨v4d,⟨E2a,⟨E0a,trivial,trivial⟩,trivial⟩,⟨Y1b,⟨G3d,trivial,trivial⟩,trivial⟩⟩,⟨b3a,⟨x3d,⟨O3d,trivial,trivial⟩,trivial⟩,⟨o6a,trivial,trivial⟩⟩⟩,⟨W0c,⟨x1a,⟨D0a,⟨Q1a,trivial,trivial⟩,trivial⟩,⟨F7c,trivial,trivial⟩⟩,⟨S1d,⟨Q2d,⟨W0d,trivial,trivial⟩,trivial⟩,⟨C0d,trivial,trivial⟩⟩⟩⟩,⟨f2c,⟨E4c,⟨B1b,⟨r0d,⟨c8c,trivial,trivial⟩,trivial⟩,⟨A2a,trivial,trivial⟩⟩,⟨q2c,⟨Z2b,⟨w4c,trivial,trivial⟩,trivial⟩,⟨o4c,trivial,trivial⟩⟩⟩,⟨K3b,⟨X2c,⟨T5c,⟨O4a,trivial,trivial⟩,trivial⟩,⟨k6c,trivial,trivial⟩⟩,⟨x1d,⟨B8b,⟨i3b,trivial,trivial⟩,trivial⟩,⟨K4c,trivial,trivial⟩⟩⟩⟩⟩
 bo:=⟨Tryz.underlying4,trivial,trivial⟩
instance:HasTab prog:=⟨tab,k4d⟩
theorem L2d{a b:ByteArray}:(a.toList==b.toList)=decide (a=b):=by
 by_cases h:a=b
 ·subst h;simp
 ·rw[decide_eq_false h,beq_eq_false_iff_ne];intro hl;refine h (ByteArray.ext ?_);have:=congrArg List.toArray hl;simpa[ByteArray.toList_eq] using this
section
variable {d:Nat} {t:TypeId} {p:String} {af:Array Edge} {x y:Operand} {xt yt:TypeId} {kd:IntKind}
theorem z0b{ty:Nat}{s:ByteArray}(hT:P.underlying ty=some .string)(hx:ev e x=.string s)(hd:Nat.ble (d+1) N=true)(h:WL P r N ops rest K D (upd e d (.int .i64 s.size)) w):
 WL P r N ops (⟨some d,.call { callee:=.builtin .len,args:=#[x],argTypes:=#[ty] },t,p,af,none⟩::rest) K D e w :=
 U0a Z Z hd (by simp[execOp,resolve,invoke,builtin,Builtin.len_,hx,run_underlying hT,goInt]) h
theorem f0b{ty:Nat}{s:ByteArray}{i:Int}(hT:P.underlying ty=some .string)(hx:ev e x=.string s)(hy:ev e y=.int kd i)(h0:0≤i)(h1:i.toNat<s.size)(hd:Nat.ble (d+1) N=true)
 (h:WL P r N ops rest K D (upd e d (.int .u8 (s[i.toNat]).toNat)) w):WL P r N ops (⟨some d,.index ty x y,t,p,af,none⟩::rest) K D e w :=
 U0a Z Z hd (by simp[execOp,Instr.index,hx,hy,asIntOf,run_underlying hT,h0,h1]) h
end
section
variable {P:Program} {N:Nat} {e:Env} {w:World} {ops:Array Oper} {rest:List Oper} {C:World→Prop} {K:Env→Prop}
variable {d:Nat} {t:TypeId} {p:String} {af:Array Edge} {x y:Operand} {xt yt:TypeId} {kd:IntKind}
theorem J5b{a b:ByteArray}(hx:ev e x=.string a)(hy:ev e y=.string b)(hd:Nat.ble (d+1) N=true)(h1:a=b→QL P N ops C rest K (upd e d (.bool true)))(h2:a≠b→QL P N ops C rest K (upd e d (.bool false))):
 QL P N ops C (⟨some d,.binOp .eql xt x y yt,t,p,af,none⟩::rest) K e:=by
 by_cases a0:a=b
 ·exact D2a Z Z hd (fun w _=>by simp[execOp,hx,hy,eqGuard_at_string,binOp,Op.stringOp,a0]) (h1 a0)
 ·exact D2a Z Z hd (fun w _=>by simp[execOp,hx,hy,eqGuard_at_string,binOp,Op.stringOp,L2d,a0]) (h2 a0)
end
def Yld(P:Program)(l:Nat)(args:Array Value)(w:World)(R:Value→World→Prop):Prop :=
 ∃rc:Loop,w.heap[l]?=some (.loop rc)∧args.size=rc.params.size ∧
  RoundIn Fence.wide 0 P l rc.fn ((rc.params.zip args).foldl (fun tmps (t,a)=>tmps.setIfInBounds t a) rc.tmps) rc.assign rc.body w fun en w'=>∃v,en=.returned v∧R v w'
theorem Yld.mono{P:Program}{l:Nat}{args:Array Value}{w:World}{R R':Value→World→Prop}(h:Yld P l args w R)(hr:∀v w',R v w'→R' v w'):Yld P l args w R':=by
 obtain⟨rc,h1,h2,h3⟩:=h;exact⟨rc,h1,h2,h3.mono fun _ _ ⟨v,he,hv⟩=>⟨v,he,hr v _ hv⟩⟩
theorem U9b{P:Program}{r:Option Nat}{l n:Nat}{f:FuncId}{tmps:Array Value}{a0 body:Code}{w:World}{R:Ending→World→Prop}(h:RoundIn Fence.wide 0 P l f tmps a0 body w R):RoundIn (fc r) n P l f tmps a0 body w R :=
 ⟨trivial,fun c cs _=>h.2 c cs (room_wide _)⟩
section
variable {P:Program} {r:Option Nat} {N:Nat} {D:List Deferred} {e:Env} {w:World}
variable {ops:Array Oper} {rest:List Oper} {K:List Deferred→Env→World→Prop} {d:Nat} {t:TypeId} {p:String} {af:Array Edge}
theorem E3c{g:Operand}{l:Nat}{args:Array Operand}{at_:Array TypeId}{vs:LV}{R:Value→World→Prop}(hg:ev e g=.func (.yield l) #[] #[])
 (e0:args.toList.map (ev e)=vs) (hd:Nat.ble (d+1) N=true)
 (hc:Yld P l vs.toArray w R) (h:∀v w',R v w'→WL P r N ops rest K D (upd e d v) w') :
 WL P r N ops (⟨some d,.call { callee:=.value g,args:=args,argTypes:=at_ },t,p,af,none⟩::rest) K D e w:=by
 obtain⟨rc,h1,h2,h3⟩:=hc;subst e0;have a0:(args.map (ev e))=(args.toList.map (ev e)).toArray:=by apply Array.ext';simp
 unfold WL at *;intro a Q hs c0 he hK;have d0:d<a.tmps.size:=by rw[hs];exact Nat.le_of_ble_eq_true hd
 simp only[wpListIn,Region.wanted,if_true];refine⟨I0a _ w _,?_⟩;rw[Oper.semAt_eq _ _ _ (by simp),v2a,he];have b0:(execOp (ev e) ⟨some d,.call { callee:=.value g,args:=args,argTypes:=at_ },t,p,af,none⟩).run P w =
  .ok (.round l rc.fn ((rc.params.zip (args.toList.map (ev e)).toArray).foldl (fun tmps (t,a)=>tmps.setIfInBounds t a) rc.tmps) rc.assign rc.body) w:=by
  have:=run_yield (P:=P) h1 h2;simp[execOp,resolve,Deferred.ofValue,invoke,hg,a0,this]
 rw[b0,Oper.uponIn_round];refine⟨fun hh=>by simp[fc,Fence.wide] at hh,U9b (h3.mono ?_)⟩;rintro en w' ⟨v,rfl,hv⟩;exact h v w' hv (a.put (some d) v) Q (by simp[Act.put,hs]) (by simp[Act.put,c0]) (by rw[b1a v d0,he]) hK
def K5a(l:Nat)(jump:Option Code)(R:Value→World→Prop)(w:World):Prop :=
 ∃rc:Loop,w.heap[l]?=some (.loop rc)∧R (.bool jump.isNone) (w.putObj l (.loop { rc with state:=if jump.isNone then .ready else .done,pending:=jump }))
theorem A1d{l p q N:Nat}{rc:Loop}{x y:Value}{a0 body:Code}{R:Value→World→Prop}(hl:w.heap[l]?=some (.loop rc))(hr:rc.state=.ready)(hN:rc.tmps.size=N)(f0:P0a { tmps:=rc.tmps,defers:=[] }=e)(b0:rc.params=#[p,q])(d0:rc.assign=a0)(e0:rc.body=body)(hp:Nat.ble (p+1) N=true)(hq:Nat.ble (q+1) N=true)
 (h:W P (some l) N a0 ⟨fun D e w1=>w1.heap[l]?=some (.loop rc) ∧
   W P (some l) N body ⟨fun _ _ w3=>K5a l none R w3,fun id _ _ w3=>K5a l (some (.exit id)) R w3,fun _ _ w3=>K5a l (some .ret) R w3⟩ D e (w1.putObj l (.loop { rc with state:=.busy })),
   fun _ _ _ _=>False,fun _ _ _=>False⟩ [] (upd (upd e p x) q y) w):Yld P l #[x,y] w R:=by
 subst f0 d0 e0;have i0:=Nat.le_of_ble_eq_true hp;have j0:=Nat.le_of_ble_eq_true hq;refine⟨rc,hl,by simp[b0],?_⟩;have hz:(rc.params.zip #[x,y]).foldl (fun tmps (t,a)=>tmps.setIfInBounds t a) rc.tmps=(rc.tmps.setIfInBounds p x).setIfInBounds q y:=by rw[b0];simp
 rw[hz];refine roundIn_of_wpIn (F:=Fence.wide) trivial ?_;unfold W at h;have he:P0a { tmps:=(rc.tmps.setIfInBounds p x).setIfInBounds q y,defers:=[] }=upd (upd (P0a { tmps:=rc.tmps,defers:=[] }) p x) q y:=by
  have h1:=b1a (a:={ tmps:=rc.tmps,defers:=[] }) (d:=p) x (by simp;omega);have h2:=b1a (a:={ tmps:=rc.tmps.setIfInBounds p x,defers:=[] }) (d:=q) y (by simp;omega);simp only[Act.put] at h1 h2;rw[h2,←h1]
 refine wpIn_mono (h { tmps:=(rc.tmps.setIfInBounds p x).setIfInBounds q y,defers:=[] } (by simp[hN]) Z he) fun ex a w1 hq=>?_;cases ex with
 | normal =>
   obtain⟨hs,g0,hb⟩:=hq;refine⟨_,run_beginRound g0 hr,wpIn_mono (hb a hs Z Z) fun ex a w3 hq=>?_⟩;cases ex with
   | normal=>obtain⟨_,c0,h3,hR⟩:=hq;exact⟨_,_,run_endRound none h3,_,Z,hR⟩
   | ret=>obtain⟨_,c0,h3,hR⟩:=hq;exact⟨_,_,run_endRound (some .ret) h3,_,Z,hR⟩
   | exit id=>obtain⟨_,c0,h3,hR⟩:=hq;exact⟨_,_,run_endRound (some (.exit id)) h3,_,Z,hR⟩
   | goto l=>exact hq.elim
   | panic c=>exact hq.elim
   | outgrown=>exact hq.elim
 | exit id=>exact hq.2
 | ret=>exact hq.2
 | goto l=>exact hq.elim
 | panic c=>exact hq.elim
 | outgrown=>exact hq.elim
def X6c(fn:FuncId)(tm:Array Value)(ps:Array Tmp)(assign body:Code)(df:Nat):Loop:={ state:=.ready,pending:=none,fn,tmps:=tm,params:=ps,assign,body,defers:=df }
def W0b(b:Nat):Deferred:={ target:=.collected b,args:=#[] }
theorem B0b{g:Operand}{ps:Array Tmp}{a0 body:Code}{f:FuncId}{caps:Array Value}{vs:Value→Array Value}{n t:List Deferred→Env→World→Prop}{b:Nat→List Deferred→Env→World→Prop}
 (hH:Has P f) (hg:ev e g=.func (.func f) #[] caps) (q0:∀y,#[y]++caps=vs y)
 (h:∀(rc:Loop) (wi:World),rc.state=.ready→rc.pending=none→rc.tmps.size=N→P0a { tmps:=rc.tmps,defers:=[] }=e→rc.params=ps→rc.assign=a0→rc.body=body →
   wi.heap[w.heap.size]?=some (.deferred (some []))→wi.heap[w.heap.size+1]?=some (.loop rc)→Below w.heap.size w wi→wi.heap.size=w.heap.size+2 →
   A0a P f (vs (.func (.yield (w.heap.size+1)) #[] #[])) wi fun _ w3 =>
    ∃rc:Loop,w3.heap[w.heap.size+1]?=some (.loop rc)∧rc.state≠.busy ∧
     ((rc.pending=none∧n (W0b w.heap.size::D) e (w3.putObj (w.heap.size+1) (.loop { rc with state:=.exhausted }))) ∨
      (rc.pending=some .ret∧t (W0b w.heap.size::D) e (w3.putObj (w.heap.size+1) (.loop { rc with state:=.exhausted }))))) :
 W P none N (.rangeFunc g ps a0 body) ⟨n,b,t⟩ D e w:=by
 unfold W;intro a hs hd he;have i0:P0a { tmps:=a.tmps,defers:=[] }=e:=he;refine wpIn_rangeFunc (F:=fc none) (n:=0) ?_;intro fn _;have j0:((w.alloc (.deferred (some []))).alloc (.loop (X6c fn a.tmps ps a0 body w.heap.size))).heap[w.heap.size]?=some (.deferred (some [])) :=
  (Below.heap_alloc _ _ _ (by simp)).trans (World.alloc_heap_new w _)
 have m0:((w.alloc (.deferred (some []))).alloc (.loop (X6c fn a.tmps ps a0 body w.heap.size))).heap[w.heap.size+1]?=some (.loop (X6c fn a.tmps ps a0 body w.heap.size)):=by
  have:=World.alloc_heap_new (w.alloc (.deferred (some []))) (.loop (X6c fn a.tmps ps a0 body w.heap.size));rwa [World.size_alloc] at this
 have n0:Below w.heap.size w ((w.alloc (.deferred (some []))).alloc (.loop (X6c fn a.tmps ps a0 body w.heap.size))):=(((Below.refl _ w).alloc (Nat.le_refl _) _).alloc (by simp) _);have h1:=h (X6c fn a.tmps ps a0 body w.heap.size) _ Z Z hs i0 Z Z Z j0 m0 n0 (by simp);rw[←q0] at h1;have o0:a.eval g=.func (.func f) #[] caps:=by rw[v2a,he];exact hg
 have e0:=run_enterLoop_outer (P:=P) (w:=w) fn a.tmps ps a0 body;change (Instr.enterLoop fn a.tmps ps a0 body none).run P w=.ok (w.heap.size+1,[W0b w.heap.size]) ((w.alloc (.deferred (some []))).alloc (.loop (X6c fn a.tmps ps a0 body w.heap.size))) at e0;clear j0 m0 n0;generalize ((w.alloc (.deferred (some []))).alloc (.loop (X6c fn a.tmps ps a0 body w.heap.size)))=W1 at h1 e0;have g0:(resolve a.eval (rangeCall g (w.heap.size+1)) 0).run P W1=.ok { target:=.fn (.func f) caps,args:=#[.func (.yield (w.heap.size+1)) #[] #[]] } W1:=by
  simp only[resolve,o0];simp[go_sem]
 have f0:(invoke (.fn (.func f) caps) #[.func (.yield (w.heap.size+1)) #[] #[]]).run P W1=.ok (.enter f (#[.func (.yield (w.heap.size+1)) #[] #[]]++caps)) W1:=by
  simp[invoke,go_sem,hH _ _]
 refine⟨w.heap.size+1,[W0b w.heap.size],W1,{ target:=.fn (.func f) caps,args:=#[.func (.yield (w.heap.size+1)) #[] #[]] },W1,f,#[.func (.yield (w.heap.size+1)) #[] #[]]++caps,W1,e0,g0,fun _ _=>trivial,f0,fun hh=>(by simp[fc,Fence.wide] at hh),?_⟩;refine F5a (Calls.mono h1 ?_);rintro en w3 ⟨_,rfl,rc,hl,p0,b0⟩;have c0:=run_endLoop (P:=P) hl p0;generalize (w3.putObj (w.heap.size+1) (.loop { rc with state:=.exhausted }))=W4 at c0 b0;refine⟨rc.pending,W4,c0,?_⟩;subst hd;have d0:P0a { tmps:=a.tmps,defers:=[W0b w.heap.size]++a.defers }=e:=i0;rcases b0 with⟨hp,hn⟩|⟨hp,ht⟩
 ·rw[hp];show a.tmps.size=N∧n (W0b w.heap.size::a.defers) (P0a _) W4;rw[d0];exact⟨hs,hn⟩
 ·rw[hp];refine wpIn_ret ?_;show a.tmps.size=N∧t (W0b w.heap.size::a.defers) (P0a _) W4;rw[d0];exact⟨hs,ht⟩
theorem p0a.putObj{w:World}{l:Nat}{o:Obj}{b:Blk}(h:p0a w b)(a0:b.1≠l):p0a (w.putObj l o) b:=by
 unfold p0a at *;rw[World.putObj_heap_other a0];exact h
theorem H0a.putObj{M:List Nat}{w0 w:World}{l:Nat}(o:Obj)(h:H0a M w0 w)(hl:w0.heap.size≤l∨l∈M):H0a M w0 (w.putObj l o) :=
 ⟨h.os,h.tape,h.output,by simpa using h.size,fun k hk hm=>by
  rw[World.putObj_heap_other];exact h.block k hk hm;intro hh;subst hh;rcases hl with hl|hl
  ·omega
  ·exact hm hl⟩
theorem H0a.step{Ms:List Nat}{w0 w w':World}(h:H0a [] w0 w)(k:H0a Ms w w')(hM:∀g∈Ms,w0.heap.size≤g):H0a [] w0 w' :=
 ⟨k.os.trans h.os,k.tape.trans h.tape,k.output.trans h.output,Nat.le_trans h.size k.size,fun i hi hm=>(k.block i (Nat.lt_of_lt_of_le hi h.size) (fun hh=>by have:=hM i hh;omega)).trans (h.block i hi hm)⟩
theorem Z2a(w:World)(l:Nat)(o:Obj):x0a [l] w (w.putObj l o):=⟨by simp,fun k _ hm=>World.putObj_heap_other (by simpa using hm)⟩
end
section
variable {P:Program} {r:Option Nat} {N:Nat} {l:List Oper} {D:List Deferred}
theorem b9c{Q:Exit→Act→World→Prop}(o0:((List.range l.length).all fun i=>(d1a l i).all fun j=>decide (j<i))=true)(I:(Nat→Bool)→Env→World→Prop)
 (step:∀(f:Nat→Bool) (e:Env) (w:World) (i:Nat) (o:Oper),I f e w→l[i]?=some o→f i=false→(∀j∈d1a l i,f j=true) →
   WL P r N l.toArray [o] (fun D' e' w'=>D'=D∧I (fun j=>f j||j==i) e' w') D e w)
 (n0:∀(f:Nat→Bool) (a:Act) (w:World),a.tmps.size=N→a.defers=D→I f (P0a a) w→(∀i,i<l.length→f i=true)→Q .normal a w) :
 ∀(fuel:Nat) (f:Nat→Bool) (listed:Array Bool) (a:Act) (w:World),listed.size=l.length→(∀i,i<l.length→(Lst listed i↔f i=true))→((List.range l.length).filter fun i=>!f i).length≤fuel →
  a.tmps.size=N→a.defers=D→I f (P0a a) w→wpAnyIn (fc r) 0 P .any l.toArray Q fuel listed a w:=by
 intro fuel;have b0:∀(f:Nat→Bool) (listed:Array Bool),listed.size=l.length→(∀i,i<l.length→(Lst listed i↔f i=true))→Region.ready .any l.toArray listed=[]→∀i,i<l.length→f i=true:=by
  intro f listed f0 hf hr i hi;cases d0:f i with
  | true=>rfl
  | false =>
    obtain⟨k,hk,t0,e0⟩:=q7a (listed:=listed) (n:=l.length) ⟨i,hi,fun hh=>by rw[(hf i hi).1 hh] at d0;cases d0⟩;have:k∈Region.ready .any l.toArray listed:=(U4a f0).2 ⟨hk,t0,fun j hj=>e0 j (Z8a o0 hj)⟩;rw[hr] at this;cases this
 induction fuel with
 | zero =>
   intro f listed a w f0 hf s0 hs hd hI;have g0:∀i,i<l.length→f i=true:=by
    intro i hi;cases d0:f i with
    | true=>rfl
    | false =>
      have:i∈(List.range l.length).filter fun i=>!f i:=List.mem_filter.2 ⟨List.mem_range.2 hi,by simp[d0]⟩;have m0:(List.range l.length).filter (fun i=>!f i)=[]:=List.length_eq_zero_iff.1 (by omega);rw[m0] at this;cases this
   refine⟨?_,n0 f a w hs hd hI g0⟩;apply List.eq_nil_iff_forall_not_mem.2;intro i hi;obtain⟨h1,h2,_⟩:=(U4a f0).1 hi;exact h2 ((hf i h1).2 (g0 i h1))
 | succ fuel ih =>
   intro f listed a w f0 hf s0 hs hd hI;refine⟨fun h0=>n0 f a w hs hd hI (b0 f listed f0 hf h0),fun i hi=>?_⟩;obtain⟨h1,h2,h3⟩:=(U4a f0).1 hi;have j0:l[i]?=some l[i]:=List.getElem?_eq_getElem h1;have d0:f i=false:=by
    cases d0:f i with
    | false=>rfl
    | true=>exact absurd ((hf i h1).2 d0) h2
   have u0:∀j∈d1a l i,j<l.length:=fun j hj=>Nat.lt_trans (Z8a o0 hj) h1;have p0:=step f (P0a a) w i l[i] hI j0 d0 (fun j hj=>(hf j (u0 j hj)).1 (h3 j hj));unfold WL at p0;have c0:=p0 a (fun ex a' w'=>ex=.normal∧wpAnyIn (fc r) 0 P .any l.toArray Q fuel (listed.setIfInBounds i true) a' w') hs hd Z (fun a' w' v0 hk=>by
    obtain⟨r0,q0⟩:=hk;refine⟨Z,ih (fun j=>f j||j==i) _ a' w' (by simp[f0]) (fun j hj=>?_) ?_ v0 r0 q0⟩
    ·rw[z2a (by omega)];have:=hf j hj;simp only[Bool.or_eq_true,beq_iff_eq];constructor
     ·rintro(h|h)
      ·exact .inr h
      ·exact .inl (this.1 h)
     ·rintro(h|h)
      ·exact .inr (this.2 h)
      ·exact .inl h
    ·have:=v4b (X:=List.range l.length) (p:=fun j=>!f j) (q:=fun j=>!(f j||j==i)) (fun x hx=>by simp at hx ⊢;exact hx.1) (List.mem_range.2 h1) (by simp[d0]) (by simp);omega)
   unfold wpOpIn;have i0:(l.toArray)[i]?=some l[i]:=by simp[h1]
   simp only[i0];simp only[wpListIn] at c0
   split
   ·rename_i hw;simp only[hw,if_true] at c0;refine⟨c0.1,?_⟩;have h4:=c0.2
    revert h4
    generalize (Oper.semAt (fc r).round a.eval l[i]).run P w=x0;intro h4;cases x0 with
    | ok x w' =>
      cases x<;>simp only[Oper.uponIn] at h4 ⊢ <;>
       first
        | exact h4.2
        | exact⟨h4.1,CallsIn.mono h4.2 (fun e y0 he=>by
         cases e
         ·exact he.2
         ·exact absurd he.1 (by simp)
         ·obtain⟨a0,w0,hh⟩:=he;exact absurd hh.1 (by simp))⟩
        | exact⟨h4.1,RowsIn.mono h4.2 (fun _ _ he=>he.2)⟩
        | exact⟨h4.1,RoundIn.mono h4.2 (fun e y0 he=>by
         cases e
         ·exact he.2
         ·exact absurd he.1 (by simp)
         ·obtain⟨a0,w0,hh⟩:=he;exact absurd hh.1 (by simp))⟩
    | halt x w'=>cases x<;>simp only[Oper.uponIn] at h4 ⊢<;>exact absurd h4.1 (by simp)
   ·rename_i hw;simp only[hw] at c0;exact⟨c0.1,c0.2.2⟩
theorem V4c{id:Nat}{n t:List Deferred→Env→World→Prop}{b:Nat→List Deferred→Env→World→Prop}{e:Env}{w:World}(hm:P.follows .mixedOrders=true)
 (c0:((List.range l.length).all fun i=>(d1a l i).all fun j=>decide (j<i))=true) (I:(Nat→Bool)→Env→World→Prop) (h0:I (fun _=>false) e w.drew)
 (step:∀(f:Nat→Bool) (e:Env) (w:World) (i:Nat) (o:Oper),I f e w→l[i]?=some o→f i=false→(∀j∈d1a l i,f j=true) →
   WL P r N l.toArray [o] (fun D' e' w'=>D'=D∧I (fun j=>f j||j==i) e' w') D e w)
 (b0:∀(f:Nat→Bool) (e:Env) (w:World),I f e w→(∀i,i<l.length→f i=true)→n D e w):W P r N (.region id l.toArray true) ⟨n,b,t⟩ D e w:=by
 unfold W;intro a hs hd he;subst he;refine wpIn_region_any hm ?_;refine b9c c0 I step (fun f a w hs hd hI a0=>⟨hs,by rw[hd];exact b0 f _ w hI a0⟩) _ (fun _=>false) _ a w.drew (by simp) (fun i hi=>?_) ?_ hs hd h0
 ·unfold Lst;simp[hi]
 ·simpa using List.length_filter_le _ (List.range l.length)
end
def r5d(c:Call):Bool:=match c.callee with
 | .builtin .len=>true
 | _=>false
def X4c:Op→Bool
 | .call c=>r5d c
 | .move _ | .assign _ | .pick _ _ _ | .load _ _ | .binOp _ _ _ _ _ | .unOp _ _ _ | .fieldAddr _ _ _ | .field _ _ _ | .indexAddr _ _ _ | .index _ _ _ | .extract _ _ | .build _ _ | .nilCheck _ | .slice _ _ _ _ _ | .convert _ _ _=>true
 | _=>false
theorem c0c{P:Program}{s:Result Value}{w':World}{n:Next}(h:s.andThen (fun a w'=>(Sem.run P (pure (Next.value a)) w'))=.ok n w'):∃v,n=.value v:=by
 cases s with
 | ok a w1=>simp at h;exact⟨a,h.1.symm⟩
 | halt x w1=>simp[Result.andThen] at h
theorem X8a{α:Type}{s:Result α}{f:α→World→Result Next}{w':World}{n:Next}(h:s.andThen f=.ok n w')(hf:∀a w,f a w=.ok n w'→∃v,n=.value v):∃v,n=.value v:=by
 cases s with
 | ok a w1=>exact hf a w1 (by simpa[Result.andThen] using h)
 | halt x w1=>simp[Result.andThen] at h
theorem T6b{P:Program}{ρ:Operand→Value}{d:Option Nat}{args:Array Operand}{at_:Array TypeId}{t:TypeId}{p:String}{af:Array Edge}{g:Option (Nat×Bool)}{w w':World}{n:Next}(h:(execOp ρ ⟨d,.call { callee:=.builtin .len,args:=args,argTypes:=at_ },t,p,af,g⟩).run P w=.ok n w'):∃v,n=.value v:=by
 simp only[execOp,resolve,invoke,Sem.run_bind,Sem.run_pure,Result.andThen_ok,builtin] at h;exact X8a h fun a w h=>⟨a,by cases h;rfl⟩
theorem R7a{P:Program}{ρ:Operand→Value}{o:Oper}{w w':World}{n:Next}(ho:X4c o.op=true)(h:(execOp ρ o).run P w=.ok n w'):∃v,n=.value v:=by
 obtain⟨_,op,_⟩:=o;simp only at ho;cases op
 case call c =>
  obtain⟨callee,_⟩:=c;cases callee<;>first|(cases ho;done)|skip
  rename_i b;cases b<;>first|(cases ho;done)|skip
  exact T6b h
 all_goals first|(cases ho;done)|skip
 all_goals simp only[execOp,Sem.run_bind] at h
 all_goals first
  | exact c0c h
  | (simp at h;exact⟨_,h.1.symm⟩)
  | (cases hb:(Sem.run P (asBool (ρ _)) w) with
     | ok a w1=>rw[hb] at h;simp at h;exact⟨_,h.1.symm⟩
     | halt x w1=>rw[hb] at h;simp[Result.andThen] at h)
  | (repeat' split at h
     all_goals first
      | (simp[Sem.run_pure] at h;exact⟨_,h.1.symm⟩)
      | (simp[runtimePanic] at h;done)
      | (simp only[Sem.run_bind] at h;exact X8a h (fun _ _ h=>by
       repeat' split at h
       all_goals (exact X8a h (fun _ _ h=>by simp at h;split at h<;>first|(simp at h;exact⟨_,h.1.symm⟩)|(simp at h;done))))))
section
variable {P:Program} {r:Option Nat} {N:Nat} {l:List Oper} {D:List Deferred} {C:World→Prop} {K:List Deferred→Env→World→Prop}
def PV(P:Program)(l:List Oper)(C:World→Prop)(o:Oper)(e:Env)(v:Value):Prop :=
 (a1a l.toArray e o=true∧∀w,C w→(execOp (ev e) o).run P w=.ok (.value v) w)∨(a1a l.toArray e o=false∧v=undef)
theorem PV.congr{o:Oper}{e e':Env}{v:Value}(hs:Op.isSelect o.op=false)(h:∀s∈Oper.looksAt l.toArray o,e s=e' s)(hp:PV P l C o e v):PV P l C o e' v:=by
 unfold PV at *;rw[←O0a h,←n1a hs h];exact hp
theorem PV.uniq{o:Oper}{e:Env}{v v':Value}{w:World}(hw:C w)(h:PV P l C o e v)(h':PV P l C o e v'):v=v':=by
 rcases h with⟨h1,h2⟩|⟨h1,h2⟩<;>rcases h' with⟨h3,h4⟩|⟨h3,h4⟩
 ·have:=(h2 w hw).symm.trans (h4 w hw);cases this;rfl
 ·rw[h1] at h3;cases h3
 ·rw[h1] at h3;cases h3
 ·rw[h2,h4]
def WM(P:Program)(r:Option Nat)(N:Nat)(l:List Oper)(C:World→Prop)(pur:Nat→Bool)(K:List Deferred→Env→World→Prop)(D:List Deferred):List Nat→Env→World→Prop
 | [],e,w=>C w∧K D e w
 | i::rest,e,w=>C w∧∃o d,l[i]?=some o∧o.dst=some d∧d<N ∧
  ((pur i=true∧∃v,PV P l C o e v∧WM P r N l C pur K D rest (upd e d v) w) ∨
   (pur i=false∧WL P r N l.toArray [o] (fun D' e' w'=>D'=D∧WM P r N l C pur K D rest e' w') D e w))
variable {pur:Nat→Bool}
theorem WM.inC{a0:List Nat}{e:Env}{w:World}(h:WM P r N l C pur K D a0 e w):C w:=by cases a0<;>exact h.1
theorem r2a(e:Env){c d:Nat}(u v:Value)(h:c≠d):upd (upd e c u) d v=upd (upd e d v) c u:=by
 funext i
 by_cases h1:i=c
 ·subst h1;rw[v1a _ _ h,Y2a,Y2a]
 ·by_cases h2:i=d
  ·subst h2;rw[Y2a,v1a _ _ h1,Y2a]
  ·rw[v1a _ _ h2,v1a _ _ h1,v1a _ _ h1,v1a _ _ h2]
theorem d7a(e:Env)(N:Nat)(D:List Deferred)(hz:∀i,N≤i→e i=undef):∃a:Act,a.tmps.size=N∧a.defers=D∧P0a a=e:=by
 refine⟨{ tmps:=Array.ofFn (n:=N) fun i=>e i.1,defers:=D },by simp,Z,?_⟩
 funext i
 simp only[P0a,Array.getD_eq_getD_getElem?];by_cases hi:i<N
 ·simp[hi]
 ·simp[hi,hz i (by omega)]
theorem o5a{o:Oper}{d:Nat}{K1:List Deferred→Env→World→Prop}{e e1:Env}{w:World}(hd:o.dst=some d)(hN:d<N)(j0:Op.isSelect o.op=false)(d0:∀c,o.op≠.defer c)(hz:∀i,N≤i→e1 i=undef)
 (b0:∀s∈Oper.looksAt l.toArray o,e s=e1 s) (h:WL P r N l.toArray [o] K1 D e1 w):WL P r N l.toArray [o] (fun D' e' w'=>∃v,e'=upd e d v∧K1 D' (upd e1 d v) w') D e w:=by
 unfold WL at *;intro a Q hs hD he hK;obtain⟨a1,i0,g0,e0⟩:=d7a e1 N D hz;have h1:=h a1 (fun ex a' w'=>ex=.normal∧K1 a'.defers (P0a a') w') i0 g0 e0 (fun a' w' _ hk=>⟨Z,hk⟩);have hw:Region.wanted o (yielded l.toArray a.tmps)=Region.wanted o (yielded l.toArray a1.tmps):=by rw[p1a,p1a,he,e0];exact O0a b0
 have c0:∀(v:Value) (w':World),K1 (a1.put o.dst v).defers (P0a (a1.put o.dst v)) w'→Q .normal (a.put o.dst v) w':=by
  intro v w' hk;rw[hd] at hk ⊢;rw[b1a v (by rw[i0];exact hN),e0] at hk;refine hK _ _ (by simp[Act.put,hs]) ⟨v,by rw[b1a v (by rw[hs];exact hN),he],?_⟩;have e3:(a1.put (some d) v).defers=(a.put (some d) v).defers:=by simp[Act.put,g0,hD]
  rw[←e3];exact hk
 simp only[wpListIn] at h1 ⊢;rw[hw]
 split
 ·rename_i n0;simp only[n0,if_true] at h1;refine⟨I0a _ _ _,?_⟩;have h4:=h1.2;have m0:Oper.semAt (fc r).round a.eval o=Oper.semAt (fc r).round a1.eval o:=by
   rw[Oper.semAt_eq _ _ _ d0,Oper.semAt_eq _ _ _ d0,v2a,v2a,he,e0];exact n1a j0 b0
  rw[m0]
  revert h4
  generalize (Oper.semAt (fc r).round a1.eval o).run P w=p0;intro h4;cases p0 with
  | ok x w' =>
    cases x with
    | value v=>simp only[Oper.uponIn] at h4 ⊢;exact c0 v w' h4.2
    | skip=>simp only[Oper.uponIn] at h4 ⊢;exact c0 undef w' h4.2
    | defer dd =>
      simp only[Oper.uponIn] at h4 ⊢;have hk:=h4.2;rw[hd] at hk ⊢;have e5:({ a1 with defers:=dd::a1.defers }:Act).tmps.size=N:=i0;have o0:P0a ({ a1 with defers:=dd::a1.defers }:Act)=e1:=e0;have ee:P0a ({ a with defers:=dd::a.defers }:Act)=e:=he;rw[b1a (a:={ a1 with defers:=dd::a1.defers }) undef (by rw[e5];exact hN),o0] at hk;refine hK _ _ (by simp[Act.put,hs]) ⟨undef,by rw[b1a (a:={ a with defers:=dd::a.defers }) undef (by show d<a.tmps.size;rw[hs];exact hN),ee],?_⟩;have e3:(({ a1 with defers:=dd::a1.defers }:Act).put (some d) undef).defers=(({ a with defers:=dd::a.defers }:Act).put (some d) undef).defers:=by simp[Act.put,g0,hD]
      rw[←e3];exact hk
    | enter f args =>
      simp only[Oper.uponIn] at h4 ⊢;exact⟨h4.1,CallsIn.mono h4.2 (fun en q0 hh=>by
       cases en
       ·exact c0 _ _ hh.2
       ·exact absurd hh.1 (by simp)
       ·obtain⟨a0,w0,hh⟩:=hh;exact absurd hh.1 (by simp))⟩
    | row r0 args=>simp only[Oper.uponIn] at h4 ⊢;exact⟨h4.1,RowsIn.mono h4.2 (fun _ _ hh=>c0 _ _ hh.2)⟩
    | round l' f tmps f0 body =>
      simp only[Oper.uponIn] at h4 ⊢;exact⟨h4.1,RoundIn.mono h4.2 (fun en q0 hh=>by
       cases en
       ·exact c0 _ _ hh.2
       ·exact absurd hh.1 (by simp)
       ·obtain⟨a0,w0,hh⟩:=hh;exact absurd hh.1 (by simp))⟩
    | _=>simp only[Oper.uponIn] at h4
  | halt x w'=>cases x<;>simp only[Oper.uponIn] at h4 ⊢<;>exact absurd h4.1 (by simp)
 ·rename_i n0;simp only[n0] at h1;exact⟨I0a _ _ _,c0 undef w h1.2.2⟩
theorem e6c{o:Oper}{d:Nat}{K1:List Deferred→Env→World→Prop}{e:Env}{w:World}(hd:o.dst=some d)(hN:d<N)(hz:∀i,N≤i→e i=undef)
 (h:WL P r N l.toArray [o] K1 D e w):∃D' v w',K1 D' (upd e d v) w':=by
 unfold WL at h;obtain⟨a1,e0,f0,d0⟩:=d7a e N D hz;have h1:=h a1 (fun ex a' w'=>ex=.normal∧K1 a'.defers (P0a a') w') e0 f0 d0 (fun a' w' _ hk=>⟨Z,hk⟩);have b0:∀(v:Value) (w':World),K1 (a1.put o.dst v).defers (P0a (a1.put o.dst v)) w'→∃D' v w',K1 D' (upd e d v) w':=by
  intro v w' hk;rw[hd,b1a v (by rw[e0];exact hN),d0] at hk;exact⟨_,v,w',hk⟩
 simp only[wpListIn] at h1
 split at h1
 ·have h4:=h1.2
  revert h4
  generalize (Oper.semAt (fc r).round a1.eval o).run P w=g0;intro h4;cases g0 with
  | ok x w' =>
    cases x with
    | value v=>simp only[Oper.uponIn] at h4;exact b0 v w' h4.2
    | skip=>simp only[Oper.uponIn] at h4;exact b0 undef w' h4.2
    | defer dd =>
      simp only[Oper.uponIn] at h4;have hk:=h4.2;rw[hd,b1a (a:={ a1 with defers:=dd::a1.defers }) undef (by show d<a1.tmps.size;rw[e0];exact hN),show P0a ({ a1 with defers:=dd::a1.defers }:Act)=e from d0] at hk;exact⟨_,_,_,hk⟩
    | enter f args =>
      simp only[Oper.uponIn] at h4;obtain⟨en,w2,_,hR,_⟩:=h4.2.2 [] (room_wide _);cases en
      ·exact b0 _ _ hR.2
      ·exact absurd hR.1 (by simp)
      ·obtain⟨a0,w0,hh⟩:=hR;exact absurd hh.1 (by simp)
    | row i0 args =>
      simp only[Oper.uponIn] at h4;obtain⟨v,w2,hR,_⟩:=h4.2 default [] (room_wide _);exact b0 _ _ hR.2
    | round l' f tmps c0 body =>
      simp only[Oper.uponIn] at h4;obtain⟨en,w2,hR,_⟩:=h4.2.2 default [] (room_wide _);cases en
      ·exact b0 _ _ hR.2
      ·exact absurd hR.1 (by simp)
      ·obtain⟨a0,w0,hh⟩:=hR;exact absurd hh.1 (by simp)
    | _=>simp only[Oper.uponIn] at h4
  | halt x w'=>cases x<;>simp only[Oper.uponIn] at h4<;>exact absurd h4.1 (by simp)
 ·exact b0 undef w h1.2.2
def u9a(l:List Oper)(pur:Nat→Bool)(j i:Nat):Bool :=
 match l[j]?,l[i]? with
 | some p,some q=>(pur i||pur j)&&(match p.dst,q.dst with
   | some c,some d=>!(c==d)&&!(Oper.looksAt l.toArray p).contains d&&!(Oper.looksAt l.toArray q).contains c
   | _,_=>false)
 | _,_=>false
def q3a(l:List Oper):Bool:=l.all fun o=>!Op.isSelect o.op&&!Op.isDefer o.op
theorem z0a(h:q3a l=true){i:Nat}{o:Oper}(ho:l[i]?=some o):Op.isSelect o.op=false∧∀c,o.op≠.defer c:=by
 have:=List.all_eq_true.1 h o (List.mem_of_getElem? ho);simp only[Bool.and_eq_true,Bool.not_eq_true'] at this;exact⟨this.1,fun c hc=>by rw[hc] at this;simp[Op.isDefer] at this⟩
theorem U8a{j i:Nat}{p q:Oper}{c d:Nat}(h:u9a l pur j i=true)(hj:l[j]?=some p)(hi:l[i]?=some q)(hc:p.dst=some c)(hd:q.dst=some d):
 (pur i=true∨pur j=true)∧c≠d∧d∉Oper.looksAt l.toArray p∧c∉Oper.looksAt l.toArray q:=by
 unfold u9a at h;simp only[hj,hi,hc,hd,Bool.and_eq_true,Bool.or_eq_true,Bool.not_eq_true',beq_eq_false_iff_ne,List.contains_eq_mem,decide_eq_false_iff_not] at h;exact⟨h.1,h.2.1.1,h.2.1.2,h.2.2⟩
theorem o1a{e:Env}{c:Nat}{u:Value}{s:Nat}{X:List Nat}(hc:c∉X)(hs:s∈X):upd e c u s=e s:=v1a _ _ (fun h=>hc (h▸hs))
theorem A1a{e:Env}{d:Nat}{v:Value}(hN:d<N)(hz:∀i,N≤i→e i=undef):∀i,N≤i→upd e d v i=undef:=fun i hi=>by rw[v1a _ _ (by omega)];exact hz i hi
theorem WM.first(a0:q3a l=true){i:Nat}{g0:List Nat}:∀(e0:List Nat) (e:Env) (w:World),(∀j∈e0,u9a l pur j i=true)→(∀i,N≤i→e i=undef)→WM P r N l C pur K D (e0++i::g0) e w →
 ∃o d,l[i]?=some o∧o.dst=some d∧d<N ∧
  ((pur i=true∧∃v,PV P l C o e v∧WM P r N l C pur K D (e0++g0) (upd e d v) w) ∨
   (pur i=false∧WL P r N l.toArray [o] (fun D' e' w'=>D'=D∧∃v,e'=upd e d v∧WM P r N l C pur K D (e0++g0) e' w') D e w)):=by
 intro e0
 induction e0 with
 | nil =>
   intro e w _ hz h;obtain⟨hC,o,d,ho,hd,hN,h⟩:=h;refine⟨o,d,ho,hd,hN,?_⟩;rcases h with h|⟨hp,h⟩
   ·exact .inl h
   ·refine .inr ⟨hp,?_⟩;have h2:=o5a (e:=e) (e1:=e) hd hN (z0a a0 ho).1 (z0a a0 ho).2 hz (fun _ _=>rfl) h;unfold WL at *;exact fun a Q hs hD he hK=>h2 a Q hs hD he (fun a' w' n0 ⟨v,h1,h3,h4⟩=>hK a' w' n0 ⟨h3,v,h1,by rw[h1];exact h4⟩)
 | cons q e0 ih =>
   intro e w j0 hz h;obtain⟨hC,p,c,hp,hc,d0,h⟩:=h;have hq:=j0 q (by simp);have b0:∀j∈e0,u9a l pur j i=true:=fun j hj=>j0 j (by simp[hj]);rcases h with⟨m0,u,hu,h⟩|⟨m0,h⟩
   ·obtain⟨o,d,ho,hd,hN,h2⟩:=ih (upd e c u) w b0 (A1a d0 hz) h;obtain⟨_,p0,q0,i0⟩:=U8a hq hp ho hc hd;refine⟨o,d,ho,hd,hN,?_⟩;rcases h2 with⟨f0,v,hv,h2⟩|⟨f0,h2⟩
    ·refine .inl ⟨f0,v,hv.congr (z0a a0 ho).1 (fun s hs=>o1a i0 hs),hC,p,c,hp,hc,d0,.inl ⟨m0,u,hu.congr (z0a a0 hp).1 (fun s hs=>(o1a q0 hs).symm),?_⟩⟩;rw[←r2a _ _ _ p0];exact h2
    ·refine .inr ⟨f0,?_⟩;have h3:=o5a (e:=e) (e1:=upd e c u) hd hN (z0a a0 ho).1 (z0a a0 ho).2 (A1a d0 hz) (fun s hs=>(o1a i0 hs).symm) h2;unfold WL at *;refine fun a Q hs hD he hK=>h3 a Q hs hD he (fun a' w' n0 hh=>hK a' w' n0 ?_);obtain⟨v,h1,h4,v',h5,h6⟩:=hh;have z0:v=v':=by have:=congrFun h5 d;rwa [Y2a,Y2a] at this
     subst z0;refine⟨h4,v,h1,?_⟩;rw[h1];refine⟨h6.inC,p,c,hp,hc,d0,.inl ⟨m0,u,hu.congr (z0a a0 hp).1 (fun s hs=>(o1a q0 hs).symm),?_⟩⟩;rw[←r2a _ _ _ p0];exact h6
   ·have h0:=o5a (e:=e) (e1:=e) hc d0 (z0a a0 hp).1 (z0a a0 hp).2 hz (fun _ _=>rfl) h;obtain⟨_,u1,w1,_,x0,_,h1⟩:=e6c hc d0 hz h0;rw[←x0] at h1;obtain⟨o,d,ho,hd,hN,h2⟩:=ih (upd e c u1) w1 b0 (A1a d0 hz) h1;obtain⟨u0,p0,q0,i0⟩:=U8a hq hp ho hc hd;have f0:pur i=true:=by
     rcases u0 with h|h
     ·exact h
     ·rw[m0] at h;cases h
    rcases h2 with⟨_,v0,y0,_⟩|⟨c0,_⟩
    ·have o0:PV P l C o e v0:=y0.congr (z0a a0 ho).1 (fun s hs=>o1a i0 hs);refine⟨o,d,ho,hd,hN,.inl ⟨f0,v0,o0,hC,p,c,hp,hc,d0,.inr ⟨m0,?_⟩⟩⟩;have h3:=o5a (e:=upd e d v0) (e1:=e) hc d0 (z0a a0 hp).1 (z0a a0 hp).2 hz (fun s hs=>o1a q0 hs) h;unfold WL at *;refine fun a Q hs hD he hK=>h3 a Q hs hD he (fun a' w' n0 hh=>hK a' w' n0 ?_);obtain⟨u,hu,r0,h4⟩:=hh;refine⟨r0,?_⟩;obtain⟨o',d',t0,s0,_,h5⟩:=ih (upd e c u) w' b0 (A1a d0 hz) h4;obtain rfl:o'=o:=Option.some.inj (t0.symm.trans ho);obtain rfl:d'=d:=Option.some.inj (s0.symm.trans hd);rcases h5 with⟨_,v,hv,h5⟩|⟨c0,_⟩
     ·have hv':PV P l C o' e v:=hv.congr (z0a a0 ho).1 (fun s hs=>o1a i0 hs);obtain rfl:v=v0:=PV.uniq hC hv' o0;rw[hu,←r2a _ _ _ p0];exact h5
     ·rw[f0] at c0;cases c0
    ·rw[f0] at c0;cases c0
theorem s3a{f:Nat→Bool}(hc:∀i,f i=true→∀j∈d1a l i,f j=true):∀(k:Nat) (m:List Nat),(∀i∈m,f i=true)→∀i∈T3b l k m,f i=true:=by
 intro k
 induction k with
 | zero=>exact fun m h=>h
 | succ k ih =>
   intro m h;refine ih _ fun i hi=>?_;rw[List.mem_eraseDups,List.mem_append] at hi;rcases hi with hi|hi
   ·exact h i hi
   ·obtain⟨j,hj,a0⟩:=List.mem_flatMap.1 hi;exact hc j (h j hj) i a0
def F0d(l:List Oper)(pur:Nat→Bool):Bool :=
 q3a l&&((List.range l.length).all fun i=>(d1a l i).all fun j=>decide (j<i))&&((List.range l.length).all fun i=>(List.range i).all fun j=>(f4a l i).contains j||u9a l pur j i)
def f4b(l:List Oper)(f:Nat→Bool):List Nat:=(List.range l.length).filter fun i=>!f i
theorem r3c(f:Nat→Bool){i:Nat}(hi:i<l.length)(hf:f i=false):∃b0 a0,f4b l f=b0++i::a0∧f4b l (fun j=>f j||j==i)=b0++a0∧∀j∈b0,j<i∧f j=false:=by
 have hr:List.range l.length=List.range i++i::(List.range' (i+1) (l.length-(i+1))):=by
  have h1:l.length=i+(l.length-i):=by omega
  have h2:l.length-i=(l.length-(i+1))+1:=by omega
  rw[List.range_eq_range',List.range_eq_range',show List.range' 0 l.length=List.range' 0 (i+((l.length-(i+1))+1)) by rw[←h2,←h1],←List.range'_append_1];simp[List.range'_succ]
 refine⟨(List.range i).filter fun j=>!f j,(List.range' (i+1) (l.length-(i+1))).filter fun j=>!f j,?_,?_,?_⟩
 ·unfold f4b;rw[hr,List.filter_append,List.filter_cons];simp[hf]
 ·unfold f4b;rw[hr,List.filter_append,List.filter_cons];simp only[beq_self_eq_true,Bool.or_true,Bool.not_true,Bool.false_eq_true,if_false]
  congr 1
  ·apply List.filter_congr;intro j hj;have:=List.mem_range.1 hj;have:(j==i)=false:=by simp;omega
   simp[this]
  ·apply List.filter_congr;intro j hj;have:=List.mem_range'.1 hj;have:(j==i)=false:=by simp;omega
   simp[this]
 ·intro j hj;rw[List.mem_filter] at hj;exact⟨List.mem_range.1 hj.1,by simpa using hj.2⟩
theorem B2d{id:Nat}{n t:List Deferred→Env→World→Prop}{b:Nat→List Deferred→Env→World→Prop}{e:Env}{w:World}(hm:P.follows .mixedOrders=true)(pur:Nat→Bool)(ix:List Nat)
 (d0:F0d l pur=true) (q0:(List.range l.length==ix)=true) (C:World→Prop) (h:WM P r N l C pur n D ix e w.drew):W P r N (.region id l.toArray true) ⟨n,b,t⟩ D e w:=by
 obtain rfl:List.range l.length=ix:=eq_of_beq q0;unfold F0d at d0;simp only[Bool.and_eq_true] at d0;obtain⟨⟨g0,n0⟩,p0⟩:=d0;have hz:(∀i,N≤i→e i=undef)→W P r N (.region id l.toArray true) ⟨n,b,t⟩ D e w:=by
  intro hz;refine V4c hm n0 (fun f e w=>(∀i,N≤i→e i=undef)∧(∀i,f i=true→∀j∈d1a l i,f j=true)∧WM P r N l C pur n D (f4b l f) e w) ⟨hz,by simp,?_⟩ ?_ ?_
  ·have:f4b l (fun _=>false)=List.range l.length:=by unfold f4b;simp
   rw[this];exact h
  ·rintro f e w i o ⟨hz,c0,hM⟩ ho o0 i0;have f0:i<l.length:=(List.getElem?_eq_some_iff.1 ho).1;obtain⟨v0,_,h1,h2,h3⟩:=r3c (l:=l) f f0 o0;rw[h1] at hM;have u0:∀j∈f4a l i,f j=true:=s3a c0 _ _ i0;obtain⟨o',_,r0,hd,hN,h4⟩:=WM.first g0 v0 e w (fun j hj=>by
    have:=List.all_eq_true.1 (List.all_eq_true.1 p0 i (List.mem_range.2 f0)) j (List.mem_range.2 (h3 j hj).1);simp only[Bool.or_eq_true,List.contains_eq_mem,decide_eq_true_eq] at this;rcases this with h|h
    ·have:=u0 j h;rw[(h3 j hj).2] at this;cases this
    ·exact h) hz hM
   obtain rfl:o'=o:=Option.some.inj (r0.symm.trans ho);have a0:∀k,(f k||k==i)=true→∀j∈d1a l k,(f j||j==i)=true:=by
    intro k hk j hj;simp only[Bool.or_eq_true,beq_iff_eq] at hk ⊢;rcases hk with hk|rfl
    ·exact .inl (c0 k hk j hj)
    ·exact .inl (i0 j hj)
   rcases h4 with⟨s0,v,hv,h4⟩|⟨s0,h4⟩
   ·have j0:=hM.inC;rcases hv with⟨hw,hv⟩|⟨hw,rfl⟩
    ·unfold WL;intro a Q hs hD he hK;simp only[wpListIn];have e0:Region.wanted o' (yielded l.toArray a.tmps)=true:=by rw[p1a,he];exact hw
     simp only[e0,if_true];refine⟨I0a _ _ _,?_⟩;rw[Oper.semAt_eq _ _ _ (z0a g0 ho).2,v2a,he,hv w j0,Oper.uponIn_value];refine hK _ _ (by simp[Act.put,hd,hs]) ⟨by simp[Act.put,hd,hD],?_⟩;rw[hd,b1a v (by rw[hs];exact hN),he];exact⟨A1a hN hz,a0,by rw[h2];exact h4⟩
    ·unfold WL;intro a Q hs hD he hK;simp only[wpListIn];have e0:Region.wanted o' (yielded l.toArray a.tmps)=false:=by rw[p1a,he];exact hw
     simp only[e0];refine⟨I0a _ _ _,?_⟩;refine hK _ _ (by simp[Act.put,hd,hs]) ⟨by simp[Act.put,hd,hD],?_⟩;rw[hd,b1a undef (by rw[hs];exact hN),he];exact⟨A1a hN hz,a0,by rw[h2];exact h4⟩
   ·unfold WL at *;refine fun a Q hs hD he hK=>h4 a Q hs hD he (fun a' w' t0 hh=>hK a' w' t0 ?_);obtain⟨m0,v,hv,h5⟩:=hh;exact⟨m0,by rw[hv];exact A1a hN hz,a0,by rw[h2];exact h5⟩
  ·rintro f e w ⟨hz,c0,hM⟩ b0;have:f4b l f=[]:=by
    unfold f4b;rw[List.filter_eq_nil_iff];intro i hi;simp[b0 i (List.mem_range.1 hi)]
   rw[this] at hM;exact hM.2
 unfold W at *;intro a hs hd he;refine hz (fun i hi=>?_) a hs hd he;rw[←he];simp only[P0a,Array.getD_eq_getD_getElem?];rw[Array.getElem?_eq_none (by omega)];rfl
theorem Q1d{id:Nat}{n t:List Deferred→Env→World→Prop}{b:Nat→List Deferred→Env→World→Prop}{e:Env}{w:World}(hm:P.follows .mixedOrders=true)(pur:Nat→Bool)(ix:List Nat)
 (C:World→Prop) (hC:C w.drew) (h:∀w1,C w1→WM P r N l C pur n D ix e w1) (a0:F0d l pur=true:=by kernel_rfl) (hix:(List.range l.length==ix)=true:=by kernel_rfl):W P r N (.region id l.toArray true) ⟨n,b,t⟩ D e w :=
 B2d hm pur ix a0 hix C (h _ hC)
theorem K7b{e:Env}{w:World}(hC:C w)(h:K D e w):WM P r N l C pur K D [] e w:=⟨hC,h⟩
theorem f3a{i:Nat}{rest:List Nat}{e:Env}{w:World}{o:Oper}(hC:C w)(hp:pur i=true)(ho:l[i]?=some o)(hv:X4c o.op=true)(h:QL P N l.toArray C [o] (fun e'=>WM P r N l C pur K D rest e' w) e):WM P r N l C pur K D (i::rest) e w:=by
 unfold QL at h;obtain⟨pa,hl,hq,hk⟩:=h;obtain⟨d,v,h1,h2,h3,h4⟩:=hq 0 o Z;obtain rfl:pa=[(d,v)]:=by
  match pa,hl,h1 with
  | [x],_,h1=>simpa using h1
 refine⟨hC,o,d,ho,h2,h3,.inl ⟨hp,v,?_,hk⟩⟩;rcases h4 with⟨h5,h6⟩|h5
 ·refine .inl ⟨h5,fun w hw=>?_⟩;rcases h6 w hw with h7|⟨f,args,h7,_⟩
  ·exact h7
  ·obtain⟨_,hv'⟩:=R7a hv h7;cases hv'
 ·exact .inr h5
theorem q8b{i d:Nat}{rest:List Nat}{e:Env}{w:World}{o:Oper}(hC:C w)(hp:pur i=false)(ho:l[i]?=some o)(hd:o.dst=some d)(hN:Nat.ble (d+1) N=true)
 (h:WL P r N l.toArray [o] (fun D' e' w'=>D'=D∧WM P r N l C pur K D rest e' w') D e w):WM P r N l C pur K D (i::rest) e w :=
 ⟨hC,o,d,ho,hd,Nat.le_of_ble_eq_true hN,.inr ⟨hp,h⟩⟩
end
structure E where
 op:Int
 w:Int
 n:Int
 kids:List E
theorem E.induct{C:E→Prop}(h:∀e,(∀k∈e.kids,C k)→C e):∀e,C e:=by
 have key:∀(n:Nat) (e:E),SizeOf.sizeOf e≤n→C e:=by
  intro n
  induction n with
  | zero=>intro e he;cases e;simp at he
  | succ n ih =>
    intro e he;refine h e fun k hk=>ih k ?_;have h1:=List.sizeOf_lt_of_mem hk;cases e;simp at he h1;omega
 exact fun e=>key _ e (Nat.le_refl _)
def RdE(M:List Nat)(w:World)(e:E)(cs:LV):Prop :=
 ∃A n c,cs=[.int .i64 e.op,.int .i64 e.w,.int .i64 e.n,.slice A n c]∧i64 e.op∧i64 e.w∧i64 e.n∧n=e.kids.length∧n≤c∧c≤maxLen∧n≤140737488355328 ∧
  (0<n→∃b o,A=some ⟨b,o,none⟩∧b∉M∧∀(i:Nat) (h:i<e.kids.length),∃cs',Cells w b (o+i*4) cs'∧RdE M w e.kids[i] cs')
termination_by SizeOf.sizeOf e
decreasing_by
 have h1:=List.sizeOf_lt_of_mem (List.getElem_mem h);cases e;simp at h1 ⊢;omega
theorem RdE.length{M:List Nat}{w:World}{e:E}{cs:LV}(h:RdE M w e cs):cs.length=4:=by
 rw[RdE] at h;obtain⟨_,_,_,rfl,_⟩:=h;rfl
theorem RdE.keep{M:List Nat}{w w':World}(hk:x0a M w w'):∀(e:E) (cs:LV),RdE M w e cs→RdE M w' e cs:=by
 intro e
 induction e using E.induct with
 | _ e ih =>
   intro cs h;rw[RdE] at h ⊢;obtain⟨A,n,c,h1,h2,h3,h4,h5,h6,h7,h8,h9⟩:=h;refine⟨A,n,c,h1,h2,h3,h4,h5,h6,h7,h8,fun hn=>?_⟩;obtain⟨b,o,hA,hb,b0⟩:=h9 hn;refine⟨b,o,hA,hb,fun i hi=>?_⟩;obtain⟨a0,hc,hr⟩:=b0 i hi;exact⟨a0,hc.keep hk hb,ih _ (List.getElem_mem hi) a0 hr⟩
theorem RdE.less{M M':List Nat}{w:World}(hM:∀g∈M',g∈M):∀(e:E) (cs:LV),RdE M w e cs→RdE M' w e cs:=by
 intro e
 induction e using E.induct with
 | _ e ih =>
   intro cs h;rw[RdE] at h ⊢;obtain⟨A,n,c,h1,h2,h3,h4,h5,h6,h7,h8,h9⟩:=h;refine⟨A,n,c,h1,h2,h3,h4,h5,h6,h7,h8,fun hn=>?_⟩;obtain⟨b,o,hA,hb,b0⟩:=h9 hn;refine⟨b,o,hA,fun hh=>hb (hM b hh),fun i hi=>?_⟩;obtain⟨a0,hc,hr⟩:=b0 i hi;exact⟨a0,hc,ih _ (List.getElem_mem hi) a0 hr⟩
theorem RdE.more{M M':List Nat}{w:World}(hM:∀g∈M',g∈M∨w.heap.size≤g):∀(e:E) (cs:LV),RdE M w e cs→RdE M' w e cs:=by
 intro e
 induction e using E.induct with
 | _ e ih =>
   intro cs h;rw[RdE] at h ⊢;obtain⟨A,n,c,h1,h2,h3,h4,h5,h6,h7,h8,h9⟩:=h;refine⟨A,n,c,h1,h2,h3,h4,h5,h6,h7,h8,fun hn=>?_⟩;obtain⟨b,o,hA,hb,b0⟩:=h9 hn;refine⟨b,o,hA,fun hh=>?_,fun i hi=>?_⟩
   ·rcases hM b hh with h|h
    ·exact hb h
    ·obtain⟨a0,hc,hr⟩:=b0 0 (by omega);have hl:=hr.length;have:=World.block_lt_of_cell? w _ (hc 0 a0[0] (List.getElem?_eq_getElem (by omega)));simp at this;omega
   ·obtain⟨a0,hc,hr⟩:=b0 i hi;exact⟨a0,hc,ih _ (List.getElem_mem hi) a0 hr⟩
theorem RdE.open_{M:List Nat}{w:World}{e:E}{cs:LV}(h:RdE M w e cs):
 ∃A n c,cs=[.int .i64 e.op,.int .i64 e.w,.int .i64 e.n,.slice A n c]∧i64 e.op∧i64 e.w∧i64 e.n∧n=e.kids.length∧n≤c∧c≤maxLen∧n≤140737488355328 ∧
 (0<n→∃b o,A=some ⟨b,o,none⟩∧b∉M∧∀(i:Nat) (h:i<e.kids.length),∃a0,Cells w b (o+i*4) a0∧RdE M w e.kids[i] a0):=by
 rw[RdE] at h;exact h
mutual
def E.cnt:E→Nat
 | ⟨_,_,_,ks⟩=>E.cnts ks+1
def E.cnts:List E→Nat
 | []=>0
 | k::ks=>E.cnt k+E.cnts ks
end
mutual
def E.size:E→Int→Int
 | ⟨_,_,_,ks⟩,lim=>if lim≤0 then 0 else E.sizes ks lim 1
def E.sizes:List E→Int→Int→Int
 | [],_,n=>n
 | k::ks,lim,n=>if n<lim then E.sizes ks lim (n+E.size k (lim-n)) else n
end
theorem E.size_def(e:E)(a0:Int):e.size a0=if a0≤0 then 0 else E.sizes e.kids a0 1:=by cases e;simp only[E.size]
theorem E.cnt_def(e:E):e.cnt=E.cnts e.kids+1:=by cases e;simp only[E.cnt]
theorem E.cnt_pos(e:E):1≤e.cnt:=by cases e;simp[E.cnt]
theorem E.size_eq:∀(e:E) (a0:Int),0≤a0→e.size a0=min (e.cnt:Int) a0:=by
 intro e
 induction e using E.induct with
 | _ e ih =>
   obtain⟨_,_,n,ks⟩:=e;intro a0 hl;have key:∀(ks:List E),(∀k∈ks,∀a0:Int,0≤a0→k.size a0=min (k.cnt:Int) a0)→∀(a0 n:Int),0≤n→n≤a0→E.sizes ks a0 n=min (n+(E.cnts ks:Int)) a0:=by
    intro ks
    induction ks with
    | nil=>intro _ a0 n h0 h1;simp only[E.sizes,E.cnts];omega
    | cons k ks f0 =>
      intro hk a0 n h0 h1;have d0:=hk k (by simp) (a0-n) (by omega);have e0:=E.cnt_pos k;simp only[E.sizes,E.cnts];by_cases b0:n<a0
      ·rw[if_pos b0,d0,f0 (fun k' c0=>hk k' (by simp[c0])) a0 _ (by omega) (by omega)];omega
      ·rw[if_neg b0];omega
   simp only[E.size,E.cnt];by_cases h0:a0≤0
   ·rw[if_pos h0];omega
   ·rw[if_neg h0,key ks (fun k hk=>ih k hk) a0 1 (by omega) (by omega)];omega
theorem E.sizes_stop(ks:List E)(k:Nat)(a0 nn:Int)(h:ks.length≤k∨a0≤nn):E.sizes (ks.drop k) a0 nn=nn:=by
 rcases h with h|h
 ·rw[List.drop_eq_nil_of_le h];simp only[E.sizes]
 ·cases hd:ks.drop k with
  | nil=>simp only[E.sizes]
  | cons x xs=>simp only[E.sizes];rw[if_neg (by omega)]
theorem E.size_le(e:E)(a0:Int)(h:0≤a0):0≤e.size a0∧e.size a0≤a0:=by
 rw[E.size_eq e a0 h];omega
def H3a:Nat→Int
 | 0=>1
 | n+1=>H3a n*2
theorem D8a(n:Nat):0<H3a n:=by
 induction n with
 | zero=>decide
 | succ n ih=>simp only[H3a];omega
theorem G8c(n m:Nat)(h:n≤m):H3a n≤H3a m:=by
 induction m with
 | zero=>simp at h;subst h;exact Int.le_refl _
 | succ m ih =>
   by_cases e:n=m+1
   ·subst e;exact Int.le_refl _
   ·have:=ih (by omega);have:=D8a m;simp only[H3a];omega
def y8a(op:Int):Int:=if 1≤op∧op≤3 then 0 else if op=4 then 1 else if 5≤op∧op≤13 then 2 else if op=14 then 3 else -1
theorem L1a(op:Int):(1≤op∧op≤3∧y8a op=0)∨(op=4∧y8a op=1)∨(5≤op∧op≤13∧y8a op=2)∨(op=14∧y8a op=3)∨((op<1∨14<op)∧y8a op=-1):=by
 unfold y8a;by_cases h1:1≤op∧op≤3
 ·rw[if_pos h1];omega
 ·rw[if_neg h1];by_cases h2:op=4
  ·rw[if_pos h2];omega
  ·rw[if_neg h2];by_cases h3:5≤op∧op≤13
   ·rw[if_pos h3];omega
   ·rw[if_neg h3];by_cases h4:op=14
    ·rw[if_pos h4];omega
    ·rw[if_neg h4];omega
def E.kw(e:E)(i:Nat):Int:=((e.kids[i]?).map E.w).getD 0
def E.Shape(e:E):Prop :=
 1≤e.w∧e.w≤8∧((e.op=1∧e.kids.length=0∧0≤e.n∧e.n<H3a e.w.toNat)∨((e.op=2∨e.op=3)∧e.kids.length=0∧0≤e.n∧e.n<32) ∨
  (e.op=4∧e.kids.length=1∧e.n=0∧e.kw 0=e.w)∨(5≤e.op∧e.op≤10∧e.kids.length=2∧e.n=0∧e.kw 0=e.w∧e.kw 1=e.w) ∨
  (11≤e.op∧e.op≤13∧e.kids.length=2∧e.n=0∧e.w=1∧e.kw 0=e.kw 1)∨(e.op=14∧e.kids.length=3∧e.n=0∧e.kw 0=1∧e.kw 1=e.w∧e.kw 2=e.w))
instance (e:E):Decidable e.Shape:=by unfold E.Shape;infer_instance
def E.shapeB(e:E):Bool:=decide e.Shape
theorem r9a{e:E}(h:e.Shape):Value.bool true=.bool e.shapeB:=by unfold E.shapeB;rw[decide_eq_true h]
theorem z6a{e:E}(h:¬e.Shape):Value.bool false=.bool e.shapeB:=by unfold E.shapeB;rw[decide_eq_false h]
theorem g4b{e:E}(h:e.op=1):e.Shape↔(1≤e.w∧e.w≤8∧e.kids.length=0∧0≤e.n∧e.n<H3a e.w.toNat):=by
 unfold E.Shape;constructor
 ·rintro⟨h1,h2,h3⟩;rcases h3 with h3|h3|h3|h3|h3|h3<;>first|exact⟨h1,h2,h3.2⟩|(exfalso;omega)
 ·rintro⟨h1,h2,h3⟩;exact⟨h1,h2,.inl ⟨h,h3⟩⟩
theorem y5a{e:E}(h:e.op=2∨e.op=3:=by omega):e.Shape↔(1≤e.w∧e.w≤8∧e.kids.length=0∧0≤e.n∧e.n<32):=by
 unfold E.Shape;constructor
 ·rintro⟨h1,h2,h3⟩;rcases h3 with h3|h3|h3|h3|h3|h3<;>first|exact⟨h1,h2,h3.2⟩|(exfalso;omega)
 ·rintro⟨h1,h2,h3⟩;exact⟨h1,h2,.inr (.inl ⟨h,h3⟩)⟩
theorem H7b{e:E}(h:e.op=4):e.Shape↔(1≤e.w∧e.w≤8∧e.kids.length=1∧e.n=0∧e.kw 0=e.w):=by
 unfold E.Shape;constructor
 ·rintro⟨h1,h2,h3⟩;rcases h3 with h3|h3|h3|h3|h3|h3<;>first|exact⟨h1,h2,h3.2⟩|(exfalso;omega)
 ·rintro⟨h1,h2,h3⟩;exact⟨h1,h2,.inr (.inr (.inl ⟨h,h3⟩))⟩
theorem e6a{e:E}(h:5≤e.op∧e.op≤10:=by omega):e.Shape↔(1≤e.w∧e.w≤8∧e.kids.length=2∧e.n=0∧e.kw 0=e.w∧e.kw 1=e.w):=by
 unfold E.Shape;constructor
 ·rintro⟨h1,h2,h3⟩;rcases h3 with h3|h3|h3|h3|h3|h3<;>first|exact⟨h1,h2,h3.2.2⟩|(exfalso;omega)
 ·rintro⟨h1,h2,h3⟩;exact⟨h1,h2,.inr (.inr (.inr (.inl ⟨h.1,h.2,h3⟩)))⟩
theorem Z6a{e:E}(h:11≤e.op∧e.op≤13:=by omega):e.Shape↔(e.kids.length=2∧e.n=0∧e.w=1∧e.kw 0=e.kw 1):=by
 unfold E.Shape;constructor
 ·rintro⟨_,_,h3⟩;rcases h3 with h3|h3|h3|h3|h3|h3<;>first|exact h3.2.2|(exfalso;omega)
 ·intro h3;exact⟨by omega,by omega,.inr (.inr (.inr (.inr (.inl ⟨h.1,h.2,h3⟩))))⟩
theorem P2b{e:E}(h:e.op=14):e.Shape↔(1≤e.w∧e.w≤8∧e.kids.length=3∧e.n=0∧e.kw 0=1∧e.kw 1=e.w∧e.kw 2=e.w):=by
 unfold E.Shape;constructor
 ·rintro⟨h1,h2,h3⟩;rcases h3 with h3|h3|h3|h3|h3|h3<;>first|exact⟨h1,h2,h3.2⟩|(exfalso;omega)
 ·rintro⟨h1,h2,h3⟩;exact⟨h1,h2,.inr (.inr (.inr (.inr (.inr ⟨h,h3⟩))))⟩
theorem I3a{e:E}(h:e.Shape):1≤e.w∧e.w≤8∧y8a e.op=e.kids.length∧1≤e.op∧e.op≤14:=by
 have ha:=L1a e.op;obtain⟨h1,h2,h3⟩:=h;refine⟨h1,h2,?_⟩;rcases h3 with⟨h4,h5,_⟩|⟨h4,h5,_⟩|⟨h4,h5,_⟩|⟨h4,a0,h5,_⟩|⟨h4,a0,h5,_⟩|⟨h4,h5,_⟩<;>omega
theorem SN{e:E}(h:¬(1≤e.w∧e.w≤8∧y8a e.op=e.kids.length∧1≤e.op∧e.op≤14):=by omega):Value.bool false=.bool e.shapeB:=z6a (fun x=>h (I3a x))
theorem ST1{e:E}(h:e.op=1:=by omega)(g:1≤e.w∧e.w≤8∧e.kids.length=0∧0≤e.n∧e.n<H3a e.w.toNat:=by omega):Value.bool true=.bool e.shapeB:=r9a ((g4b h).2 g)
theorem SF1{e:E}(h:e.op=1:=by omega)(g:¬(1≤e.w∧e.w≤8∧e.kids.length=0∧0≤e.n∧e.n<H3a e.w.toNat):=by omega):Value.bool false=.bool e.shapeB:=z6a (fun x=>g ((g4b h).1 x))
theorem ST2{e:E}(h:e.op=2∨e.op=3:=by omega)(g:1≤e.w∧e.w≤8∧e.kids.length=0∧0≤e.n∧e.n<32:=by omega):Value.bool true=.bool e.shapeB:=r9a ((y5a (h:=h)).2 g)
theorem SF2{e:E}(h:e.op=2∨e.op=3:=by omega)(g:¬(1≤e.w∧e.w≤8∧e.kids.length=0∧0≤e.n∧e.n<32):=by omega):Value.bool false=.bool e.shapeB:=z6a (fun x=>g ((y5a (h:=h)).1 x))
theorem ST4{e:E}(g:1≤e.w∧e.w≤8∧e.kids.length=1∧e.n=0∧e.kw 0=e.w)(h:e.op=4:=by omega):Value.bool true=.bool e.shapeB:=r9a ((H7b h).2 g)
theorem SF4{e:E}(h:e.op=4:=by omega)(g:¬(1≤e.w∧e.w≤8∧e.kids.length=1∧e.n=0∧e.kw 0=e.w):=by omega):Value.bool false=.bool e.shapeB:=z6a (fun x=>g ((H7b h).1 x))
theorem ST5{e:E}(g:1≤e.w∧e.w≤8∧e.kids.length=2∧e.n=0∧e.kw 0=e.w∧e.kw 1=e.w)(h:5≤e.op∧e.op≤10:=by omega):Value.bool true=.bool e.shapeB:=r9a ((e6a (h:=h)).2 g)
theorem SF5{e:E}(g:¬(1≤e.w∧e.w≤8∧e.kids.length=2∧e.n=0∧e.kw 0=e.w∧e.kw 1=e.w))(h:5≤e.op∧e.op≤10:=by omega):Value.bool false=.bool e.shapeB:=z6a (fun x=>g ((e6a (h:=h)).1 x))
theorem C1d{e:E}(h:11≤e.op∧e.op≤13:=by omega)(g:e.kids.length=2∧e.n=0∧e.w=1∧e.kw 0=e.kw 1:=by omega):Value.bool true=.bool e.shapeB:=r9a ((Z6a (h:=h)).2 g)
theorem n4b{e:E}(h:11≤e.op∧e.op≤13:=by omega)(g:¬(e.kids.length=2∧e.n=0∧e.w=1∧e.kw 0=e.kw 1):=by omega):Value.bool false=.bool e.shapeB:=z6a (fun x=>g ((Z6a (h:=h)).1 x))
theorem i5d{e:E}(g:1≤e.w∧e.w≤8∧e.kids.length=3∧e.n=0∧e.kw 0=1∧e.kw 1=e.w∧e.kw 2=e.w)(h:e.op=14:=by omega):Value.bool true=.bool e.shapeB:=r9a ((P2b h).2 g)
theorem T2d{e:E}(h:e.op=14:=by omega)(g:¬(1≤e.w∧e.w≤8∧e.kids.length=3∧e.n=0∧e.kw 0=1∧e.kw 1=e.w∧e.kw 2=e.w):=by omega):Value.bool false=.bool e.shapeB:=z6a (fun x=>g ((P2b h).1 x))
theorem w1a{M:List Nat}{w:World}{e:E}{b o:Nat}(b0:∀(i:Nat) (h:i<e.kids.length),∃a0,Cells w b (o+i*4) a0∧RdE M w e.kids[i] a0)(i:Nat)(hi:i<e.kids.length):
 w.cell? ⟨b,o+i*4+1,none⟩=some (.int .i64 (e.kw i)):=by
 obtain⟨a0,hc,hr⟩:=b0 i hi;obtain⟨_,_,_,rfl,_⟩:=hr.open_;have:=hc 1 _ Z;rw[this];simp[E.kw,hi]
mutual
def E.good:E→Int→Bool
 | ⟨op,w,n,ks⟩,lim=>decide (1≤lim)&&E.shapeB ⟨op,w,n,ks⟩&&E.goods ks (lim-1)
def E.goods:List E→Int→Bool
 | [],_=>true
 | k::ks,lim=>E.good k lim&&E.goods ks lim
end
theorem E.good_def(e:E)(a0:Int):e.good a0=(decide (1≤a0)&&e.shapeB&&E.goods e.kids (a0-1)):=by cases e;simp only[E.good]
theorem E.goods_iff(ks:List E)(a0:Int):E.goods ks a0=true↔∀k∈ks,k.good a0=true:=by
 induction ks with
 | nil=>simp[E.goods]
 | cons k ks ih=>simp[E.goods,ih]
def E.wf(e:E):Bool:=decide (e.cnt≤600)&&e.good 40
structure g1a where
 name:ByteArray
 w:Int
 init:Int
 thread:Int
 ghost:Bool
 module_:Int
def P2a(cs:LV)(c:g1a):Prop:=cs=[.string c.name,.int .i64 c.w,.int .i64 c.init,.int .i64 c.thread,.bool c.ghost,.int .i64 c.module_]∧i64 c.w∧i64 c.init∧i64 c.thread∧i64 c.module_
abbrev i0b(M:List Nat)(w:World)(v:Value)(l:List g1a):Prop:=RdS M w 6 P2a v l
def wAt(cells:List g1a)(n:Int):Int:=if 0≤n then((cells[n.toNat]?).map g1a.w).getD (-1) else -1
def E.OverN(e:E)(cells:List g1a)(pair:Bool):Prop :=
 (e.op=3→pair=true)∧((e.op=3∨e.op=2)→e.n<cells.length∧wAt cells e.n=e.w)
instance (e:E) (cells:List g1a) (pair:Bool):Decidable (e.OverN cells pair):=by unfold E.OverN;infer_instance
mutual
def E.over(cells:List g1a)(pair:Bool):E→Bool
 | ⟨op,w,n,ks⟩=>decide (E.OverN ⟨op,w,n,ks⟩ cells pair)&&E.overs cells pair ks
def E.overs(cells:List g1a)(pair:Bool):List E→Bool
 | []=>true
 | k::ks=>E.over cells pair k&&E.overs cells pair ks
end
theorem E.over_def(cells:List g1a)(a0:Bool)(e:E):e.over cells a0=(decide (e.OverN cells a0)&&E.overs cells a0 e.kids):=by cases e;simp only[E.over]
theorem E.overs_iff(cells:List g1a)(a0:Bool)(ks:List E):E.overs cells a0 ks=true↔∀k∈ks,k.over cells a0=true:=by
 induction ks with
 | nil=>simp[E.overs]
 | cons k ks ih=>simp[E.overs,ih]
def E.valid(cells:List g1a)(pair:Bool)(e:E):Bool:=e.wf&&e.over cells pair
section
variable {α:Type}
theorem RdS.keepW{M:List Nat}{w w':World}{size:Nat}{R R':LV→α→Prop}{v:Value}{l:List α}(h:RdS M w size R v l)(hk:x0a M w w')(hR:∀cs x,R cs x→R' cs x):RdS M w' size R' v l:=(h.keep hk).mono hR
theorem RdS.lessW{M M':List Nat}{w:World}{size:Nat}{R R':LV→α→Prop}{v:Value}{l:List α}(h:RdS M w size R v l)(hM:∀g∈M',g∈M)(hR:∀cs x,R cs x→R' cs x):RdS M' w size R' v l:=(h.less hM).mono hR
theorem RdS.moreW{M M':List Nat}{w:World}{size:Nat}{R R':LV→α→Prop}{v:Value}{l:List α}(h:RdS M w size R v l)(hs:0<size)(hM:∀g∈M',g∈M∨w.heap.size≤g)(hR:∀cs x,R cs x→R' cs x):RdS M' w size R' v l:=(h.more hs hM).mono hR
end
structure o3a where
 cell:Int
 to:E
structure i2a where
 kind:Int
 frm:Int
 to:Int
 guard:E
 set:List o3a
 release:Bool
 target:Int
 module_:Int
structure C6b where
 head:Int
 body:List Int
 variant:E
structure D1a where
 name:ByteArray
 points:Int
 asserts:List E
 modules:List Int
 steps:List i2a
 loops:List C6b
 asleep:Bool
structure k2a where
 name:ByteArray
 owner:ByteArray
 rely:E
 guar:E
 frame:List Int
structure I5b where
 cell:Int
 inv:E
 module_:Int
structure m0a where
 cells:List g1a
 modules:List k2a
 locks:List I5b
 threads:List D1a
abbrev D1d(M:List Nat)(w:World)(v:Value)(l:List E):Prop:=RdS M w 4 (fun cs e=>RdE M w e cs) v l
def V0a(M:List Nat)(w:World)(cs:LV)(a:o3a):Prop:=∃ce,cs=.int .i64 a.cell::ce∧i64 a.cell∧RdE M w a.to ce
abbrev d9c(M:List Nat)(w:World)(v:Value)(l:List o3a):Prop:=RdS M w 5 (V0a M w) v l
def n2a(M:List Nat)(w:World)(cs:LV)(s:i2a):Prop:=∃g0 g1 g2 g3 vs,cs=[.int .i64 s.kind,.int .i64 s.frm,.int .i64 s.to,g0,g1,g2,g3,vs,.bool s.release,.int .i64 s.target,.int .i64 s.module_] ∧
 i64 s.kind∧i64 s.frm∧i64 s.to∧i64 s.target∧i64 s.module_∧RdE M w s.guard [g0,g1,g2,g3]∧d9c M w vs s.set
abbrev a2d(M:List Nat)(w:World)(v:Value)(l:List i2a):Prop:=RdS M w 11 (n2a M w) v l
def H5a(M:List Nat)(w:World)(cs:LV)(l:C6b):Prop:=∃vb g0 g1 g2 g3,cs=[.int .i64 l.head,vb,g0,g1,g2,g3]∧i64 l.head∧RdI M w vb l.body∧RdE M w l.variant [g0,g1,g2,g3]
abbrev x4d(M:List Nat)(w:World)(v:Value)(l:List C6b):Prop:=RdS M w 6 (H5a M w) v l
def Z0a(M:List Nat)(w:World)(cs:LV)(t:D1a):Prop:=∃va vm vs vl,cs=[.string t.name,.int .i64 t.points,va,vm,vs,vl,.bool t.asleep]∧i64 t.points ∧
 D1d M w va t.asserts∧RdI M w vm t.modules∧a2d M w vs t.steps∧x4d M w vl t.loops
abbrev X4d(M:List Nat)(w:World)(v:Value)(l:List D1a):Prop:=RdS M w 7 (Z0a M w) v l
def f1a(M:List Nat)(w:World)(cs:LV)(c:k2a):Prop:=∃g0 g1 g2 g3 k0 k1 k2 k3 vf,cs=[.string c.name,.string c.owner,g0,g1,g2,g3,k0,k1,k2,k3,vf] ∧
 RdE M w c.rely [g0,g1,g2,g3]∧RdE M w c.guar [k0,k1,k2,k3]∧RdI M w vf c.frame
abbrev L4d(M:List Nat)(w:World)(v:Value)(l:List k2a):Prop:=RdS M w 11 (f1a M w) v l
def X5a(M:List Nat)(w:World)(cs:LV)(l:I5b):Prop:=∃g0 g1 g2 g3,cs=[.int .i64 l.cell,g0,g1,g2,g3,.int .i64 l.module_]∧i64 l.cell∧i64 l.module_∧RdE M w l.inv [g0,g1,g2,g3]
abbrev u4d(M:List Nat)(w:World)(v:Value)(l:List I5b):Prop:=RdS M w 6 (X5a M w) v l
def e1a(M:List Nat)(w:World)(p:m0a)(cs:LV):Prop:=∃vc vm vl vt,cs=[vc,vm,vl,vt]∧i0b M w vc p.cells∧L4d M w vm p.modules∧u4d M w vl p.locks∧X4d M w vt p.threads
section
variable {M M':List Nat} {w w':World}
theorem V0a.keep(hk:x0a M w w'):∀cs a,V0a M w cs a→V0a M w' cs a:=fun _ _ ⟨ce,h1,h2,h3⟩=>⟨ce,h1,h2,RdE.keep hk _ _ h3⟩
theorem n2a.keep(hk:x0a M w w'):∀cs s,n2a M w cs s→n2a M w' cs s:=fun _ _ ⟨g0,g1,g2,g3,vs,h1,h2,h3,h4,h5,h6,h7,h8⟩=>⟨g0,g1,g2,g3,vs,h1,h2,h3,h4,h5,h6,RdE.keep hk _ _ h7,RdS.keepW h8 hk (V0a.keep hk)⟩
theorem H5a.keep(hk:x0a M w w'):∀cs s,H5a M w cs s→H5a M w' cs s:=fun _ _ ⟨vb,g0,g1,g2,g3,h1,h2,h3,h4⟩=>⟨vb,g0,g1,g2,g3,h1,h2,h3.keep hk,RdE.keep hk _ _ h4⟩
theorem Z0a.keep(hk:x0a M w w'):∀cs s,Z0a M w cs s→Z0a M w' cs s:=fun _ _ ⟨va,vm,vs,vl,h1,h2,h3,h4,h5,h6⟩=>⟨va,vm,vs,vl,h1,h2,RdS.keepW h3 hk (fun _ _=>RdE.keep hk _ _),h4.keep hk,RdS.keepW h5 hk (n2a.keep hk),RdS.keepW h6 hk (H5a.keep hk)⟩
theorem f1a.keep(hk:x0a M w w'):∀cs s,f1a M w cs s→f1a M w' cs s:=fun _ _ ⟨g0,g1,g2,g3,k0,k1,k2,k3,vf,h1,h2,h3,h4⟩=>⟨g0,g1,g2,g3,k0,k1,k2,k3,vf,h1,RdE.keep hk _ _ h2,RdE.keep hk _ _ h3,h4.keep hk⟩
theorem X5a.keep(hk:x0a M w w'):∀cs s,X5a M w cs s→X5a M w' cs s:=fun _ _ ⟨g0,g1,g2,g3,h1,h2,h3,h4⟩=>⟨g0,g1,g2,g3,h1,h2,h3,RdE.keep hk _ _ h4⟩
theorem e1a.keep(hk:x0a M w w'){p:m0a}{cs:LV}:e1a M w p cs→e1a M w' p cs:=fun⟨vc,vm,vl,vt,h1,h2,h3,h4,h5⟩=>⟨vc,vm,vl,vt,h1,h2.keep hk,RdS.keepW h3 hk (f1a.keep hk),RdS.keepW h4 hk (X5a.keep hk),RdS.keepW h5 hk (Z0a.keep hk)⟩
theorem V0a.less(hk:∀g∈M',g∈M):∀cs a,V0a M w cs a→V0a M' w cs a:=fun _ _ ⟨ce,h1,h2,h3⟩=>⟨ce,h1,h2,RdE.less hk _ _ h3⟩
theorem n2a.less(hk:∀g∈M',g∈M):∀cs s,n2a M w cs s→n2a M' w cs s:=fun _ _ ⟨g0,g1,g2,g3,vs,h1,h2,h3,h4,h5,h6,h7,h8⟩=>⟨g0,g1,g2,g3,vs,h1,h2,h3,h4,h5,h6,RdE.less hk _ _ h7,RdS.lessW h8 hk (V0a.less hk)⟩
theorem H5a.less(hk:∀g∈M',g∈M):∀cs s,H5a M w cs s→H5a M' w cs s:=fun _ _ ⟨vb,g0,g1,g2,g3,h1,h2,h3,h4⟩=>⟨vb,g0,g1,g2,g3,h1,h2,h3.less hk,RdE.less hk _ _ h4⟩
theorem Z0a.less(hk:∀g∈M',g∈M):∀cs s,Z0a M w cs s→Z0a M' w cs s:=fun _ _ ⟨va,vm,vs,vl,h1,h2,h3,h4,h5,h6⟩=>⟨va,vm,vs,vl,h1,h2,RdS.lessW h3 hk (fun _ _=>RdE.less hk _ _),h4.less hk,RdS.lessW h5 hk (n2a.less hk),RdS.lessW h6 hk (H5a.less hk)⟩
theorem f1a.less(hk:∀g∈M',g∈M):∀cs s,f1a M w cs s→f1a M' w cs s:=fun _ _ ⟨g0,g1,g2,g3,k0,k1,k2,k3,vf,h1,h2,h3,h4⟩=>⟨g0,g1,g2,g3,k0,k1,k2,k3,vf,h1,RdE.less hk _ _ h2,RdE.less hk _ _ h3,h4.less hk⟩
theorem X5a.less(hk:∀g∈M',g∈M):∀cs s,X5a M w cs s→X5a M' w cs s:=fun _ _ ⟨g0,g1,g2,g3,h1,h2,h3,h4⟩=>⟨g0,g1,g2,g3,h1,h2,h3,RdE.less hk _ _ h4⟩
theorem e1a.less(hk:∀g∈M',g∈M){p:m0a}{cs:LV}:e1a M w p cs→e1a M' w p cs:=fun⟨vc,vm,vl,vt,h1,h2,h3,h4,h5⟩=>⟨vc,vm,vl,vt,h1,h2.less hk,RdS.lessW h3 hk (f1a.less hk),RdS.lessW h4 hk (X5a.less hk),RdS.lessW h5 hk (Z0a.less hk)⟩
theorem V0a.more(hk:∀g∈M',g∈M∨w.heap.size≤g):∀cs a,V0a M w cs a→V0a M' w cs a:=fun _ _ ⟨ce,h1,h2,h3⟩=>⟨ce,h1,h2,RdE.more hk _ _ h3⟩
theorem n2a.more(hk:∀g∈M',g∈M∨w.heap.size≤g):∀cs s,n2a M w cs s→n2a M' w cs s:=fun _ _ ⟨g0,g1,g2,g3,vs,h1,h2,h3,h4,h5,h6,h7,h8⟩=>⟨g0,g1,g2,g3,vs,h1,h2,h3,h4,h5,h6,RdE.more hk _ _ h7,RdS.moreW h8 (by omega) hk (V0a.more hk)⟩
theorem H5a.more(hk:∀g∈M',g∈M∨w.heap.size≤g):∀cs s,H5a M w cs s→H5a M' w cs s:=fun _ _ ⟨vb,g0,g1,g2,g3,h1,h2,h3,h4⟩=>⟨vb,g0,g1,g2,g3,h1,h2,h3.more (by omega) hk,RdE.more hk _ _ h4⟩
theorem Z0a.more(hk:∀g∈M',g∈M∨w.heap.size≤g):∀cs s,Z0a M w cs s→Z0a M' w cs s:=fun _ _ ⟨va,vm,vs,vl,h1,h2,h3,h4,h5,h6⟩=>⟨va,vm,vs,vl,h1,h2,RdS.moreW h3 (by omega) hk (fun _ _=>RdE.more hk _ _),h4.more (by omega) hk,RdS.moreW h5 (by omega) hk (n2a.more hk),RdS.moreW h6 (by omega) hk (H5a.more hk)⟩
theorem f1a.more(hk:∀g∈M',g∈M∨w.heap.size≤g):∀cs s,f1a M w cs s→f1a M' w cs s:=fun _ _ ⟨g0,g1,g2,g3,k0,k1,k2,k3,vf,h1,h2,h3,h4⟩=>⟨g0,g1,g2,g3,k0,k1,k2,k3,vf,h1,RdE.more hk _ _ h2,RdE.more hk _ _ h3,h4.more (by omega) hk⟩
theorem X5a.more(hk:∀g∈M',g∈M∨w.heap.size≤g):∀cs s,X5a M w cs s→X5a M' w cs s:=fun _ _ ⟨g0,g1,g2,g3,h1,h2,h3,h4⟩=>⟨g0,g1,g2,g3,h1,h2,h3,RdE.more hk _ _ h4⟩
theorem e1a.more(hk:∀g∈M',g∈M∨w.heap.size≤g){p:m0a}{cs:LV}:e1a M w p cs→e1a M' w p cs:=fun⟨vc,vm,vl,vt,h1,h2,h3,h4,h5⟩=>⟨vc,vm,vl,vt,h1,h2.more (by omega) hk,RdS.moreW h3 (by omega) hk (f1a.more hk),RdS.moreW h4 (by omega) hk (X5a.more hk),RdS.moreW h5 (by omega) hk (Z0a.more hk)⟩
end
structure E1a where
 cells:List Int
 values:List Int
  deriving DecidableEq
structure J2a where
 mem:List Int
 at_:List Int
 buf:List (List E1a)
  deriving DecidableEq
structure b4a where
 thread:Int
 step:Int
 cell:Int
  deriving DecidableEq
def O2a(M:List Nat)(w:World)(cs:LV)(e:E1a):Prop:=∃vc vv,cs=[vc,vv]∧RdI M w vc e.cells∧RdI M w vv e.values
abbrev w4d(M:List Nat)(w:World)(v:Value)(l:List E1a):Prop:=RdS M w 2 (O2a M w) v l
def q6b(M:List Nat)(w:World)(cs:LV)(l:List E1a):Prop:=∃v,cs=[v]∧w4d M w v l
abbrev b5d(M:List Nat)(w:World)(v:Value)(l:List (List E1a)):Prop:=RdS M w 1 (q6b M w) v l
def F2a(M:List Nat)(w:World)(c:J2a)(cs:LV):Prop:=∃vm va vb,cs=[vm,va,vb]∧RdI M w vm c.mem∧RdI M w va c.at_∧b5d M w vb c.buf
def Q0c(cs:LV)(c:b4a):Prop:=cs=[.int .i64 c.thread,.int .i64 c.step,.int .i64 c.cell]∧i64 c.thread∧i64 c.step∧i64 c.cell
section
variable {M M':List Nat} {w w':World}
theorem O2a.keep(hk:x0a M w w'):∀cs a,O2a M w cs a→O2a M w' cs a:=fun _ _ ⟨vc,vv,h1,h2,h3⟩=>⟨vc,vv,h1,h2.keep hk,h3.keep hk⟩
theorem q6b.keep(hk:x0a M w w'):∀cs a,q6b M w cs a→q6b M w' cs a:=fun _ _ ⟨v,h1,h2⟩=>⟨v,h1,RdS.keepW h2 hk (O2a.keep hk)⟩
theorem F2a.keep(hk:x0a M w w'){c:J2a}{cs:LV}:F2a M w c cs→F2a M w' c cs:=fun⟨vm,va,vb,h1,h2,h3,h4⟩=>⟨vm,va,vb,h1,h2.keep hk,h3.keep hk,RdS.keepW h4 hk (q6b.keep hk)⟩
theorem O2a.less(hk:∀g∈M',g∈M):∀cs a,O2a M w cs a→O2a M' w cs a:=fun _ _ ⟨vc,vv,h1,h2,h3⟩=>⟨vc,vv,h1,h2.less hk,h3.less hk⟩
theorem q6b.less(hk:∀g∈M',g∈M):∀cs a,q6b M w cs a→q6b M' w cs a:=fun _ _ ⟨v,h1,h2⟩=>⟨v,h1,RdS.lessW h2 hk (O2a.less hk)⟩
theorem F2a.less(hk:∀g∈M',g∈M){c:J2a}{cs:LV}:F2a M w c cs→F2a M' w c cs:=fun⟨vm,va,vb,h1,h2,h3,h4⟩=>⟨vm,va,vb,h1,h2.less hk,h3.less hk,RdS.lessW h4 hk (q6b.less hk)⟩
theorem O2a.more(hk:∀g∈M',g∈M∨w.heap.size≤g):∀cs a,O2a M w cs a→O2a M' w cs a:=fun _ _ ⟨vc,vv,h1,h2,h3⟩=>⟨vc,vv,h1,h2.more (by omega) hk,h3.more (by omega) hk⟩
theorem q6b.more(hk:∀g∈M',g∈M∨w.heap.size≤g):∀cs a,q6b M w cs a→q6b M' w cs a:=fun _ _ ⟨v,h1,h2⟩=>⟨v,h1,RdS.moreW h2 (by omega) hk (O2a.more hk)⟩
theorem F2a.more(hk:∀g∈M',g∈M∨w.heap.size≤g){c:J2a}{cs:LV}:F2a M w c cs→F2a M' w c cs:=fun⟨vm,va,vb,h1,h2,h3,h4⟩=>⟨vm,va,vb,h1,h2.more (by omega) hk,h3.more (by omega) hk,RdS.moreW h4 (by omega) hk (q6b.more hk)⟩
end
end Go.Fw
