/- -/
import Derived.Test.YtbmaaecppfdjfaaGreatDoorFns
namespace Sg
open Go
set_option linter.unusedVariables false
instance (r:Int):Decidable (I64 r):=inferInstanceAs (Decidable (_∧_))
instance (r:Int):Decidable (U64 r):=inferInstanceAs (Decidable (_∧_))
def Sn {R:Type} (K:R→Prop) (o:Option R) (P:Prop):Prop:=∀r,o=some r→K r→P
def loopEv {R:Type} (n:Nat) (S:Type) (b:S→(S→Option R)→Option R):S→Option R:=
 match n with
 | 0=>fun _=>none
 | n+1=>fun s=>b s (loopEv n S b)
def bothEv {R:Type} [DecidableEq R] (a b:Option R):Option R:=if a=b then a else none
section
variable {R T:Type} {K:R→Prop}
theorem Sn.both [DecidableEq R] {a b:Option R} {P Q:Prop} (h:Sn K a P) (k:Sn K b Q):Sn K (bothEv a b) (P∧Q):=fun r hr hk=>by
 unfold bothEv at hr
 split at hr
 ·rename_i e;exact⟨h r hr hk,k r (e▸hr) hk⟩
 ·cases hr
theorem Sn.none {P:Prop}:Sn K none P:=fun r h=>nomatch h
theorem Sn.ret {v:R}:Sn K (some v) (K v):=fun r h k=>by cases h;exact k
theorem Sn.ite {c:Prop} [Decidable c] {a b:Option R} {P Q:Prop} (h:Sn K a P) (k:Sn K b Q):Sn K (if c then a else b) (if c then P else Q):=by
 split
 ·exact h
 ·exact k
theorem Sn.and {c:Prop} [Decidable c] {a:Option R} {P:Prop} (h:Sn K a P):Sn K (if c then a else Option.none) (c∧P):=by
 split
 ·rename_i hc;exact fun r hr hk=>⟨hc,h r hr hk⟩
 ·exact fun r hr=>nomatch hr
def bE {α:Type} (i n:Int) (o:Option α):Option α:=if 0≤i then (if i<n then o else Option.none) else Option.none
theorem Sn.bd {i n:Int} {a:Option R} {P:Prop} (h:Sn K a P):Sn K (bE i n a) (0≤i∧i<n∧P):=Sn.and (Sn.and h)
theorem Sn.imp {c:Prop} {a:Option R} {P:Prop} (h:Sn K a P):Sn K a (c→P):=fun r hr hk _=>h r hr hk
theorem Sn.bind {o:Option T} {g:T→Option R} {P:Prop} {K':T→Prop} (h:Sn K' o P) (hg:∀t,Sn K (g t) (K' t)):Sn K (o.bind g) P:=fun r hr hk=>by
 cases o with
 | none=>cases hr
 | some t=>exact h t rfl (hg t r hr hk)
theorem Sn.elim {e:Option T} {a:Option R} {b:T→Option R} {P:Prop} {Q:T→Prop} (h:Sn K a P) (k:∀t,Sn K (b t) (Q t)):Sn K (Option.elim e a b) (Option.elim e P Q):=by
 cases e with
 | none=>exact h
 | some t=>exact k t
theorem Sn.loop {n:Nat} {S:Type} {be:S→(S→Option R)→Option R} {b:S→(S→Prop)→Prop} {s:S} (h:∀s Xe X,(∀s,Sn K (Xe s) (X s))→Sn K (be s Xe) (b s X)):Sn K (loopEv n S be s) (LoopWP b s):=by
 intro r hr hk X hX
 have key:∀n s r,loopEv n S be s=some r→K r→X s:=by
  intro n
  induction n with
  | zero=>intro s r hr;cases hr
  | succ n ih=>exact fun s r hr hk=>hX s (h s (loopEv n S be) X ih r hr hk)
 exact key n s r hr hk
end
end Sg
