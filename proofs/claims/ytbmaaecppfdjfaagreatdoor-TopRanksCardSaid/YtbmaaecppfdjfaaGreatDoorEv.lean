/- -/
import Derived.Test.YtbmaaecppfdjfaaGreatDoorEvK
namespace Sg
open Go
set_option linter.unusedVariables false
set_option maxRecDepth 100000
def Qag (u_ : Nat) (x : Int) : Option (Expr) :=
 (some (((⟨3, x, ([] : List Expr)⟩ : Expr))))
theorem Qax {u_ : Nat} {x : Int} {K : Expr → Prop}  : Sn K (Qag u_ x) (J4V x K) := by
 unfold Qag J4V
 exact Sn.ret
def Qan (u_ : Nat) (op : Int) (kids : List Expr) : Option (Expr) :=
 (some (((⟨op, 0, kids⟩ : Expr))))
theorem Qds {u_ : Nat} {op : Int} {kids : List Expr} {K : Expr → Prop}  : Sn K (Qan u_ op kids) (J9Q op kids K) := by
 unfold Qan J9Q
 exact Sn.ret
def Qay (u_ : Nat) (e : Expr) (b : Nat) (c : Nat) (a : Nat) (d : Int) (X3 : Nat → Int → Option (Bool)) (X4 : Nat → Option (Bool)) (f : Nat) : Option (Bool) :=
 (if (f : Int) < (((ix ((ix ((ix e.Kids b).Kids) (c : Int)).Kids) (a : Int)).Kids).length : Int) then Option.none else (X3 (a + 1) ((d - 1))))
theorem Qeh {u_ : Nat} {e : Expr} {a : Nat} {b : Nat} {c : Nat} {d : Int} {g : Nat → Int → Option (Bool)} {X3 : Nat → Int → Prop} {K : Bool → Prop} {h : Nat → Option (Bool)} {X4 : Nat → Prop} {f : Nat} (i : ∀ v0 v1, Sn K (g v0 v1) (X3 v0 v1)) (hX4 : ∀ v0, Sn K (h v0) (X4 v0)) : Sn K (Qay u_ e a b c d g h f) (J3r e a b c d X3 K X4 f) := by
 unfold Qay J3r
 exact (Sn.ite Sn.none (i _ _))
def Qaz (u_ : Nat) (e : Expr) (c : Nat) (a : Nat) (X2 : Nat → Int → Option (Bool)) (X3 : Nat → Int → Option (Bool)) (d : Nat) (b : Int) : Option (Bool) :=
 (if (d : Int) < (((ix ((ix e.Kids c).Kids) (a : Int)).Kids).length : Int) then (bE d (((ix ((ix e.Kids c).Kids) (a : Int)).Kids).length : Int) (if I64 ((((40 : Int) - 1) - 1) - 1) then (if ((((40 : Int) - 1) - 1) - 1) = (0 : Int) then Option.none else (if b = (0 : Int) then Option.none else (if I64 (b - 1) then (loopEv u_ (S := Nat) (fun s X => Qay u_ e c a d b X3 X s) 0) else Option.none))) else Option.none)) else (X2 (a + 1) b))
theorem Qei {u_ : Nat} {e : Expr} {a : Nat} {b : Nat} {f : Nat → Int → Option (Bool)} {X2 : Nat → Int → Prop} {K : Bool → Prop} {g : Nat → Int → Option (Bool)} {X3 : Nat → Int → Prop} {c : Nat} {d : Int} (h : ∀ v0 v1, Sn K (f v0 v1) (X2 v0 v1)) (i : ∀ v0 v1, Sn K (g v0 v1) (X3 v0 v1)) : Sn K (Qaz u_ e a b f g c d) (J3k e a b X2 K X3 c d) := by
 unfold Qaz J3k
 exact (Sn.ite (Sn.bd (Sn.and (Sn.ite Sn.none (Sn.ite Sn.none (Sn.and (Sn.imp (Sn.loop fun s Xe X hX => Qeh i (fun _ => hX _)))))))) (h _ _))
def Qba (u_ : Nat) (e : Expr) (a : Nat) (X1 : Nat → Int → Option (Bool)) (X2 : Nat → Int → Option (Bool)) (c : Nat) (b : Int) : Option (Bool) :=
 (if (c : Int) < (((ix e.Kids a).Kids).length : Int) then (bE c (((ix e.Kids a).Kids).length : Int) (if I64 (((40 : Int) - 1) - 1) then (if (((40 : Int) - 1) - 1) = (0 : Int) then Option.none else (if b = (0 : Int) then Option.none else (if I64 (b - 1) then (loopEv u_ (S := Nat × Int) (fun s X => Qaz u_ e a c X2 (fun d f => X (d, f)) s.1 s.2) (0, (b - 1))) else Option.none))) else Option.none)) else (X1 (a + 1) b))
theorem Qej {u_ : Nat} {e : Expr} {a : Nat} {d : Nat → Int → Option (Bool)} {X1 : Nat → Int → Prop} {K : Bool → Prop} {f : Nat → Int → Option (Bool)} {X2 : Nat → Int → Prop} {b : Nat} {c : Int} (g : ∀ v0 v1, Sn K (d v0 v1) (X1 v0 v1)) (h : ∀ v0 v1, Sn K (f v0 v1) (X2 v0 v1)) : Sn K (Qba u_ e a d f b c) (J3q e a X1 K X2 b c) := by
 unfold Qba J3q
 exact (Sn.ite (Sn.bd (Sn.and (Sn.ite Sn.none (Sn.ite Sn.none (Sn.and (Sn.imp (Sn.loop fun s Xe X hX => Qei h (fun _ _ => hX _)))))))) (g _ _))
def Qbb (u_ : Nat) (e : Expr) (X1 : Nat → Int → Option (Bool)) (a : Nat) (b : Int) : Option (Bool) :=
 (if (a : Int) < e.Kids.length then (bE a e.Kids.length (if I64 ((40 : Int) - 1) then (if ((40 : Int) - 1) = (0 : Int) then Option.none else (if b = (0 : Int) then Option.none else (if I64 (b - 1) then (loopEv u_ (S := Nat × Int) (fun s X => Qba u_ e a X1 (fun c d => X (c, d)) s.1 s.2) (0, (b - 1))) else Option.none))) else Option.none)) else (some (true)))
theorem Qek {u_ : Nat} {e : Expr} {K : Bool → Prop} {c : Nat → Int → Option (Bool)} {X1 : Nat → Int → Prop} {a : Nat} {b : Int} (d : ∀ v0 v1, Sn K (c v0 v1) (X1 v0 v1)) : Sn K (Qbb u_ e c a b) (J3h e K X1 a b) := by
 unfold Qbb J3h
 exact (Sn.ite (Sn.bd (Sn.and (Sn.ite Sn.none (Sn.ite Sn.none (Sn.and (Sn.imp (Sn.loop fun s Xe X hX => Qej d (fun _ _ => hX _)))))))) Sn.ret)
def Qbc (u_ : Nat) (e : Expr) : Option (Bool) :=
 (if I64 ((400 : Int) - 1) then (loopEv u_ (S := Nat × Int) (fun s X => Qbb u_ e (fun a b => X (a, b)) s.1 s.2) (0, ((400 : Int) - 1))) else Option.none)
theorem Qel {u_ : Nat} {e : Expr} {K : Bool → Prop}  : Sn K (Qbc u_ e) (J23 e K) := by
 unfold Qbc J23
 exact (Sn.and (Sn.imp (Sn.loop fun s Xe X hX => Qek (fun _ _ => hX _))))
def Qbd (u_ : Nat) (e : Expr) (letters : Int) (XR : Expr → Int → Option (Bool)) (X1 : Nat → Option (Bool)) (a : Nat) : Option (Bool) :=
 (if (a : Int) < e.Kids.length then (bE a e.Kids.length ((XR ((⟨((ix e.Kids a).Op), ((ix e.Kids a).Letter), (ix e.Kids a).Kids⟩ : Expr)) letters).bind fun b => (if b = true then (X1 (a + 1)) else Option.none))) else (some (true)))
theorem Qem {u_ : Nat} {e : Expr} {letters : Int} {XRe : Expr → Int → Option (Bool)} {XR : Expr → Int → (Bool → Prop) → Prop} {K : Bool → Prop} {b : Nat → Option (Bool)} {X1 : Nat → Prop} {a : Nat} (hXR : ∀ v0 v1 (k : Bool → Prop), Sn k (XRe v0 v1) (XR v0 v1 k)) (c : ∀ v0, Sn K (b v0) (X1 v0)) : Sn K (Qbd u_ e letters XRe b a) (J4t e letters XR K X1 a) := by
 unfold Qbd J4t
 exact (Sn.ite (Sn.bd (Sn.bind (hXR _ _ _) fun _ => (Sn.ite (c _) Sn.none))) Sn.ret)
def Qbe (u_ : Nat) (e : Expr) (letters : Int) (XR : Expr → Int → Option (Bool)) (X2 : Nat → Option (Bool)) (a : Nat) : Option (Bool) :=
 (if (a : Int) < e.Kids.length then (bE a e.Kids.length ((XR ((⟨((ix e.Kids a).Op), ((ix e.Kids a).Letter), (ix e.Kids a).Kids⟩ : Expr)) letters).bind fun b => (if b = true then (X2 (a + 1)) else Option.none))) else (some (true)))
theorem Qen {u_ : Nat} {e : Expr} {letters : Int} {XRe : Expr → Int → Option (Bool)} {XR : Expr → Int → (Bool → Prop) → Prop} {K : Bool → Prop} {b : Nat → Option (Bool)} {X2 : Nat → Prop} {a : Nat} (hXR : ∀ v0 v1 (k : Bool → Prop), Sn k (XRe v0 v1) (XR v0 v1 k)) (c : ∀ v0, Sn K (b v0) (X2 v0)) : Sn K (Qbe u_ e letters XRe b a) (J4H e letters XR K X2 a) := by
 unfold Qbe J4H
 exact (Sn.ite (Sn.bd (Sn.bind (hXR _ _ _) fun _ => (Sn.ite (c _) Sn.none))) Sn.ret)
def Qbf (u_ : Nat) (XR : Expr → Int → Option (Bool)) (e : Expr) (letters : Int) : Option (Bool) :=
 (if e.Op = (3 : Int) then (if (e.Kids.length : Int) = 0 then (if 0 ≤ e.Letter then (if e.Letter < letters then (some (true)) else Option.none) else Option.none) else Option.none) else (if e.Letter = (0 : Int) then (if e.Op = (1 : Int) then (if (e.Kids.length : Int) = 0 then (some (true)) else Option.none) else (if e.Op = (2 : Int) then Option.none else (if e.Op = (4 : Int) then Option.none else (if e.Op = (5 : Int) then (if (e.Kids.length : Int) < 2 then Option.none else (loopEv u_ (S := Nat) (fun s X => Qbd u_ e letters XR X s) 0)) else (if e.Op = (6 : Int) then Option.none else (if e.Op = (7 : Int) then (if (e.Kids.length : Int) = 1 then (loopEv u_ (S := Nat) (fun s X => Qbe u_ e letters XR X s) 0) else Option.none) else Option.none)))))) else Option.none))
theorem Qeo {u_ : Nat} {XRe : Expr → Int → Option (Bool)} {XR : Expr → Int → (Bool → Prop) → Prop} {e : Expr} {letters : Int} {K : Bool → Prop} (hXR : ∀ v0 v1 (k : Bool → Prop), Sn k (XRe v0 v1) (XR v0 v1 k)) : Sn K (Qbf u_ XRe e letters) (J34 XR e letters K) := by
 unfold Qbf J34
 exact (Sn.ite (Sn.imp (Sn.ite (Sn.ite (Sn.ite Sn.ret Sn.none) Sn.none) Sn.none)) (Sn.ite (Sn.ite (Sn.imp (Sn.ite Sn.ret Sn.none)) (Sn.ite Sn.none (Sn.ite Sn.none (Sn.ite (Sn.imp (Sn.ite Sn.none (Sn.loop fun s Xe X hX => Qem hXR (fun _ => hX _)))) (Sn.ite Sn.none (Sn.ite (Sn.imp (Sn.ite (Sn.loop fun s Xe X hX => Qen hXR (fun _ => hX _)) Sn.none)) Sn.none)))))) Sn.none))
def J3N (u_ : Nat) : Nat → Expr → Int → Option (Bool)
 | 0 => fun _ _ => none
 | n + 1 => fun e letters => Qbf u_ (J3N u_ n) e letters
def Qdt (u_ : Nat) (e : Expr) (letters : Int) : Option (Bool) := J3N u_ u_ e letters
theorem Qep {u_ : Nat} {e : Expr} {letters : Int} {K : Bool → Prop} : Sn K (Qdt u_ e letters) (J74 e letters K) := by
 intro r hr hk X hX
 have key : ∀ n (e : Expr) (letters : Int) (K : Bool → Prop) r, J3N u_ n e letters = some r → K r → X e letters K := by
  intro n
  induction n with
  | zero => intro e letters K r hr; cases hr
  | succ n ih => exact fun e letters K r hr hk => hX e letters K (Qeo (fun e letters K r hr hk => ih e letters K r hr hk) r hr hk)
 exact key _ e letters K r hr hk
def Qah (u_ : Nat) (e : Expr) (letters : Int) : Option (Int) :=
 (if letters < (1 : Int) then Option.none else (if 6 < letters then Option.none else ((Qbc u_ e).bind fun r6 => (if r6 = true then ((Qdt u_ e letters).bind fun r8 => (if r8 = true then (some (0)) else Option.none)) else Option.none))))
theorem Qbg {u_ : Nat} {e : Expr} {letters : Int} {K : Int → Prop}  : Sn K (Qah u_ e letters) (J2e e letters K) := by
 unfold Qah J2e
 exact (Sn.ite Sn.none (Sn.ite Sn.none (Sn.bind Qel fun _ => (Sn.ite (Sn.bind Qep fun _ => (Sn.ite Sn.ret Sn.none)) Sn.none))))
def Qai (u_ : Nat) (e : Expr) : Option (Bool) :=
 ((Qah u_ e 6).bind fun r4 => (if r4 = 0 then (some (true)) else Option.none))
theorem Qbh {u_ : Nat} {e : Expr} {K : Bool → Prop}  : Sn K (Qai u_ e) (J4P e K) := by
 unfold Qai J4P
 exact (Sn.bind Qbg fun _ => (Sn.ite Sn.ret Sn.none))
def Qao (u_ : Nat) (e : Expr) : Option (Bool) :=
 (if e.Op = (8 : Int) then Option.none else (some (false)))
theorem Qdu {u_ : Nat} {e : Expr} {K : Bool → Prop}  : Sn K (Qao u_ e) (J1D e K) := by
 unfold Qao J1D
 exact (Sn.ite Sn.none Sn.ret)
def Qbi (u_ : Nat) (op : Int) (kids : List Expr) (X1 : Nat → List Expr → Option ((List Expr))) (a : Nat) (b : List Expr) : Option ((List Expr)) :=
 (if (a : Int) < kids.length then (bE a kids.length (if ((ix kids a).Op) = op then Option.none else (if b.length + ([(⟨((ix kids a).Op), ((ix kids a).Letter), (ix kids a).Kids⟩ : Expr)]).length ≤ 1099511627776 then (X1 (a + 1) (b ++ ([(⟨((ix kids a).Op), ((ix kids a).Letter), (ix kids a).Kids⟩ : Expr)]))) else Option.none))) else (some (b)))
theorem Qeq {u_ : Nat} {op : Int} {kids : List Expr} {K : List Expr → Prop} {c : Nat → List Expr → Option ((List Expr))} {X1 : Nat → List Expr → Prop} {b : Nat} {a : List Expr} (d : ∀ v0 v1, Sn K (c v0 v1) (X1 v0 v1)) : Sn K (Qbi u_ op kids c b a) (J7g op kids K X1 b a) := by
 unfold Qbi J7g
 exact (Sn.ite (Sn.bd (Sn.ite Sn.none (Sn.and (d _ _)))) Sn.ret)
def Qap (u_ : Nat) (op : Int) (kids : List Expr) : Option ((List Expr)) :=
 (loopEv u_ (S := Nat × List Expr) (fun s X => Qbi u_ op kids (fun b a => X (b, a)) s.1 s.2) (0, ([] : List Expr)))
theorem Qdv {u_ : Nat} {op : Int} {kids : List Expr} {K : List Expr → Prop}  : Sn K (Qap u_ op kids) (J47 op kids K) := by
 unfold Qap J47
 exact (Sn.imp (Sn.loop fun s Xe X hX => Qeq (fun _ _ => hX _)))
def Qaq (u_ : Nat) (e : Expr) : Option (Bool) :=
 (if e.Op = (1 : Int) then (some (true)) else (some (false)))
theorem Qdw {u_ : Nat} {e : Expr} {K : Bool → Prop}  : Sn K (Qaq u_ e) (J45 e K) := by
 unfold Qaq J45
 exact (Sn.ite Sn.ret Sn.ret)
def Qbj (u_ : Nat) (x : Int) : Option (Int) :=
 (if 4294967296 ≤ x then Option.none else (if 65536 ≤ x then Option.none else (if 256 ≤ x then Option.none else (bE (IntKind.u8.wrap x) ((([0, 1, 2, 2, 3, 3, 3, 3, 4, 4, 4, 4, 4, 4, 4, 4, 5, 5, 5, 5, 5, 5, 5, 5, 5, 5, 5, 5, 5, 5, 5, 5, 6, 6, 6, 6, 6, 6, 6, 6, 6, 6, 6, 6, 6, 6, 6, 6, 6, 6, 6, 6, 6, 6, 6, 6, 6, 6, 6, 6, 6, 6, 6, 6, 7, 7, 7, 7, 7, 7, 7, 7, 7, 7, 7, 7, 7, 7, 7, 7, 7, 7, 7, 7, 7, 7, 7, 7, 7, 7, 7, 7, 7, 7, 7, 7, 7, 7, 7, 7, 7, 7, 7, 7, 7, 7, 7, 7, 7, 7, 7, 7, 7, 7, 7, 7, 7, 7, 7, 7, 7, 7, 7, 7, 7, 7, 7, 7, 8, 8, 8, 8, 8, 8, 8, 8, 8, 8, 8, 8, 8, 8, 8, 8, 8, 8, 8, 8, 8, 8, 8, 8, 8, 8, 8, 8, 8, 8, 8, 8, 8, 8, 8, 8, 8, 8, 8, 8, 8, 8, 8, 8, 8, 8, 8, 8, 8, 8, 8, 8, 8, 8, 8, 8, 8, 8, 8, 8, 8, 8, 8, 8, 8, 8, 8, 8, 8, 8, 8, 8, 8, 8, 8, 8, 8, 8, 8, 8, 8, 8, 8, 8, 8, 8, 8, 8, 8, 8, 8, 8, 8, 8, 8, 8, 8, 8, 8, 8, 8, 8, 8, 8, 8, 8, 8, 8, 8, 8, 8, 8, 8, 8, 8, 8, 8, 8, 8, 8, 8, 8, 8, 8, 8, 8, 8, 8] : Str)).length : Int) (if I64 ((0 : Int) + ((ix (([0, 1, 2, 2, 3, 3, 3, 3, 4, 4, 4, 4, 4, 4, 4, 4, 5, 5, 5, 5, 5, 5, 5, 5, 5, 5, 5, 5, 5, 5, 5, 5, 6, 6, 6, 6, 6, 6, 6, 6, 6, 6, 6, 6, 6, 6, 6, 6, 6, 6, 6, 6, 6, 6, 6, 6, 6, 6, 6, 6, 6, 6, 6, 6, 7, 7, 7, 7, 7, 7, 7, 7, 7, 7, 7, 7, 7, 7, 7, 7, 7, 7, 7, 7, 7, 7, 7, 7, 7, 7, 7, 7, 7, 7, 7, 7, 7, 7, 7, 7, 7, 7, 7, 7, 7, 7, 7, 7, 7, 7, 7, 7, 7, 7, 7, 7, 7, 7, 7, 7, 7, 7, 7, 7, 7, 7, 7, 7, 8, 8, 8, 8, 8, 8, 8, 8, 8, 8, 8, 8, 8, 8, 8, 8, 8, 8, 8, 8, 8, 8, 8, 8, 8, 8, 8, 8, 8, 8, 8, 8, 8, 8, 8, 8, 8, 8, 8, 8, 8, 8, 8, 8, 8, 8, 8, 8, 8, 8, 8, 8, 8, 8, 8, 8, 8, 8, 8, 8, 8, 8, 8, 8, 8, 8, 8, 8, 8, 8, 8, 8, 8, 8, 8, 8, 8, 8, 8, 8, 8, 8, 8, 8, 8, 8, 8, 8, 8, 8, 8, 8, 8, 8, 8, 8, 8, 8, 8, 8, 8, 8, 8, 8, 8, 8, 8, 8, 8, 8, 8, 8, 8, 8, 8, 8, 8, 8, 8, 8, 8, 8, 8, 8, 8, 8, 8, 8] : Str)) (IntKind.u8.wrap x)).toNat : Int)) then (some ((((0 : Int) + ((ix (([0, 1, 2, 2, 3, 3, 3, 3, 4, 4, 4, 4, 4, 4, 4, 4, 5, 5, 5, 5, 5, 5, 5, 5, 5, 5, 5, 5, 5, 5, 5, 5, 6, 6, 6, 6, 6, 6, 6, 6, 6, 6, 6, 6, 6, 6, 6, 6, 6, 6, 6, 6, 6, 6, 6, 6, 6, 6, 6, 6, 6, 6, 6, 6, 7, 7, 7, 7, 7, 7, 7, 7, 7, 7, 7, 7, 7, 7, 7, 7, 7, 7, 7, 7, 7, 7, 7, 7, 7, 7, 7, 7, 7, 7, 7, 7, 7, 7, 7, 7, 7, 7, 7, 7, 7, 7, 7, 7, 7, 7, 7, 7, 7, 7, 7, 7, 7, 7, 7, 7, 7, 7, 7, 7, 7, 7, 7, 7, 8, 8, 8, 8, 8, 8, 8, 8, 8, 8, 8, 8, 8, 8, 8, 8, 8, 8, 8, 8, 8, 8, 8, 8, 8, 8, 8, 8, 8, 8, 8, 8, 8, 8, 8, 8, 8, 8, 8, 8, 8, 8, 8, 8, 8, 8, 8, 8, 8, 8, 8, 8, 8, 8, 8, 8, 8, 8, 8, 8, 8, 8, 8, 8, 8, 8, 8, 8, 8, 8, 8, 8, 8, 8, 8, 8, 8, 8, 8, 8, 8, 8, 8, 8, 8, 8, 8, 8, 8, 8, 8, 8, 8, 8, 8, 8, 8, 8, 8, 8, 8, 8, 8, 8, 8, 8, 8, 8, 8, 8, 8, 8, 8, 8, 8, 8, 8, 8, 8, 8, 8, 8, 8, 8, 8, 8, 8, 8] : Str)) (IntKind.u8.wrap x)).toNat : Int))))) else Option.none)))))
theorem Qer {u_ : Nat} {x : Int} {K : Int → Prop}  : Sn K (Qbj u_ x) (J2R x K) := by
 unfold Qbj J2R
 exact (Sn.ite Sn.none (Sn.ite Sn.none (Sn.ite Sn.none (Sn.bd (Sn.and Sn.ret)))))
def Qbk (u_ : Nat) (x : Int) : Option (Int) :=
 ((Qbj u_ x).bind fun r1 => (some (r1)))
theorem Qes {u_ : Nat} {x : Int} {K : Int → Prop}  : Sn K (Qbk u_ x) (J4g x K) := by
 unfold Qbk J4g
 exact (Sn.bind Qer fun _ => Sn.ret)
def Qbl (u_ : Nat) (parts : List Expr) (b : Int) (X2 : Int → Option ((List Expr))) (a : Int) : Option ((List Expr)) :=
 (if a < b then Option.none else (if (parts.length : Int) < 2 then (some (parts)) else Option.none))
theorem Qet {u_ : Nat} {parts : List Expr} {b : Int} {K : List Expr → Prop} {c : Int → Option ((List Expr))} {X2 : Int → Prop} {a : Int} (hX2 : ∀ v0, Sn K (c v0) (X2 v0)) : Sn K (Qbl u_ parts b c a) (J6t parts b K X2 a) := by
 unfold Qbl J6t
 exact (Sn.ite Sn.none (Sn.ite Sn.ret Sn.none))
def Qbm (u_ : Nat) (parts : List Expr) (X1 : Int → Int → Int → Bool → Bool → Option ((List Expr))) (a : Int) (b : Int) (k1_8 : Int) (b1_9 : Bool) (b1_10 : Bool) : Option ((List Expr)) :=
 (if I64 (b - a) then (if (b - a) ≤ (12 : Int) then (if I64 (a + 1) then (loopEv u_ (S := Int) (fun s X => Qbl u_ parts b X s) (a + 1)) else Option.none) else Option.none) else Option.none)
theorem Qeu {u_ : Nat} {parts : List Expr} {K : List Expr → Prop} {f : Int → Int → Int → Bool → Bool → Option ((List Expr))} {X1 : Int → Int → Int → Bool → Bool → Prop} {b : Int} {c : Int} {d : Int} {e : Bool} {a : Bool} (hX1 : ∀ v0 v1 v2 v3 v4, Sn K (f v0 v1 v2 v3 v4) (X1 v0 v1 v2 v3 v4)) : Sn K (Qbm u_ parts f b c d e a) (J6u parts K X1 b c d e a) := by
 unfold Qbm J6u
 exact (Sn.and (Sn.ite (Sn.and (Sn.loop fun s Xe X hX => Qet (fun _ => hX _))) Sn.none))
def Qar (u_ : Nat) (parts : List Expr) : Option ((List Expr)) :=
 ((Qbk u_ ((IntKind.u64.wrap (parts.length : Int)))).bind fun r2 => (loopEv u_ (S := Int × Int × Int × Bool × Bool) (fun s X => Qbm u_ parts (fun b c d e a => X (b, c, d, e, a)) s.1 s.2.1 s.2.2.1 s.2.2.2.1 s.2.2.2.2) ((0 : Int), (parts.length : Int), r2, true, true)))
theorem Qdx {u_ : Nat} {parts : List Expr} {K : List Expr → Prop}  : Sn K (Qar u_ parts) (J4c parts K) := by
 unfold Qar J4c
 exact (Sn.imp (Sn.bind Qes fun _ => (Sn.loop fun s Xe X hX => Qeu (fun _ _ _ _ _ => hX _))))
def Qaj (u_ : Nat)  : Option (Expr) :=
 (some (((⟨1, 0, ([] : List Expr)⟩ : Expr))))
theorem Qbn {u_ : Nat} {K : Expr → Prop}  : Sn K (Qaj u_ ) (J59 K) := by
 unfold Qaj J59
 exact Sn.ret
def Qad (u_ : Nat) (op : Int) (parts : List Expr) (none : Expr) : Option (Expr) :=
 (if (parts.length : Int) = 0 then (some (((⟨none.Op, none.Letter, none.Kids⟩ : Expr)))) else (if (parts.length : Int) = 1 then (bE (0 : Int) (parts.length : Int) (some (((⟨((ix parts (0 : Int)).Op), ((ix parts (0 : Int)).Letter), (ix parts (0 : Int)).Kids⟩ : Expr))))) else (some (((⟨op, 0, parts⟩ : Expr))))))
theorem Qas {u_ : Nat} {op : Int} {parts : List Expr} {none : Expr} {K : Expr → Prop}  : Sn K (Qad u_ op parts none) (J29 op parts none K) := by
 unfold Qad J29
 exact (Sn.imp (Sn.ite Sn.ret (Sn.ite (Sn.bd Sn.ret) Sn.ret)))
def Qbo (u_ : Nat) (b : List Expr) (X3 : Nat → Nat → Option (Expr)) (a : Nat) (d : Nat) : Option (Expr) :=
 (if (d : Int) < b.length then Option.none else (if 0 ≤ (a : Int) then (if (a : Int) ≤ b.length then (if 0 ≤ (a : Int) then (if (a : Int) ≤ ((b.take (a : Int).toNat ++ List.replicate (b.length - (a : Int).toNat) ((default : Expr))).length : Int) then ((Qar u_ ((b.take (a : Int).toNat ++ List.replicate (b.length - (a : Int).toNat) ((default : Expr))).take ((a : Int)).toNat)).bind fun e => ((Qaj u_ ).bind fun f => ((Qad u_ 4 e f).bind fun c => (some (((⟨c.Op, c.Letter, c.Kids⟩ : Expr))))))) else Option.none) else Option.none) else Option.none) else Option.none))
theorem Qev {u_ : Nat} {c : List Expr} {K : Expr → Prop} {d : Nat → Nat → Option (Expr)} {X3 : Nat → Nat → Prop} {a : Nat} {b : Nat} (hX3 : ∀ v0 v1, Sn K (d v0 v1) (X3 v0 v1)) : Sn K (Qbo u_ c d a b) (J57 c K X3 a b) := by
 unfold Qbo J57
 exact (Sn.ite Sn.none (Sn.and (Sn.and (Sn.and (Sn.and (Sn.bind Qdx fun _ => (Sn.bind Qbn fun _ => (Sn.bind Qas fun _ => Sn.ret))))))))
def Qbp (u_ : Nat) (b : List Expr) (X2 : Nat → Option (Expr)) (a : Nat) : Option (Expr) :=
 (if (a : Int) < b.length then (bE a b.length ((Qaq u_ ((⟨((ix b a).Op), ((ix b a).Letter), (ix b a).Kids⟩ : Expr))).bind fun f => (if f = true then (loopEv u_ (S := Nat × Nat) (fun s X => Qbo u_ b (fun d e => X (d, e)) s.1 s.2) (a, a + 1)) else (X2 (a + 1))))) else ((Qar u_ b).bind fun g => ((Qaj u_ ).bind fun h => ((Qad u_ 4 g h).bind fun c => (some (((⟨c.Op, c.Letter, c.Kids⟩ : Expr))))))))
theorem Qew {u_ : Nat} {b : List Expr} {K : Expr → Prop} {c : Nat → Option (Expr)} {X2 : Nat → Prop} {a : Nat} (d : ∀ v0, Sn K (c v0) (X2 v0)) : Sn K (Qbp u_ b c a) (J58 b K X2 a) := by
 unfold Qbp J58
 exact (Sn.ite (Sn.bd (Sn.bind Qdw fun _ => (Sn.ite (Sn.loop fun s Xe X hX => Qev (fun _ _ => hX _)) (d _)))) (Sn.bind Qdx fun _ => (Sn.bind Qbn fun _ => (Sn.bind Qas fun _ => Sn.ret))))
def Qbq (u_ : Nat) (kids : List Expr) (X1 : Nat → Option (Expr)) (a : Nat) : Option (Expr) :=
 (if (a : Int) < kids.length then (bE a kids.length ((Qao u_ ((⟨((ix kids a).Op), ((ix kids a).Letter), (ix kids a).Kids⟩ : Expr))).bind fun b => (if b = true then Option.none else (X1 (a + 1))))) else ((Qap u_ 4 kids).bind fun c => (loopEv u_ (S := Nat) (fun s X => Qbp u_ c X s) 0)))
theorem Qex {u_ : Nat} {kids : List Expr} {K : Expr → Prop} {b : Nat → Option (Expr)} {X1 : Nat → Prop} {a : Nat} (c : ∀ v0, Sn K (b v0) (X1 v0)) : Sn K (Qbq u_ kids b a) (J5d kids K X1 a) := by
 unfold Qbq J5d
 exact (Sn.ite (Sn.bd (Sn.bind Qdu fun _ => (Sn.ite Sn.none (c _)))) (Sn.bind Qdv fun _ => (Sn.loop fun s Xe X hX => Qew (fun _ => hX _))))
def Qbr (u_ : Nat) (kids : List Expr) : Option (Expr) :=
 (loopEv u_ (S := Nat) (fun s X => Qbq u_ kids X s) 0)
theorem Qey {u_ : Nat} {kids : List Expr} {K : Expr → Prop}  : Sn K (Qbr u_ kids) (J3B kids K) := by
 unfold Qbr J3B
 exact (Sn.imp (Sn.loop fun s Xe X hX => Qex (fun _ => hX _)))
def Qat (u_ : Nat) (e : Expr) : Option (Bool) :=
 (if e.Op = (2 : Int) then (some (true)) else (some (false)))
theorem Qdy {u_ : Nat} {e : Expr} {K : Bool → Prop}  : Sn K (Qat u_ e) (J4O e K) := by
 unfold Qat J4O
 exact (Sn.ite Sn.ret Sn.ret)
def Qau (u_ : Nat)  : Option (Expr) :=
 (some (((⟨2, 0, ([] : List Expr)⟩ : Expr))))
theorem Qdz {u_ : Nat} {K : Expr → Prop}  : Sn K (Qau u_ ) (J82 K) := by
 unfold Qau J82
 exact Sn.ret
def Qbs (u_ : Nat) (X3 : Nat → Nat → List Expr → Option (Expr)) (b : Nat) (c : Nat) (a : List Expr) : Option (Expr) :=
 (if (c : Int) < a.length then (bE c a.length ((Qat u_ ((⟨((ix a c).Op), ((ix a c).Letter), (ix a c).Kids⟩ : Expr))).bind fun e => (if e = true then Option.none else (bE b a.length (if I64 (b + (1 : Int)) then (if I64 (c + (1 : Int)) then (X3 (b + 1) (c + 1) (st a b (⟨((ix a c).Op), ((ix a c).Letter), (ix a c).Kids⟩ : Expr))) else Option.none) else Option.none))))) else (if 0 ≤ (b : Int) then (if (b : Int) ≤ a.length then (if 0 ≤ (b : Int) then (if (b : Int) ≤ ((a.take (b : Int).toNat ++ List.replicate (a.length - (b : Int).toNat) ((default : Expr))).length : Int) then ((Qau u_ ).bind fun f => ((Qad u_ 5 ((a.take (b : Int).toNat ++ List.replicate (a.length - (b : Int).toNat) ((default : Expr))).take ((b : Int)).toNat) f).bind fun d => (some (((⟨d.Op, d.Letter, d.Kids⟩ : Expr)))))) else Option.none) else Option.none) else Option.none) else Option.none))
theorem Qez {u_ : Nat} {K : Expr → Prop} {d : Nat → Nat → List Expr → Option (Expr)} {X3 : Nat → Nat → List Expr → Prop} {a : Nat} {b : Nat} {c : List Expr} (e : ∀ v0 v1 v2, Sn K (d v0 v1 v2) (X3 v0 v1 v2)) : Sn K (Qbs u_ d a b c) (J4p K X3 a b c) := by
 unfold Qbs J4p
 exact (Sn.ite (Sn.bd (Sn.bind Qdy fun _ => (Sn.ite Sn.none (Sn.bd (Sn.and (Sn.and (e _ _ _))))))) (Sn.and (Sn.and (Sn.and (Sn.and (Sn.bind Qdz fun _ => (Sn.bind Qas fun _ => Sn.ret)))))))
def Qbt (u_ : Nat) (b : List Expr) (X2 : Nat → Option (Expr)) (a : Nat) : Option (Expr) :=
 (if (a : Int) < b.length then (bE a b.length ((Qat u_ ((⟨((ix b a).Op), ((ix b a).Letter), (ix b a).Kids⟩ : Expr))).bind fun h => (if h = true then (loopEv u_ (S := Nat × Nat × List Expr) (fun s X => Qbs u_ (fun d e f => X (d, e, f)) s.1 s.2.1 s.2.2) (a, a + 1, b)) else (X2 (a + 1))))) else ((Qau u_ ).bind fun g => ((Qad u_ 5 b g).bind fun c => (some (((⟨c.Op, c.Letter, c.Kids⟩ : Expr)))))))
theorem Qfa {u_ : Nat} {b : List Expr} {K : Expr → Prop} {c : Nat → Option (Expr)} {X2 : Nat → Prop} {a : Nat} (d : ∀ v0, Sn K (c v0) (X2 v0)) : Sn K (Qbt u_ b c a) (J4A b K X2 a) := by
 unfold Qbt J4A
 exact (Sn.ite (Sn.bd (Sn.bind Qdy fun _ => (Sn.ite (Sn.loop fun s Xe X hX => Qez (fun _ _ _ => hX _)) (d _)))) (Sn.bind Qdz fun _ => (Sn.bind Qas fun _ => Sn.ret)))
def Qbu (u_ : Nat) (kids : List Expr) (X1 : Nat → Option (Expr)) (a : Nat) : Option (Expr) :=
 (if (a : Int) < kids.length then (bE a kids.length ((Qaq u_ ((⟨((ix kids a).Op), ((ix kids a).Letter), (ix kids a).Kids⟩ : Expr))).bind fun c => (if c = true then ((Qaj u_ ).bind fun b => (some (((⟨b.Op, b.Letter, b.Kids⟩ : Expr))))) else (X1 (a + 1))))) else ((Qap u_ 5 kids).bind fun d => (loopEv u_ (S := Nat) (fun s X => Qbt u_ d X s) 0)))
theorem Qfb {u_ : Nat} {kids : List Expr} {K : Expr → Prop} {b : Nat → Option (Expr)} {X1 : Nat → Prop} {a : Nat} (c : ∀ v0, Sn K (b v0) (X1 v0)) : Sn K (Qbu u_ kids b a) (J4F kids K X1 a) := by
 unfold Qbu J4F
 exact (Sn.ite (Sn.bd (Sn.bind Qdw fun _ => (Sn.ite (Sn.bind Qbn fun _ => Sn.ret) (c _)))) (Sn.bind Qdv fun _ => (Sn.loop fun s Xe X hX => Qfa (fun _ => hX _))))
def Qbv (u_ : Nat) (kids : List Expr) : Option (Expr) :=
 (loopEv u_ (S := Nat) (fun s X => Qbu u_ kids X s) 0)
theorem Qfc {u_ : Nat} {kids : List Expr} {K : Expr → Prop}  : Sn K (Qbv u_ kids) (J30 kids K) := by
 unfold Qbv J30
 exact (Sn.imp (Sn.loop fun s Xe X hX => Qfb (fun _ => hX _)))
def Qaa (u_ : Nat) (a0 : Int) (a1 : List Expr) : Option (Expr) :=
 (if a0 = (4 : Int) then ((Qbr u_ a1).bind fun r5 => (some (((⟨r5.Op, r5.Letter, r5.Kids⟩ : Expr))))) else (if a0 = (5 : Int) then ((Qbv u_ a1).bind fun r9 => (some (((⟨r9.Op, r9.Letter, r9.Kids⟩ : Expr))))) else (if a0 = (6 : Int) then Option.none else (if (a1.length : Int) = (1 : Int) then (bE (0 : Int) (a1.length : Int) (if a0 = (8 : Int) then Option.none else (if a0 = (7 : Int) then (if ((ix a1 (0 : Int)).Op) = (1 : Int) then Option.none else (if ((ix a1 (0 : Int)).Op) = (2 : Int) then Option.none else (if ((ix a1 (0 : Int)).Op) = (7 : Int) then Option.none else ((Qao u_ ((⟨((ix a1 (0 : Int)).Op), ((ix a1 (0 : Int)).Letter), (ix a1 (0 : Int)).Kids⟩ : Expr))).bind fun a => (if a = true then Option.none else (some (((⟨7, 0, [(⟨((ix a1 (0 : Int)).Op), ((ix a1 (0 : Int)).Letter), (ix a1 (0 : Int)).Kids⟩ : Expr)]⟩ : Expr))))))))) else Option.none))) else Option.none))))
theorem Qae {u_ : Nat} {a0 : Int} {a1 : List Expr} {K : Expr → Prop}  : Sn K (Qaa u_ a0 a1) (J3t a0 a1 K) := by
 unfold Qaa J3t
 exact (Sn.ite (Sn.bind Qey fun _ => Sn.ret) (Sn.ite (Sn.bind Qfc fun _ => Sn.ret) (Sn.ite Sn.none (Sn.imp (Sn.ite (Sn.bd (Sn.ite Sn.none (Sn.ite (Sn.ite Sn.none (Sn.ite Sn.none (Sn.ite Sn.none (Sn.bind Qdu fun _ => (Sn.ite Sn.none Sn.ret))))) Sn.none))) Sn.none)))))
def Qbw (u_ : Nat) (e : Expr) (XR : Expr → Option (Expr)) (X1 : Nat → List Expr → Option (Expr)) (a : Nat) (b : List Expr) : Option (Expr) :=
 (if (a : Int) < e.Kids.length then (bE a e.Kids.length ((XR ((⟨((ix e.Kids a).Op), ((ix e.Kids a).Letter), (ix e.Kids a).Kids⟩ : Expr))).bind fun d => (bE a b.length (X1 (a + 1) (st b a d))))) else ((Qaa u_ e.Op b).bind fun c => (some (((⟨c.Op, c.Letter, c.Kids⟩ : Expr))))))
theorem Qfd {u_ : Nat} {e : Expr} {XRe : Expr → Option (Expr)} {XR : Expr → (Expr → Prop) → Prop} {K : Expr → Prop} {c : Nat → List Expr → Option (Expr)} {X1 : Nat → List Expr → Prop} {b : Nat} {a : List Expr} (hXR : ∀ v0 (k : Expr → Prop), Sn k (XRe v0) (XR v0 k)) (d : ∀ v0 v1, Sn K (c v0 v1) (X1 v0 v1)) : Sn K (Qbw u_ e XRe c b a) (J5O e XR K X1 b a) := by
 unfold Qbw J5O
 exact (Sn.ite (Sn.bd (Sn.bind (hXR _ _) fun _ => (Sn.bd (d _ _)))) (Sn.bind Qae fun _ => Sn.ret))
def Qbx (u_ : Nat) (XR : Expr → Option (Expr)) (e : Expr) : Option (Expr) :=
 (if (e.Kids.length : Int) = 0 then (some (((⟨e.Op, e.Letter, ([] : List Expr)⟩ : Expr)))) else (if 0 ≤ (e.Kids.length : Int) then (if (e.Kids.length : Int) ≤ 1099511627776 then (loopEv u_ (S := Nat × List Expr) (fun s X => Qbw u_ e XR (fun b a => X (b, a)) s.1 s.2) (0, List.replicate e.Kids.length ((default : Expr)))) else Option.none) else Option.none))
theorem Qfe {u_ : Nat} {XRe : Expr → Option (Expr)} {XR : Expr → (Expr → Prop) → Prop} {e : Expr} {K : Expr → Prop} (hXR : ∀ v0 (k : Expr → Prop), Sn k (XRe v0) (XR v0 k)) : Sn K (Qbx u_ XRe e) (J4G XR e K) := by
 unfold Qbx J4G
 exact (Sn.imp (Sn.ite Sn.ret (Sn.and (Sn.and (Sn.loop fun s Xe X hX => Qfd hXR (fun _ _ => hX _))))))
def J5e (u_ : Nat) : Nat → Expr → Option (Expr)
 | 0 => fun _ => none
 | n + 1 => fun e => Qbx u_ (J5e u_ n) e
def Qea (u_ : Nat) (e : Expr) : Option (Expr) := J5e u_ u_ e
theorem Qff {u_ : Nat} {e : Expr} {K : Expr → Prop} : Sn K (Qea u_ e) (J8M e K) := by
 intro r hr hk X hX
 have key : ∀ n (e : Expr) (K : Expr → Prop) r, J5e u_ n e = some r → K r → X e K := by
  intro n
  induction n with
  | zero => intro e K r hr; cases hr
  | succ n ih => exact fun e K r hr hk => hX e K (Qfe (fun e K r hr hk => ih e K r hr hk) r hr hk)
 exact key _ e K r hr hk
def Qby (u_ : Nat) (e : Expr) : Option (Expr) :=
 ((Qai u_ e).bind fun r7 => (if r7 = true then ((Qea u_ e).bind fun r9 => (some (((⟨r9.Op, r9.Letter, r9.Kids⟩ : Expr))))) else Option.none))
theorem Qfg {u_ : Nat} {e : Expr} {K : Expr → Prop}  : Sn K (Qby u_ e) (J6H e K) := by
 unfold Qby J6H
 exact (Sn.bind Qbh fun _ => (Sn.ite (Sn.bind Qff fun _ => Sn.ret) Sn.none))
def Qab (u_ : Nat) (b : Builder) : Option (Builder) :=
 (if b.addr = true then (some (b)) else (some (((⟨true, b.buf⟩ : Builder)))))
theorem Qaf {u_ : Nat} {b : Builder} {K : Builder → Prop}  : Sn K (Qab u_ b) (J0b b K) := by
 unfold Qab J0b
 exact (Sn.ite Sn.ret Sn.ret)
def Qak (u_ : Nat) (op : Int) : Option (Int) :=
 (if op = (4 : Int) then Option.none else (if op = (6 : Int) then Option.none else (if op = (5 : Int) then (some (3)) else (if op = (8 : Int) then Option.none else (if op = (7 : Int) then (some (5)) else (some (6)))))))
theorem Qbz {u_ : Nat} {op : Int} {K : Int → Prop}  : Sn K (Qak u_ op) (J5h op K) := by
 unfold Qak J5h
 exact (Sn.ite Sn.none (Sn.ite Sn.none (Sn.ite Sn.ret (Sn.ite Sn.none (Sn.ite Sn.ret Sn.ret)))))
def Qca (u_ : Nat) (e : Expr) (XR : Builder → Expr → Option (Builder)) (X1 : Nat → Bool → List Int → Option (Builder)) (a : Nat) (b : Bool) (c : List Int) : Option (Builder) :=
 (if (a : Int) < e.Kids.length then (bE a e.Kids.length (if 0 < (a : Int) then ((Qab u_ ((⟨b, c⟩ : Builder))).bind fun q54 => ((Qak u_ (((ix e.Kids a).Op))).bind fun d => (if 4 ≤ d then ((XR q54 ((⟨((ix e.Kids a).Op), ((ix e.Kids a).Letter), (ix e.Kids a).Kids⟩ : Expr))).bind fun q64 => (X1 (a + 1) q64.addr q64.buf)) else Option.none))) else ((Qak u_ (((ix e.Kids a).Op))).bind fun f => (if 4 ≤ f then ((XR ((⟨b, c⟩ : Builder)) ((⟨((ix e.Kids a).Op), ((ix e.Kids a).Letter), (ix e.Kids a).Kids⟩ : Expr))).bind fun q71 => (X1 (a + 1) q71.addr q71.buf)) else Option.none)))) else (some (((⟨b, c⟩ : Builder)))))
theorem Qfh {u_ : Nat} {e : Expr} {XRe : Builder → Expr → Option (Builder)} {XR : Builder → Expr → (Builder → Prop) → Prop} {K : Builder → Prop} {d : Nat → Bool → List Int → Option (Builder)} {X1 : Nat → Bool → List Int → Prop} {a : Nat} {b : Bool} {c : List Int} (hXR : ∀ v0 v1 (k : Builder → Prop), Sn k (XRe v0 v1) (XR v0 v1 k)) (f : ∀ v0 v1 v2, Sn K (d v0 v1 v2) (X1 v0 v1 v2)) : Sn K (Qca u_ e XRe d a b c) (J8i e XR K X1 a b c) := by
 unfold Qca J8i
 exact (Sn.ite (Sn.bd (Sn.ite (Sn.bind Qaf fun _ => (Sn.imp (Sn.bind Qbz fun _ => (Sn.ite (Sn.bind (hXR _ _ _) fun _ => (f _ _ _)) Sn.none)))) (Sn.bind Qbz fun _ => (Sn.ite (Sn.bind (hXR _ _ _) fun _ => (f _ _ _)) Sn.none)))) Sn.ret)
def Qcb (u_ : Nat) (e : Expr) (XR : Builder → Expr → Option (Builder)) (X2 : Nat → Bool → List Int → Option (Builder)) (a : Nat) (b : Bool) (c : List Int) : Option (Builder) :=
 (if (a : Int) < e.Kids.length then (bE a e.Kids.length (if 0 < (a : Int) then Option.none else ((Qak u_ (((ix e.Kids a).Op))).bind fun d => (if 5 ≤ d then Option.none else ((Qab u_ ((⟨b, c⟩ : Builder))).bind fun q106 => (if q106.buf.length + ([(40 : Int)]).length ≤ 1099511627776 then ((XR ((⟨q106.addr, q106.buf ++ ([(40 : Int)])⟩ : Builder)) ((⟨((ix e.Kids a).Op), ((ix e.Kids a).Letter), (ix e.Kids a).Kids⟩ : Expr))).bind fun q114 => ((Qab u_ q114).bind fun q119 => (if q119.buf.length + ([(41 : Int)]).length ≤ 1099511627776 then (X2 (a + 1) q119.addr (q119.buf ++ ([(41 : Int)]))) else Option.none))) else Option.none)))))) else ((Qab u_ ((⟨b, c⟩ : Builder))).bind fun q128 => (if q128.buf.length + ([(42 : Int)]).length ≤ 1099511627776 then (some (((⟨q128.addr, q128.buf ++ ([(42 : Int)])⟩ : Builder)))) else Option.none)))
theorem Qfi {u_ : Nat} {e : Expr} {XRe : Builder → Expr → Option (Builder)} {XR : Builder → Expr → (Builder → Prop) → Prop} {K : Builder → Prop} {d : Nat → Bool → List Int → Option (Builder)} {X2 : Nat → Bool → List Int → Prop} {a : Nat} {b : Bool} {c : List Int} (hXR : ∀ v0 v1 (k : Builder → Prop), Sn k (XRe v0 v1) (XR v0 v1 k)) (f : ∀ v0 v1 v2, Sn K (d v0 v1 v2) (X2 v0 v1 v2)) : Sn K (Qcb u_ e XRe d a b c) (J8H e XR K X2 a b c) := by
 unfold Qcb J8H
 exact (Sn.ite (Sn.bd (Sn.ite Sn.none (Sn.bind Qbz fun _ => (Sn.ite Sn.none (Sn.bind Qaf fun _ => (Sn.and (Sn.bind (hXR _ _ _) fun _ => (Sn.bind Qaf fun _ => (Sn.and (f _ _ _)))))))))) (Sn.bind Qaf fun _ => (Sn.and Sn.ret)))
def Qcc (u_ : Nat) (XR : Builder → Expr → Option (Builder)) (text : Builder) (e : Expr) : Option (Builder) :=
 (if e.Op = (1 : Int) then ((Qab u_ text).bind fun q6 => (if q6.buf.length + ([(48 : Int)]).length ≤ 1099511627776 then (some (((⟨q6.addr, q6.buf ++ ([(48 : Int)])⟩ : Builder)))) else Option.none)) else (if e.Op = (2 : Int) then Option.none else (if e.Op = (3 : Int) then ((Qab u_ text).bind fun q17 => (if q17.buf.length + ([(IntKind.u8.wrap ((97 : Int) + (IntKind.u8.wrap e.Letter)))]).length ≤ 1099511627776 then (some (((⟨q17.addr, q17.buf ++ ([(IntKind.u8.wrap ((97 : Int) + (IntKind.u8.wrap e.Letter)))])⟩ : Builder)))) else Option.none)) else (if e.Op = (4 : Int) then Option.none else (if e.Op = (6 : Int) then Option.none else (if e.Op = (5 : Int) then (loopEv u_ (S := Nat × Bool × List Int) (fun s X => Qca u_ e XR (fun a b f => X (a, b, f)) s.1 s.2.1 s.2.2) (0, text.addr, text.buf)) else (if e.Op = (8 : Int) then Option.none else (if e.Op = (7 : Int) then (loopEv u_ (S := Nat × Bool × List Int) (fun s X => Qcb u_ e XR (fun c d g => X (c, d, g)) s.1 s.2.1 s.2.2) (0, text.addr, text.buf)) else Option.none))))))))
theorem Qfj {u_ : Nat} {XRe : Builder → Expr → Option (Builder)} {XR : Builder → Expr → (Builder → Prop) → Prop} {text : Builder} {e : Expr} {K : Builder → Prop} (hXR : ∀ v0 v1 (k : Builder → Prop), Sn k (XRe v0 v1) (XR v0 v1 k)) : Sn K (Qcc u_ XRe text e) (J7p XR text e K) := by
 unfold Qcc J7p
 exact (Sn.ite (Sn.bind Qaf fun _ => (Sn.and Sn.ret)) (Sn.ite Sn.none (Sn.ite (Sn.bind Qaf fun _ => (Sn.and Sn.ret)) (Sn.ite Sn.none (Sn.ite Sn.none (Sn.ite (Sn.imp (Sn.loop fun s Xe X hX => Qfh hXR (fun _ _ _ => hX _))) (Sn.ite Sn.none (Sn.ite (Sn.imp (Sn.loop fun s Xe X hX => Qfi hXR (fun _ _ _ => hX _))) Sn.none))))))))
def J7V (u_ : Nat) : Nat → Builder → Expr → Option (Builder)
 | 0 => fun _ _ => none
 | n + 1 => fun text e => Qcc u_ (J7V u_ n) text e
def Qeb (u_ : Nat) (text : Builder) (e : Expr) : Option (Builder) := J7V u_ u_ text e
theorem Qfk {u_ : Nat} {text : Builder} {e : Expr} {K : Builder → Prop} : Sn K (Qeb u_ text e) (JbP text e K) := by
 intro r hr hk X hX
 have key : ∀ n (text : Builder) (e : Expr) (K : Builder → Prop) r, J7V u_ n text e = some r → K r → X text e K := by
  intro n
  induction n with
  | zero => intro text e K r hr; cases hr
  | succ n ih => exact fun text e K r hr hk => hX text e K (Qfj (fun text e K r hr hk => ih text e K r hr hk) r hr hk)
 exact key _ text e K r hr hk
def Qac (u_ : Nat) (e : Expr) : Option (Str) :=
 ((Qai u_ e).bind fun r4 => (if r4 = true then ((Qeb u_ ((⟨false, ([] : List Int)⟩ : Builder)) e).bind fun q10 => (if q10.buf ≠ [] then (if isBytes q10.buf then (some ((bytesOf q10.buf))) else Option.none) else Option.none)) else Option.none))
theorem Qal {u_ : Nat} {e : Expr} {K : Str → Prop}  : Sn K (Qac u_ e) (J2l e K) := by
 unfold Qac J2l
 exact (Sn.bind Qbh fun _ => (Sn.ite (Sn.bind Qfk fun _ => (Sn.and (Sn.and Sn.ret))) Sn.none))
def Qcd (u_ : Nat) (e : Expr) (XR : Expr → Option (Bool)) (X1 : Nat → Option (Bool)) (a : Nat) : Option (Bool) :=
 (if (a : Int) < e.Kids.length then (bE a e.Kids.length ((XR ((⟨((ix e.Kids a).Op), ((ix e.Kids a).Letter), (ix e.Kids a).Kids⟩ : Expr))).bind fun b => (if b = true then Option.none else (some (false))))) else Option.none)
theorem Qfl {u_ : Nat} {e : Expr} {XRe : Expr → Option (Bool)} {XR : Expr → (Bool → Prop) → Prop} {K : Bool → Prop} {b : Nat → Option (Bool)} {X1 : Nat → Prop} {a : Nat} (hXR : ∀ v0 (k : Bool → Prop), Sn k (XRe v0) (XR v0 k)) (hX1 : ∀ v0, Sn K (b v0) (X1 v0)) : Sn K (Qcd u_ e XRe b a) (J6v e XR K X1 a) := by
 unfold Qcd J6v
 exact (Sn.ite (Sn.bd (Sn.bind (hXR _ _) fun _ => (Sn.ite Sn.none Sn.ret))) Sn.none)
def Qce (u_ : Nat) (XR : Expr → Option (Bool)) (e : Expr) : Option (Bool) :=
 (if e.Op = (2 : Int) then Option.none else (if e.Op = (7 : Int) then (some (true)) else (if e.Op = (4 : Int) then Option.none else (if e.Op = (5 : Int) then (loopEv u_ (S := Nat) (fun s X => Qcd u_ e XR X s) 0) else (if e.Op = (6 : Int) then Option.none else (if e.Op = (8 : Int) then Option.none else (some (false))))))))
theorem Qfm {u_ : Nat} {XRe : Expr → Option (Bool)} {XR : Expr → (Bool → Prop) → Prop} {e : Expr} {K : Bool → Prop} (hXR : ∀ v0 (k : Bool → Prop), Sn k (XRe v0) (XR v0 k)) : Sn K (Qce u_ XRe e) (J5m XR e K) := by
 unfold Qce J5m
 exact (Sn.ite Sn.none (Sn.ite Sn.ret (Sn.ite Sn.none (Sn.ite (Sn.imp (Sn.loop fun s Xe X hX => Qfl hXR (fun _ => hX _))) (Sn.ite Sn.none (Sn.ite Sn.none Sn.ret))))))
def J61 (u_ : Nat) : Nat → Expr → Option (Bool)
 | 0 => fun _ => none
 | n + 1 => fun e => Qce u_ (J61 u_ n) e
def Qcf (u_ : Nat) (e : Expr) : Option (Bool) := J61 u_ u_ e
theorem Qec {u_ : Nat} {e : Expr} {K : Bool → Prop} : Sn K (Qcf u_ e) (J7D e K) := by
 intro r hr hk X hX
 have key : ∀ n (e : Expr) (K : Bool → Prop) r, J61 u_ n e = some r → K r → X e K := by
  intro n
  induction n with
  | zero => intro e K r hr; cases hr
  | succ n ih => exact fun e K r hr hk => hX e K (Qfm (fun e K r hr hk => ih e K r hr hk) r hr hk)
 exact key _ e K r hr hk
def Qcg (u_ : Nat) (letters : Int) (e : List (List Int)) (b : List Expr) (X2 : Nat → List Bool → Option (DFA × Int)) (a : Nat) (c : List Bool) : Option (DFA × Int) :=
 (if (a : Int) < b.length then (bE a b.length ((Qcf u_ ((⟨((ix b a).Op), ((ix b a).Letter), (ix b a).Kids⟩ : Expr))).bind fun d => (if c.length + ([d]).length ≤ 1099511627776 then (X2 (a + 1) (c ++ ([d]))) else Option.none))) else (some (((⟨letters, 0, c, e⟩ : DFA)), 0)))
theorem Qfn {u_ : Nat} {letters : Int} {c : List (List Int)} {d : List Expr} {K : DFA → Int → Prop} {e : Nat → List Bool → Option (DFA × Int)} {X2 : Nat → List Bool → Prop} {a : Nat} {b : List Bool} (f : ∀ v0 v1, Sn (fun p : DFA × Int => K p.1 p.2) (e v0 v1) (X2 v0 v1)) : Sn (fun p : DFA × Int => K p.1 p.2) (Qcg u_ letters c d e a b) (J7d letters c d K X2 a b) := by
 unfold Qcg J7d
 exact (Sn.ite (Sn.bd (Sn.bind Qec fun _ => (Sn.and (f _ _)))) Sn.ret)
def Qch (u_ : Nat) (g : Bool) (b : List Expr) (d : List Expr) (X2 : Nat → List Expr → Option (derived)) (a : Nat) (c : List Expr) : Option (derived) :=
 (if (a : Int) < b.length then (bE a b.length (if ((ix b a).Op) = (1 : Int) then (bE a c.length (X2 (a + 1) (st c a (⟨((ix b a).Op), ((ix b a).Letter), (ix b a).Kids⟩ : Expr)))) else (if 0 ≤ (a + 1 : Int) then (if (a + 1 : Int) ≤ (d.length : Int) then (if ([(⟨((ix b a).Op), ((ix b a).Letter), (ix b a).Kids⟩ : Expr)]).length + (d.drop (a + 1 : Int).toNat).length ≤ 1099511627776 then ((Qaa u_ 5 (([(⟨((ix b a).Op), ((ix b a).Letter), (ix b a).Kids⟩ : Expr)]) ++ (d.drop (a + 1 : Int).toNat))).bind fun h => (bE a c.length (X2 (a + 1) (st c a h)))) else Option.none) else Option.none) else Option.none))) else ((Qaa u_ 4 c).bind fun e => ((Qaa u_ 5 d).bind fun f => (some (((⟨(⟨e.Op, e.Letter, e.Kids⟩ : Expr), (⟨f.Op, f.Letter, f.Kids⟩ : Expr), g⟩ : derived)))))))
theorem Qfo {u_ : Nat} {a : Bool} {c : List Expr} {d : List Expr} {K : derived → Prop} {f : Nat → List Expr → Option (derived)} {X2 : Nat → List Expr → Prop} {b : Nat} {e : List Expr} (g : ∀ v0 v1, Sn K (f v0 v1) (X2 v0 v1)) : Sn K (Qch u_ a c d f b e) (J1i a c d K X2 b e) := by
 unfold Qch J1i
 exact (Sn.ite (Sn.bd (Sn.ite (Sn.bd (g _ _)) (Sn.and (Sn.and (Sn.and (Sn.bind Qae fun _ => (Sn.bd (g _ _)))))))) (Sn.bind Qae fun _ => (Sn.bind Qae fun _ => Sn.ret)))
def Qci (u_ : Nat) (a0 : deriver) (a1 : Expr) (XR : deriver → Expr → Option (derived)) (X1 : Bool → Nat → List Expr → List Expr → Option (derived)) (f : Bool) (a : Nat) (c : List Expr) (d : List Expr) : Option (derived) :=
 (if (a : Int) < a1.Kids.length then (bE a a1.Kids.length (if f = true then ((XR a0 ((⟨((ix a1.Kids a).Op), ((ix a1.Kids a).Letter), (ix a1.Kids a).Kids⟩ : Expr))).bind fun b => (bothEv (bothEv (if c.length + ([b.by_]).length ≤ 1099511627776 then (bothEv (bE a d.length (if b.nullable = true then Option.none else (X1 false (a + 1) (c ++ ([b.by_])) (st d a b.self)))) (if b.nullable = true then Option.none else (bE a d.length (X1 false (a + 1) (c ++ ([b.by_])) (st d a b.self))))) else Option.none) (bothEv (bothEv (if c.length + ([b.by_]).length ≤ 1099511627776 then (bE a d.length (if b.nullable = true then Option.none else (X1 false (a + 1) (c ++ ([b.by_])) (st d a b.self)))) else Option.none) (if b.nullable = true then Option.none else (if c.length + ([b.by_]).length ≤ 1099511627776 then (bE a d.length (X1 false (a + 1) (c ++ ([b.by_])) (st d a b.self))) else Option.none))) (if b.nullable = true then Option.none else (if c.length + ([b.by_]).length ≤ 1099511627776 then (bE a d.length (X1 false (a + 1) (c ++ ([b.by_])) (st d a b.self))) else Option.none)))) (bothEv (bothEv (bothEv (if c.length + ([b.by_]).length ≤ 1099511627776 then (bE a d.length (if b.nullable = true then Option.none else (X1 false (a + 1) (c ++ ([b.by_])) (st d a b.self)))) else Option.none) (if b.nullable = true then Option.none else (if c.length + ([b.by_]).length ≤ 1099511627776 then (bE a d.length (X1 false (a + 1) (c ++ ([b.by_])) (st d a b.self))) else Option.none))) (if b.nullable = true then Option.none else (if c.length + ([b.by_]).length ≤ 1099511627776 then (bE a d.length (X1 false (a + 1) (c ++ ([b.by_])) (st d a b.self))) else Option.none))) (if b.nullable = true then Option.none else (if c.length + ([b.by_]).length ≤ 1099511627776 then (bE a d.length (X1 false (a + 1) (c ++ ([b.by_])) (st d a b.self))) else Option.none))))) else (if a0.normal = true then (bE a d.length (X1 false (a + 1) c (st d a (⟨((ix a1.Kids a).Op), ((ix a1.Kids a).Letter), (ix a1.Kids a).Kids⟩ : Expr)))) else Option.none))) else (if 0 ≤ (c.length : Int) then (if (c.length : Int) ≤ 1099511627776 then (loopEv u_ (S := Nat × List Expr) (fun s X => Qch u_ f c d (fun g h => X (g, h)) s.1 s.2) (0, List.replicate c.length ((default : Expr)))) else Option.none) else Option.none))
theorem Qfp {u_ : Nat} {a0 : deriver} {a1 : Expr} {XRe : deriver → Expr → Option (derived)} {XR : deriver → Expr → (derived → Prop) → Prop} {K : derived → Prop} {f : Bool → Nat → List Expr → List Expr → Option (derived)} {X1 : Bool → Nat → List Expr → List Expr → Prop} {b : Bool} {c : Nat} {d : List Expr} {e : List Expr} (hXR : ∀ v0 v1 (k : derived → Prop), Sn k (XRe v0 v1) (XR v0 v1 k)) (a : ∀ v0 v1 v2 v3, Sn K (f v0 v1 v2 v3) (X1 v0 v1 v2 v3)) : Sn K (Qci u_ a0 a1 XRe f b c d e) (J1g a0 a1 XR K X1 b c d e) := by
 unfold Qci J1g
 exact (Sn.ite (Sn.bd (Sn.ite (Sn.bind (hXR _ _ _) fun _ => (Sn.both (Sn.both (Sn.and (Sn.both (Sn.bd (Sn.ite Sn.none (a _ _ _ _))) (Sn.ite Sn.none (Sn.bd (a _ _ _ _))))) (Sn.both (Sn.both (Sn.and (Sn.bd (Sn.ite Sn.none (a _ _ _ _)))) (Sn.ite Sn.none (Sn.and (Sn.bd (a _ _ _ _))))) (Sn.ite Sn.none (Sn.and (Sn.bd (a _ _ _ _)))))) (Sn.both (Sn.both (Sn.both (Sn.and (Sn.bd (Sn.ite Sn.none (a _ _ _ _)))) (Sn.ite Sn.none (Sn.and (Sn.bd (a _ _ _ _))))) (Sn.ite Sn.none (Sn.and (Sn.bd (a _ _ _ _))))) (Sn.ite Sn.none (Sn.and (Sn.bd (a _ _ _ _))))))) (Sn.ite (Sn.bd (a _ _ _ _)) Sn.none))) (Sn.and (Sn.and (Sn.loop fun s Xe X hX => Qfo (fun _ _ => hX _)))))
def Qcj (u_ : Nat) (XR : deriver → Expr → Option (derived)) (a0 : deriver) (a1 : Expr) : Option (derived) :=
 (if a1.Op = (2 : Int) then Option.none else (if a1.Op = (3 : Int) then (if a1.Letter = a0.letter then (some (((⟨(⟨2, 0, ([] : List Expr)⟩ : Expr), (⟨3, a1.Letter, ([] : List Expr)⟩ : Expr), false⟩ : derived)))) else (some (((⟨(⟨1, 0, ([] : List Expr)⟩ : Expr), (⟨3, a1.Letter, ([] : List Expr)⟩ : Expr), false⟩ : derived))))) else (if a1.Op = (4 : Int) then Option.none else (if a1.Op = (6 : Int) then Option.none else (if a1.Op = (8 : Int) then Option.none else (if a1.Op = (7 : Int) then (bE (0 : Int) (a1.Kids.length : Int) ((XR a0 ((⟨((ix a1.Kids (0 : Int)).Op), ((ix a1.Kids (0 : Int)).Letter), (ix a1.Kids (0 : Int)).Kids⟩ : Expr))).bind fun g => ((Qaa u_ 7 ([g.self])).bind fun a => ((Qaa u_ 5 ([g.by_, a])).bind fun b => (some (((⟨(⟨b.Op, b.Letter, b.Kids⟩ : Expr), (⟨a.Op, a.Letter, a.Kids⟩ : Expr), true⟩ : derived)))))))) else (if a1.Op = (5 : Int) then (if 0 ≤ (a1.Kids.length : Int) then (if (a1.Kids.length : Int) ≤ 1099511627776 then (loopEv u_ (S := Bool × Nat × List Expr × List Expr) (fun s X => Qci u_ a0 a1 XR (fun c d e f => X (c, d, e, f)) s.1 s.2.1 s.2.2.1 s.2.2.2) (true, 0, ([] : List Expr), List.replicate a1.Kids.length ((default : Expr)))) else Option.none) else Option.none) else (some (((⟨(⟨1, 0, ([] : List Expr)⟩ : Expr), (⟨1, 0, ([] : List Expr)⟩ : Expr), false⟩ : derived)))))))))))
theorem Qfq {u_ : Nat} {XRe : deriver → Expr → Option (derived)} {XR : deriver → Expr → (derived → Prop) → Prop} {a0 : deriver} {a1 : Expr} {K : derived → Prop} (hXR : ∀ v0 v1 (k : derived → Prop), Sn k (XRe v0 v1) (XR v0 v1 k)) : Sn K (Qcj u_ XRe a0 a1) (J0Q XR a0 a1 K) := by
 unfold Qcj J0Q
 exact (Sn.ite Sn.none (Sn.ite (Sn.ite Sn.ret Sn.ret) (Sn.ite Sn.none (Sn.ite Sn.none (Sn.ite Sn.none (Sn.ite (Sn.bd (Sn.bind (hXR _ _ _) fun _ => (Sn.bind Qae fun _ => (Sn.bind Qae fun _ => Sn.ret)))) (Sn.ite (Sn.imp (Sn.and (Sn.and (Sn.loop fun s Xe X hX => Qfp hXR (fun _ _ _ _ => hX _))))) Sn.ret)))))))
def J1b (u_ : Nat) : Nat → deriver → Expr → Option (derived)
 | 0 => fun _ _ => none
 | n + 1 => fun a0 a1 => Qcj u_ (J1b u_ n) a0 a1
def Qed (u_ : Nat) (a0 : deriver) (a1 : Expr) : Option (derived) := J1b u_ u_ a0 a1
theorem Qfr {u_ : Nat} {a0 : deriver} {a1 : Expr} {K : derived → Prop} : Sn K (Qed u_ a0 a1) (J1R a0 a1 K) := by
 intro r hr hk X hX
 have key : ∀ n (a0 : deriver) (a1 : Expr) (K : derived → Prop) r, J1b u_ n a0 a1 = some r → K r → X a0 a1 K := by
  intro n
  induction n with
  | zero => intro a0 a1 K r hr; cases hr
  | succ n ih => exact fun a0 a1 K r hr hk => hX a0 a1 K (Qfq (fun a0 a1 K r hr hk => ih a0 a1 K r hr hk) r hr hk)
 exact key _ a0 a1 K r hr hk
def Qck (u_ : Nat) (d : derived) : Option (Expr × Int) :=
 ((Qah u_ d.by_ 6).bind fun r7 => (if r7 = 0 then (some (((⟨d.by_.Op, d.by_.Letter, d.by_.Kids⟩ : Expr)), 0)) else Option.none))
theorem Qfs {u_ : Nat} {d : derived} {K : Expr → Int → Prop}  : Sn (fun p : Expr × Int => K p.1 p.2) (Qck u_ d) (J3A d K) := by
 unfold Qck J3A
 exact (Sn.bind Qbg fun _ => (Sn.ite Sn.ret Sn.none))
def Qav (u_ : Nat) (e : Expr) (letter : Int) : Option (Expr × Int) :=
 ((Qed u_ ((⟨letter, true⟩ : deriver)) e).bind fun r7 => ((Qck u_ r7).bind fun (p : (Expr) × (Int)) => (fun (r9 : Expr) (a : Int) => (some (((⟨r9.Op, r9.Letter, r9.Kids⟩ : Expr)), a))) p.1 p.2))
theorem Qee {u_ : Nat} {e : Expr} {letter : Int} {K : Expr → Int → Prop}  : Sn (fun p : Expr × Int => K p.1 p.2) (Qav u_ e letter) (J26 e letter K) := by
 unfold Qav J26
 exact (Sn.bind Qfr fun _ => (Sn.bind Qfs fun _ => Sn.ret))
def Qcl (u_ : Nat) (letters : Int) (d : Int) (g : List (List Int)) (X1 : Int → List (List Int) → List Expr → List (Str × Int) → Option (DFA × Int)) (X3 : Nat → List Int → List Expr → List (Str × Int) → Option (DFA × Int)) (b : Nat) (e : List Int) (a : List Expr) (c : List (Str × Int)) : Option (DFA × Int) :=
 (if (b : Int) < ((List.replicate letters.toNat ((0 : Int))).length : Int) then (bE d (a.length : Int) ((Qav u_ ((⟨((ix a d).Op), ((ix a d).Letter), (ix a d).Kids⟩ : Expr)) ((b : Int))).bind fun (p : (Expr) × (Int)) => (fun (f : Expr) (i : Int) => (if i = 0 then ((Qac u_ f).bind fun h => (if mhas c h = true then (bE (b : Int) (e.length : Int) (if I64 ((b : Int) + (1 : Int)) then (X3 (b + 1) (st e (b : Int) (mgt c h)) a c) else Option.none)) else (if (a.length : Int) = 512 then Option.none else ((Qac u_ f).bind fun j => (if a.length + ([(⟨(0 : Int), (0 : Int), []⟩ : Expr)]).length ≤ 1099511627776 then (bE (a.length : Int) ((a ++ ([(⟨(0 : Int), (0 : Int), []⟩ : Expr)])).length : Int) (bE (b : Int) (e.length : Int) (if I64 ((b : Int) + (1 : Int)) then (X3 (b + 1) (st e (b : Int) (a.length : Int)) (st (a ++ ([(⟨(0 : Int), (0 : Int), []⟩ : Expr)])) (a.length : Int) f) (mput c j ((a.length : Int)))) else Option.none))) else Option.none))))) else Option.none)) p.1 p.2)) else (if g.length + ([e]).length ≤ 1099511627776 then (if I64 (d + (1 : Int)) then (X1 ((d + (1 : Int))) (g ++ ([e])) a c) else Option.none) else Option.none))
theorem Qft {u_ : Nat} {letters : Int} {c : Int} {f : List (List Int)} {g : Int → List (List Int) → List Expr → List (Str × Int) → Option (DFA × Int)} {X1 : Int → List (List Int) → List Expr → List (Str × Int) → Prop} {K : DFA → Int → Prop} {h : Nat → List Int → List Expr → List (Str × Int) → Option (DFA × Int)} {X3 : Nat → List Int → List Expr → List (Str × Int) → Prop} {a : Nat} {d : List Int} {e : List Expr} {b : List (Str × Int)} (j : ∀ v0 v1 v2 v3, Sn (fun p : DFA × Int => K p.1 p.2) (g v0 v1 v2 v3) (X1 v0 v1 v2 v3)) (i : ∀ v0 v1 v2 v3, Sn (fun p : DFA × Int => K p.1 p.2) (h v0 v1 v2 v3) (X3 v0 v1 v2 v3)) : Sn (fun p : DFA × Int => K p.1 p.2) (Qcl u_ letters c f g h a d e b) (J7i letters c f X1 K X3 a d e b) := by
 unfold Qcl J7i
 exact (Sn.ite (Sn.bd (Sn.bind Qee fun _ => (Sn.ite (Sn.bind Qal fun _ => (Sn.ite (Sn.bd (Sn.and (i _ _ _ _))) (Sn.ite Sn.none (Sn.bind Qal fun _ => (Sn.and (Sn.bd (Sn.bd (Sn.and (i _ _ _ _))))))))) Sn.none))) (Sn.and (Sn.and (j _ _ _ _))))
def Qcm (u_ : Nat) (letters : Int) (X1 : Int → List (List Int) → List Expr → List (Str × Int) → Option (DFA × Int)) (b : Int) (c : List (List Int)) (a : List Expr) (f : List (Str × Int)) : Option (DFA × Int) :=
 (if b = (a.length : Int) then (loopEv u_ (S := Nat × List Bool) (fun s X => Qcg u_ letters c a (fun g h => X (g, h)) s.1 s.2) (0, ([] : List Bool))) else (if 0 ≤ letters then (if letters ≤ 1099511627776 then (loopEv u_ (S := Nat × List Int × List Expr × (List (Str × Int))) (fun s X => Qcl u_ letters b c X1 (fun d i j e => X (d, i, j, e)) s.1 s.2.1 s.2.2.1 s.2.2.2) (0, List.replicate letters.toNat 0, a, f)) else Option.none) else Option.none))
theorem Qfu {u_ : Nat} {letters : Int} {K : DFA → Int → Prop} {e : Int → List (List Int) → List Expr → List (Str × Int) → Option (DFA × Int)} {X1 : Int → List (List Int) → List Expr → List (Str × Int) → Prop} {a : Int} {c : List (List Int)} {d : List Expr} {b : List (Str × Int)} (f : ∀ v0 v1 v2 v3, Sn (fun p : DFA × Int => K p.1 p.2) (e v0 v1 v2 v3) (X1 v0 v1 v2 v3)) : Sn (fun p : DFA × Int => K p.1 p.2) (Qcm u_ letters e a c d b) (J6L letters K X1 a c d b) := by
 unfold Qcm J6L
 exact (Sn.ite (Sn.loop fun s Xe X hX => Qfn (fun _ _ => hX _)) (Sn.and (Sn.and (Sn.loop fun s Xe X hX => Qft f (fun _ _ _ _ => hX _)))))
def Qcn (u_ : Nat) (letters : Int) (e : List (List Int)) (b : List Expr) (X5 : Nat → List Bool → Option (DFA × Int)) (a : Nat) (c : List Bool) : Option (DFA × Int) :=
 (if (a : Int) < b.length then (bE a b.length ((Qcf u_ ((⟨((ix b a).Op), ((ix b a).Letter), (ix b a).Kids⟩ : Expr))).bind fun d => (if c.length + ([d]).length ≤ 1099511627776 then (X5 (a + 1) (c ++ ([d]))) else Option.none))) else (some (((⟨letters, 0, c, e⟩ : DFA)), 0)))
theorem Qfv {u_ : Nat} {letters : Int} {b : List (List Int)} {c : List Expr} {K : DFA → Int → Prop} {e : Nat → List Bool → Option (DFA × Int)} {X5 : Nat → List Bool → Prop} {a : Nat} {d : List Bool} (f : ∀ v0 v1, Sn (fun p : DFA × Int => K p.1 p.2) (e v0 v1) (X5 v0 v1)) : Sn (fun p : DFA × Int => K p.1 p.2) (Qcn u_ letters b c e a d) (J6N letters b c K X5 a d) := by
 unfold Qcn J6N
 exact (Sn.ite (Sn.bd (Sn.bind Qec fun _ => (Sn.and (f _ _)))) Sn.ret)
def Qco (u_ : Nat) (letters : Int) (c : Int) (g : List (List Int)) (X4 : Int → List (List Int) → List Expr → List (Str × Int) → Option (DFA × Int)) (X6 : Nat → List Int → List Expr → List (Str × Int) → Option (DFA × Int)) (b : Nat) (e : List Int) (a : List Expr) (d : List (Str × Int)) : Option (DFA × Int) :=
 (if (b : Int) < ((List.replicate letters.toNat ((0 : Int))).length : Int) then (bE c (a.length : Int) ((Qav u_ ((⟨((ix a c).Op), ((ix a c).Letter), (ix a c).Kids⟩ : Expr)) ((b : Int))).bind fun (p : (Expr) × (Int)) => (fun (f : Expr) (i : Int) => (if i = 0 then ((Qac u_ f).bind fun h => (if mhas d h = true then (bE (b : Int) (e.length : Int) (if I64 ((b : Int) + (1 : Int)) then (X6 (b + 1) (st e (b : Int) (mgt d h)) a d) else Option.none)) else (if (a.length : Int) = 512 then Option.none else ((Qac u_ f).bind fun j => (if a.length + ([(⟨(0 : Int), (0 : Int), []⟩ : Expr)]).length ≤ 1099511627776 then (bE (a.length : Int) ((a ++ ([(⟨(0 : Int), (0 : Int), []⟩ : Expr)])).length : Int) (bE (b : Int) (e.length : Int) (if I64 ((b : Int) + (1 : Int)) then (X6 (b + 1) (st e (b : Int) (a.length : Int)) (st (a ++ ([(⟨(0 : Int), (0 : Int), []⟩ : Expr)])) (a.length : Int) f) (mput d j ((a.length : Int)))) else Option.none))) else Option.none))))) else Option.none)) p.1 p.2)) else (if g.length + ([e]).length ≤ 1099511627776 then (if I64 (c + (1 : Int)) then (X4 ((c + (1 : Int))) (g ++ ([e])) a d) else Option.none) else Option.none))
theorem Qfw {u_ : Nat} {letters : Int} {a : Int} {d : List (List Int)} {g : Int → List (List Int) → List Expr → List (Str × Int) → Option (DFA × Int)} {X4 : Int → List (List Int) → List Expr → List (Str × Int) → Prop} {K : DFA → Int → Prop} {h : Nat → List Int → List Expr → List (Str × Int) → Option (DFA × Int)} {X6 : Nat → List Int → List Expr → List (Str × Int) → Prop} {b : Nat} {e : List Int} {f : List Expr} {c : List (Str × Int)} (j : ∀ v0 v1 v2 v3, Sn (fun p : DFA × Int => K p.1 p.2) (g v0 v1 v2 v3) (X4 v0 v1 v2 v3)) (i : ∀ v0 v1 v2 v3, Sn (fun p : DFA × Int => K p.1 p.2) (h v0 v1 v2 v3) (X6 v0 v1 v2 v3)) : Sn (fun p : DFA × Int => K p.1 p.2) (Qco u_ letters a d g h b e f c) (J6K letters a d X4 K X6 b e f c) := by
 unfold Qco J6K
 exact (Sn.ite (Sn.bd (Sn.bind Qee fun _ => (Sn.ite (Sn.bind Qal fun _ => (Sn.ite (Sn.bd (Sn.and (i _ _ _ _))) (Sn.ite Sn.none (Sn.bind Qal fun _ => (Sn.and (Sn.bd (Sn.bd (Sn.and (i _ _ _ _))))))))) Sn.none))) (Sn.and (Sn.and (j _ _ _ _))))
def Qcp (u_ : Nat) (letters : Int) (X4 : Int → List (List Int) → List Expr → List (Str × Int) → Option (DFA × Int)) (b : Int) (c : List (List Int)) (a : List Expr) (d : List (Str × Int)) : Option (DFA × Int) :=
 (if b = (a.length : Int) then (loopEv u_ (S := Nat × List Bool) (fun s X => Qcn u_ letters c a (fun e h => X (e, h)) s.1 s.2) (0, ([] : List Bool))) else (if 0 ≤ letters then (if letters ≤ 1099511627776 then (loopEv u_ (S := Nat × List Int × List Expr × (List (Str × Int))) (fun s X => Qco u_ letters b c X4 (fun f i j g => X (f, i, j, g)) s.1 s.2.1 s.2.2.1 s.2.2.2) (0, List.replicate letters.toNat 0, a, d)) else Option.none) else Option.none))
theorem Qfx {u_ : Nat} {letters : Int} {K : DFA → Int → Prop} {e : Int → List (List Int) → List Expr → List (Str × Int) → Option (DFA × Int)} {X4 : Int → List (List Int) → List Expr → List (Str × Int) → Prop} {a : Int} {c : List (List Int)} {d : List Expr} {b : List (Str × Int)} (f : ∀ v0 v1 v2 v3, Sn (fun p : DFA × Int => K p.1 p.2) (e v0 v1 v2 v3) (X4 v0 v1 v2 v3)) : Sn (fun p : DFA × Int => K p.1 p.2) (Qcp u_ letters e a c d b) (J78 letters K X4 a c d b) := by
 unfold Qcp J78
 exact (Sn.ite (Sn.loop fun s Xe X hX => Qfv (fun _ _ => hX _)) (Sn.and (Sn.and (Sn.loop fun s Xe X hX => Qfw f (fun _ _ _ _ => hX _)))))
def Qcq (u_ : Nat) (e : Expr) (letters : Int) : Option (DFA × Int) :=
 ((Qah u_ e letters).bind fun r7 => (if r7 = 0 then ((Qby u_ e).bind fun a => ((Qac u_ a).bind fun i => (if (([] : List Expr)).length + ([(⟨0, 0, []⟩ : Expr)]).length ≤ 1099511627776 then (bE (0 : Int) (((([] : List Expr)) ++ ([(⟨0, 0, []⟩ : Expr)])).length : Int) (bothEv (loopEv u_ (S := Int × List (List Int) × List Expr × (List (Str × Int))) (fun s X => Qcm u_ letters (fun d j k f => X (d, j, k, f)) s.1 s.2.1 s.2.2.1 s.2.2.2) ((0 : Int), ([] : List (List Int)), st ((([] : List Expr)) ++ ([(⟨0, 0, []⟩ : Expr)])) (0 : Int) a, mput (([] : List (Str × Int))) i 0)) (loopEv u_ (S := Int × List (List Int) × List Expr × (List (Str × Int))) (fun s X => Qcp u_ letters (fun b g h c => X (b, g, h, c)) s.1 s.2.1 s.2.2.1 s.2.2.2) ((0 : Int), ([] : List (List Int)), st ((([] : List Expr)) ++ ([(⟨0, 0, []⟩ : Expr)])) (0 : Int) a, mput (([] : List (Str × Int))) i 0)))) else Option.none))) else Option.none))
theorem Qfy {u_ : Nat} {e : Expr} {letters : Int} {K : DFA → Int → Prop}  : Sn (fun p : DFA × Int => K p.1 p.2) (Qcq u_ e letters) (J5r e letters K) := by
 unfold Qcq J5r
 exact (Sn.bind Qbg fun _ => (Sn.ite (Sn.bind Qfg fun _ => (Sn.bind Qal fun _ => (Sn.and (Sn.bd (Sn.both (Sn.loop fun s Xe X hX => Qfu (fun _ _ _ _ => hX _)) (Sn.loop fun s Xe X hX => Qfx (fun _ _ _ _ => hX _))))))) Sn.none))
def Qcr (u_ : Nat) (d : DFA) (a : Nat) (X1 : Nat → Option (Int)) (X2 : Nat → Option (Int)) (b : Nat) : Option (Int) :=
 (if (b : Int) < ((ix d.Next a).length : Int) then (bE b ((ix d.Next a).length : Int) (if (ix (ix d.Next a) b) < 0 then (some (4)) else (if (d.Final.length : Int) ≤ (ix (ix d.Next a) b) then (some (4)) else (X2 (b + 1))))) else (X1 (a + 1)))
theorem Qfz {u_ : Nat} {d : DFA} {a : Nat} {c : Nat → Option (Int)} {X1 : Nat → Prop} {K : Int → Prop} {e : Nat → Option (Int)} {X2 : Nat → Prop} {b : Nat} (f : ∀ v0, Sn K (c v0) (X1 v0)) (g : ∀ v0, Sn K (e v0) (X2 v0)) : Sn K (Qcr u_ d a c e b) (J2K d a X1 K X2 b) := by
 unfold Qcr J2K
 exact (Sn.ite (Sn.bd (Sn.ite Sn.ret (Sn.ite Sn.ret (g _)))) (f _))
def Qcs (u_ : Nat) (d : DFA) (X1 : Nat → Option (Int)) (a : Nat) : Option (Int) :=
 (if (a : Int) < d.Next.length then (bE a d.Next.length (if ((ix d.Next a).length : Int) = d.Letters then (loopEv u_ (S := Nat) (fun s X => Qcr u_ d a X1 X s) 0) else (some (4)))) else (some (0)))
theorem Qga {u_ : Nat} {d : DFA} {K : Int → Prop} {b : Nat → Option (Int)} {X1 : Nat → Prop} {a : Nat} (c : ∀ v0, Sn K (b v0) (X1 v0)) : Sn K (Qcs u_ d b a) (J2Q d K X1 a) := by
 unfold Qcs J2Q
 exact (Sn.ite (Sn.bd (Sn.imp (Sn.ite (Sn.loop fun s Xe X hX => Qfz c (fun _ => hX _)) Sn.ret))) Sn.ret)
def Qam (u_ : Nat) (d : DFA) : Option (Int) :=
 (if d.Letters < (1 : Int) then (some (1)) else (if 6 < d.Letters then (some (1)) else (if 512 < (d.Final.length : Int) then (some (3)) else (if (d.Next.length : Int) = d.Final.length then (if d.Start < (0 : Int) then (some (4)) else (if (d.Final.length : Int) ≤ d.Start then (some (4)) else (loopEv u_ (S := Nat) (fun s X => Qcs u_ d X s) 0))) else (some (4))))))
theorem Qct {u_ : Nat} {d : DFA} {K : Int → Prop}  : Sn K (Qam u_ d) (J0B d K) := by
 unfold Qam J0B
 exact (Sn.ite Sn.ret (Sn.ite Sn.ret (Sn.imp (Sn.ite Sn.ret (Sn.imp (Sn.ite (Sn.ite Sn.ret (Sn.ite Sn.ret (Sn.loop fun s Xe X hX => Qga (fun _ => hX _)))) Sn.ret))))))
def Qcu (u_ : Nat) (a : List Int) (X4 : Nat → Option (DFA × (List Int))) (k4_110 : Nat) : Option (DFA × (List Int)) :=
 (some (((⟨0, 0, ([] : List Bool), ([] : List (List Int))⟩ : DFA)), a))
theorem Qgb {u_ : Nat} {a : List Int} {K : DFA → List Int → Prop} {c : Nat → Option (DFA × (List Int))} {X4 : Nat → Prop} {b : Nat} (hX4 : ∀ v0, Sn (fun p : DFA × (List Int) => K p.1 p.2) (c v0) (X4 v0)) : Sn (fun p : DFA × (List Int) => K p.1 p.2) (Qcu u_ a c b) (Jas a K X4 b) := by
 unfold Qcu Jas
 exact Sn.ret
def Qcv (u_ : Nat) (d : DFA) (X3 : Nat → List Int → Option (DFA × (List Int))) (b : Nat) (a : List Int) : Option (DFA × (List Int)) :=
 (if (b : Int) < ((List.replicate d.Final.length ((0 : Int))).length : Int) then (bE (b : Int) (a.length : Int) (if I64 ((b : Int) + (1 : Int)) then (X3 (b + 1) (st a (b : Int) (-1 : Int))) else Option.none)) else (loopEv u_ (S := Nat) (fun s X => Qcu u_ a X s) 0))
theorem Qgc {u_ : Nat} {d : DFA} {K : DFA → List Int → Prop} {c : Nat → List Int → Option (DFA × (List Int))} {X3 : Nat → List Int → Prop} {b : Nat} {a : List Int} (e : ∀ v0 v1, Sn (fun p : DFA × (List Int) => K p.1 p.2) (c v0 v1) (X3 v0 v1)) : Sn (fun p : DFA × (List Int) => K p.1 p.2) (Qcv u_ d c b a) (JaP d K X3 b a) := by
 unfold Qcv JaP
 exact (Sn.ite (Sn.bd (Sn.and (e _ _))) (Sn.loop fun s Xe X hX => Qgb (fun _ => hX _)))
def Qcw (u_ : Nat) (d : DFA) (b : Nat) (i : List (List Int)) (j : List Bool) (c : List Int) (X1 : Nat → List (List Int) → List Bool → List Int → List (Int × Int) → Option (DFA × (List Int))) (X2 : Nat → List Int → List Int → List (Int × Int) → Option (DFA × (List Int))) (a : Nat) (g : List Int) (e : List Int) (f : List (Int × Int)) : Option (DFA × (List Int)) :=
 (if (a : Int) < ((List.replicate d.Letters.toNat ((0 : Int))).length : Int) then (bE (ix c (b : Int)) (d.Next.length : Int) (bE (a : Int) ((ix d.Next (ix c (b : Int))).length : Int) (if mhas f ((ix (ix d.Next (ix c (b : Int))) (a : Int))) = true then (bE (a : Int) (g.length : Int) (if I64 ((a : Int) + (1 : Int)) then (X2 (a + 1) (st g (a : Int) (mgt f ((ix (ix d.Next (ix c (b : Int))) (a : Int))))) e f) else Option.none)) else (if e.length + ([(ix (ix d.Next (ix c (b : Int))) (a : Int))]).length ≤ 1099511627776 then (bE (a : Int) (g.length : Int) (if I64 ((a : Int) + (1 : Int)) then (X2 (a + 1) (st g (a : Int) (e.length : Int)) (e ++ ([(ix (ix d.Next (ix c (b : Int))) (a : Int))])) (mput f ((ix (ix d.Next (ix c (b : Int))) (a : Int))) ((e.length : Int)))) else Option.none)) else Option.none)))) else (if 512 < (e.length : Int) then (if 0 ≤ (d.Final.length : Int) then (if (d.Final.length : Int) ≤ 1099511627776 then (loopEv u_ (S := Nat × List Int) (fun s X => Qcv u_ d (fun k h => X (k, h)) s.1 s.2) (0, List.replicate d.Final.length ((0 : Int)))) else Option.none) else Option.none) else (if i.length + ([g]).length ≤ 1099511627776 then (bE (ix c (b : Int)) (d.Final.length : Int) (if j.length + ([ix d.Final (ix c (b : Int))]).length ≤ 1099511627776 then (if I64 ((b : Int) + (1 : Int)) then (X1 (b + 1) (i ++ ([g])) (j ++ ([ix d.Final (ix c (b : Int))])) e f) else Option.none) else Option.none)) else Option.none)))
theorem Qgd {u_ : Nat} {d : DFA} {a : Nat} {e : List (List Int)} {f : List Bool} {g : List Int} {j : Nat → List (List Int) → List Bool → List Int → List (Int × Int) → Option (DFA × (List Int))} {X1 : Nat → List (List Int) → List Bool → List Int → List (Int × Int) → Prop} {K : DFA → List Int → Prop} {k : Nat → List Int → List Int → List (Int × Int) → Option (DFA × (List Int))} {X2 : Nat → List Int → List Int → List (Int × Int) → Prop} {b : Nat} {h : List Int} {i : List Int} {c : List (Int × Int)} (m : ∀ v0 v1 v2 v3 v4, Sn (fun p : DFA × (List Int) => K p.1 p.2) (j v0 v1 v2 v3 v4) (X1 v0 v1 v2 v3 v4)) (l : ∀ v0 v1 v2 v3, Sn (fun p : DFA × (List Int) => K p.1 p.2) (k v0 v1 v2 v3) (X2 v0 v1 v2 v3)) : Sn (fun p : DFA × (List Int) => K p.1 p.2) (Qcw u_ d a e f g j k b h i c) (J8r d a e f g X1 K X2 b h i c) := by
 unfold Qcw J8r
 exact (Sn.ite (Sn.bd (Sn.bd (Sn.ite (Sn.bd (Sn.and (l _ _ _ _))) (Sn.and (Sn.bd (Sn.and (l _ _ _ _))))))) (Sn.ite (Sn.imp (Sn.and (Sn.and (Sn.loop fun s Xe X hX => Qgc (fun _ _ => hX _))))) (Sn.and (Sn.bd (Sn.and (Sn.and (m _ _ _ _ _)))))))
def Qcx (u_ : Nat) (d : DFA) (e : List (List Int)) (f : List Bool) (c : List Int) (X6 : Nat → List Int → Option (DFA × (List Int))) (b : Nat) (a : List Int) : Option (DFA × (List Int)) :=
 (if (b : Int) < c.length then (bE b c.length (bE (ix c b) (a.length : Int) (X6 (b + 1) (st a (ix c b) (b : Int))))) else (some (((⟨d.Letters, 0, f, e⟩ : DFA)), a)))
theorem Qge {u_ : Nat} {d : DFA} {c : List (List Int)} {e : List Bool} {f : List Int} {K : DFA → List Int → Prop} {g : Nat → List Int → Option (DFA × (List Int))} {X6 : Nat → List Int → Prop} {b : Nat} {a : List Int} (h : ∀ v0 v1, Sn (fun p : DFA × (List Int) => K p.1 p.2) (g v0 v1) (X6 v0 v1)) : Sn (fun p : DFA × (List Int) => K p.1 p.2) (Qcx u_ d c e f g b a) (J6Q d c e f K X6 b a) := by
 unfold Qcx J6Q
 exact (Sn.ite (Sn.bd (Sn.bd (h _ _))) Sn.ret)
def Qcy (u_ : Nat) (d : DFA) (f : List (List Int)) (g : List Bool) (h : List Int) (X5 : Nat → List Int → Option (DFA × (List Int))) (b : Nat) (a : List Int) : Option (DFA × (List Int)) :=
 (if (b : Int) < ((List.replicate d.Final.length ((0 : Int))).length : Int) then (bE (b : Int) (a.length : Int) (if I64 ((b : Int) + (1 : Int)) then (X5 (b + 1) (st a (b : Int) (-1 : Int))) else Option.none)) else (loopEv u_ (S := Nat × List Int) (fun s X => Qcx u_ d f g h (fun e c => X (e, c)) s.1 s.2) (0, a)))
theorem Qgf {u_ : Nat} {d : DFA} {c : List (List Int)} {e : List Bool} {f : List Int} {K : DFA → List Int → Prop} {g : Nat → List Int → Option (DFA × (List Int))} {X5 : Nat → List Int → Prop} {b : Nat} {a : List Int} (h : ∀ v0 v1, Sn (fun p : DFA × (List Int) => K p.1 p.2) (g v0 v1) (X5 v0 v1)) : Sn (fun p : DFA × (List Int) => K p.1 p.2) (Qcy u_ d c e f g b a) (J7e d c e f K X5 b a) := by
 unfold Qcy J7e
 exact (Sn.ite (Sn.bd (Sn.and (h _ _))) (Sn.loop fun s Xe X hX => Qge (fun _ _ => hX _)))
def Qcz (u_ : Nat) (d : DFA) (e : List (List Int)) (f : List Bool) (c : List Int) (X8 : Nat → List Int → Option (DFA × (List Int))) (b : Nat) (a : List Int) : Option (DFA × (List Int)) :=
 (if (b : Int) < c.length then (bE b c.length (bE (ix c b) (a.length : Int) (X8 (b + 1) (st a (ix c b) (b : Int))))) else (some (((⟨d.Letters, 0, f, e⟩ : DFA)), a)))
theorem Qgg {u_ : Nat} {d : DFA} {c : List (List Int)} {e : List Bool} {f : List Int} {K : DFA → List Int → Prop} {g : Nat → List Int → Option (DFA × (List Int))} {X8 : Nat → List Int → Prop} {b : Nat} {a : List Int} (h : ∀ v0 v1, Sn (fun p : DFA × (List Int) => K p.1 p.2) (g v0 v1) (X8 v0 v1)) : Sn (fun p : DFA × (List Int) => K p.1 p.2) (Qcz u_ d c e f g b a) (JaF d c e f K X8 b a) := by
 unfold Qcz JaF
 exact (Sn.ite (Sn.bd (Sn.bd (h _ _))) Sn.ret)
def Qda (u_ : Nat) (d : DFA) (f : List (List Int)) (g : List Bool) (h : List Int) (X7 : Nat → List Int → Option (DFA × (List Int))) (b : Nat) (a : List Int) : Option (DFA × (List Int)) :=
 (if (b : Int) < ((List.replicate d.Final.length ((0 : Int))).length : Int) then (bE (b : Int) (a.length : Int) (if I64 ((b : Int) + (1 : Int)) then (X7 (b + 1) (st a (b : Int) (-1 : Int))) else Option.none)) else (loopEv u_ (S := Nat × List Int) (fun s X => Qcz u_ d f g h (fun e c => X (e, c)) s.1 s.2) (0, a)))
theorem Qgh {u_ : Nat} {d : DFA} {c : List (List Int)} {e : List Bool} {f : List Int} {K : DFA → List Int → Prop} {g : Nat → List Int → Option (DFA × (List Int))} {X7 : Nat → List Int → Prop} {b : Nat} {a : List Int} (h : ∀ v0 v1, Sn (fun p : DFA × (List Int) => K p.1 p.2) (g v0 v1) (X7 v0 v1)) : Sn (fun p : DFA × (List Int) => K p.1 p.2) (Qda u_ d c e f g b a) (JaV d c e f K X7 b a) := by
 unfold Qda JaV
 exact (Sn.ite (Sn.bd (Sn.and (h _ _))) (Sn.loop fun s Xe X hX => Qgg (fun _ _ => hX _)))
def Qdb (u_ : Nat) (d : DFA) (X1 : Nat → List (List Int) → List Bool → List Int → List (Int × Int) → Option (DFA × (List Int))) (e : Nat) (f : List (List Int)) (g : List Bool) (a : List Int) (j : List (Int × Int)) : Option (DFA × (List Int)) :=
 (if (e : Int) < a.length then (bE e a.length (if 0 ≤ d.Letters then (if d.Letters ≤ 1099511627776 then (loopEv u_ (S := Nat × List Int × List Int × (List (Int × Int))) (fun s X => Qcw u_ d e f g a X1 (fun k m n l => X (k, m, n, l)) s.1 s.2.1 s.2.2.1 s.2.2.2) (0, List.replicate d.Letters.toNat 0, a, j)) else Option.none) else Option.none)) else (bothEv (if 0 ≤ (d.Final.length : Int) then (if (d.Final.length : Int) ≤ 1099511627776 then (loopEv u_ (S := Nat × List Int) (fun s X => Qcy u_ d f g a (fun h b => X (h, b)) s.1 s.2) (0, List.replicate d.Final.length 0)) else Option.none) else Option.none) (if 0 ≤ (d.Final.length : Int) then (if (d.Final.length : Int) ≤ 1099511627776 then (loopEv u_ (S := Nat × List Int) (fun s X => Qda u_ d f g a (fun i c => X (i, c)) s.1 s.2) (0, List.replicate d.Final.length 0)) else Option.none) else Option.none)))
theorem Qgi {u_ : Nat} {d : DFA} {K : DFA → List Int → Prop} {g : Nat → List (List Int) → List Bool → List Int → List (Int × Int) → Option (DFA × (List Int))} {X1 : Nat → List (List Int) → List Bool → List Int → List (Int × Int) → Prop} {a : Nat} {c : List (List Int)} {e : List Bool} {f : List Int} {b : List (Int × Int)} (h : ∀ v0 v1 v2 v3 v4, Sn (fun p : DFA × (List Int) => K p.1 p.2) (g v0 v1 v2 v3 v4) (X1 v0 v1 v2 v3 v4)) : Sn (fun p : DFA × (List Int) => K p.1 p.2) (Qdb u_ d g a c e f b) (J8u d K X1 a c e f b) := by
 unfold Qdb J8u
 exact (Sn.ite (Sn.bd (Sn.and (Sn.and (Sn.loop fun s Xe X hX => Qgd h (fun _ _ _ _ => hX _))))) (Sn.both (Sn.imp (Sn.and (Sn.and (Sn.loop fun s Xe X hX => Qgf (fun _ _ => hX _))))) (Sn.imp (Sn.and (Sn.and (Sn.loop fun s Xe X hX => Qgh (fun _ _ => hX _)))))))
def Qaw (u_ : Nat) (d : DFA) : Option (DFA × (List Int)) :=
 ((Qam u_ d).bind fun r7 => (if r7 = 0 then (if (([] : List Int)).length + ([d.Start]).length ≤ 1099511627776 then (loopEv u_ (S := Nat × List (List Int) × List Bool × List Int × (List (Int × Int))) (fun s X => Qdb u_ d (fun a c e f b => X (a, c, e, f, b)) s.1 s.2.1 s.2.2.1 s.2.2.2.1 s.2.2.2.2) (0, ([] : List (List Int)), ([] : List Bool), (([] : List Int)) ++ ([d.Start]), mput (([] : List (Int × Int))) d.Start 0)) else Option.none) else (some (((⟨0, 0, ([] : List Bool), ([] : List (List Int))⟩ : DFA)), (([] : List Int))))))
theorem Qef {u_ : Nat} {d : DFA} {K : DFA → List Int → Prop}  : Sn (fun p : DFA × (List Int) => K p.1 p.2) (Qaw u_ d) (J6e d K) := by
 unfold Qaw J6e
 exact (Sn.bind Qct fun _ => (Sn.ite (Sn.and (Sn.loop fun s Xe X hX => Qgi (fun _ _ _ _ _ => hX _))) Sn.ret))
def Qdc (u_ : Nat) (a0 : DFA) (f : List Int) (a : Nat) (e : List Int) (d : List (AN 7 × Int)) (X3 : Nat → List Int → List (AN 7 × Int) → Option ((List Int))) (X4 : Nat → List Int → Option ((List Int))) (b : Nat) (c : List Int) : Option ((List Int)) :=
 (if (b : Int) < ((ix a0.Next a).length : Int) then (bE b ((ix a0.Next a).length : Int) (if I64 ((1 : Int) + (b : Int)) then (bE (ix (ix a0.Next a) b) (f.length : Int) (if c.length = 7 then (bE ((1 : Int) + (b : Int)) (7 : Int) (X4 (b + 1) (st c ((1 : Int) + (b : Int)) (ix f (ix (ix a0.Next a) b))))) else Option.none)) else Option.none)) else (if c.length = 7 then (if mhas d ((toAN 7 c)) = true then (bE a e.length (X3 (a + 1) (st e a (mgt d ((toAN 7 c)))) d)) else (if c.length = 7 then (bE a e.length (X3 (a + 1) (st e a (d.length : Int)) (mput d ((toAN 7 c)) ((d.length : Int))))) else Option.none)) else Option.none))
theorem Qgj {u_ : Nat} {a0 : DFA} {a : List Int} {b : Nat} {f : List Int} {c : List (AN 7 × Int)} {g : Nat → List Int → List (AN 7 × Int) → Option ((List Int))} {X3 : Nat → List Int → List (AN 7 × Int) → Prop} {K : List Int → Prop} {h : Nat → List Int → Option ((List Int))} {X4 : Nat → List Int → Prop} {d : Nat} {e : List Int} (i : ∀ v0 v1 v2, Sn K (g v0 v1 v2) (X3 v0 v1 v2)) (j : ∀ v0 v1, Sn K (h v0 v1) (X4 v0 v1)) : Sn K (Qdc u_ a0 a b f c g h d e) (J1w a0 a b f c X3 K X4 d e) := by
 unfold Qdc J1w
 exact (Sn.ite (Sn.bd (Sn.and (Sn.bd (Sn.and (Sn.bd (j _ _)))))) (Sn.and (Sn.ite (Sn.bd (i _ _ _)) (Sn.and (Sn.bd (i _ _ _))))))
def Qdd (u_ : Nat) (a0 : DFA) (b : List Int) (e : Int) (X2 : List Int → Int → Option ((List Int))) (X3 : Nat → List Int → List (AN 7 × Int) → Option ((List Int))) (a : Nat) (d : List Int) (c : List (AN 7 × Int)) : Option ((List Int)) :=
 (if (a : Int) < a0.Next.length then (bE a a0.Next.length (bE a b.length (if (([(0 : Int), 0, 0, 0, 0, 0, (0 : Int)] : List Int)).length = 7 then (loopEv u_ (S := Nat × List Int) (fun s X => Qdc u_ a0 b a d c X3 (fun f g => X (f, g)) s.1 s.2) (0, [(ix b a), 0, 0, 0, 0, 0, (0 : Int)])) else Option.none))) else (if (c.length : Int) = e then (some (d)) else (X2 d ((c.length : Int)))))
theorem Qgk {u_ : Nat} {a0 : DFA} {a : List Int} {b : Int} {f : List Int → Int → Option ((List Int))} {X2 : List Int → Int → Prop} {K : List Int → Prop} {g : Nat → List Int → List (AN 7 × Int) → Option ((List Int))} {X3 : Nat → List Int → List (AN 7 × Int) → Prop} {c : Nat} {e : List Int} {d : List (AN 7 × Int)} (h : ∀ v0 v1, Sn K (f v0 v1) (X2 v0 v1)) (i : ∀ v0 v1 v2, Sn K (g v0 v1 v2) (X3 v0 v1 v2)) : Sn K (Qdd u_ a0 a b f g c e d) (J2a a0 a b X2 K X3 c e d) := by
 unfold Qdd J2a
 exact (Sn.ite (Sn.bd (Sn.bd (Sn.and (Sn.imp (Sn.loop fun s Xe X hX => Qgj i (fun _ _ => hX _)))))) (Sn.ite Sn.ret (h _ _)))
def Qde (u_ : Nat) (a0 : DFA) (X2 : List Int → Int → Option ((List Int))) (a : List Int) (b : Int) : Option ((List Int)) :=
 (if 0 ≤ (a.length : Int) then (if (a.length : Int) ≤ 1099511627776 then (loopEv u_ (S := Nat × List Int × (List (AN 7 × Int))) (fun s X => Qdd u_ a0 a b X2 (fun c e d => X (c, e, d)) s.1 s.2.1 s.2.2) (0, List.replicate a.length 0, ([] : List (AN 7 × Int)))) else Option.none) else Option.none)
theorem Qgl {u_ : Nat} {a0 : DFA} {K : List Int → Prop} {c : List Int → Int → Option ((List Int))} {X2 : List Int → Int → Prop} {a : List Int} {b : Int} (d : ∀ v0 v1, Sn K (c v0 v1) (X2 v0 v1)) : Sn K (Qde u_ a0 c a b) (J1r a0 K X2 a b) := by
 unfold Qde J1r
 exact (Sn.imp (Sn.and (Sn.and (Sn.imp (Sn.loop fun s Xe X hX => Qgk d (fun _ _ _ => hX _))))))
def Qdf (u_ : Nat) (a0 : DFA) (X1 : Int → Nat → List Int → Option ((List Int))) (c : Int) (a : Nat) (b : List Int) : Option ((List Int)) :=
 (if (a : Int) < a0.Final.length then (bE a a0.Final.length (if ix a0.Final a = true then (bE (0 : Int) (a0.Final.length : Int) (if ix a0.Final (0 : Int) = true then (X1 c (a + 1) b) else (bE a b.length (X1 2 (a + 1) (st b a (1 : Int)))))) else (bE (0 : Int) (a0.Final.length : Int) (if ix a0.Final (0 : Int) = true then (bE a b.length (X1 2 (a + 1) (st b a (1 : Int)))) else (X1 c (a + 1) b))))) else (loopEv u_ (S := List Int × Int) (fun s X => Qde u_ a0 (fun d e => X (d, e)) s.1 s.2) (b, c)))
theorem Qgm {u_ : Nat} {a0 : DFA} {K : List Int → Prop} {e : Int → Nat → List Int → Option ((List Int))} {X1 : Int → Nat → List Int → Prop} {a : Int} {b : Nat} {d : List Int} (c : ∀ v0 v1 v2, Sn K (e v0 v1 v2) (X1 v0 v1 v2)) : Sn K (Qdf u_ a0 e a b d) (J2b a0 K X1 a b d) := by
 unfold Qdf J2b
 exact (Sn.ite (Sn.bd (Sn.ite (Sn.bd (Sn.ite (c _ _ _) (Sn.bd (c _ _ _)))) (Sn.bd (Sn.ite (Sn.bd (c _ _ _)) (c _ _ _))))) (Sn.loop fun s Xe X hX => Qgl (fun _ _ => hX _)))
def Qdg (u_ : Nat) (a0 : DFA) : Option ((List Int)) :=
 ((Qam u_ a0).bind fun r4 => (if r4 = 0 then (if 0 ≤ (a0.Final.length : Int) then (if (a0.Final.length : Int) ≤ 1099511627776 then (loopEv u_ (S := Int × Nat × List Int) (fun s X => Qdf u_ a0 (fun a b c => X (a, b, c)) s.1 s.2.1 s.2.2) ((1 : Int), 0, List.replicate a0.Final.length 0)) else Option.none) else Option.none) else (some ((([] : List Int))))))
theorem Qgn {u_ : Nat} {a0 : DFA} {K : List Int → Prop}  : Sn K (Qdg u_ a0) (J1c a0 K) := by
 unfold Qdg J1c
 exact (Sn.bind Qct fun _ => (Sn.ite (Sn.imp (Sn.and (Sn.and (Sn.loop fun s Xe X hX => Qgm (fun _ _ _ => hX _))))) Sn.ret))
def Qdh (u_ : Nat) (r7 : DFA) (f : List Int) (a : Nat) (d : List (List Int)) (e : List Bool) (X1 : Nat → List (List Int) → List Bool → Option (DFA × (List Int))) (X2 : Nat → List Int → Option (DFA × (List Int))) (b : Nat) (c : List Int) : Option (DFA × (List Int)) :=
 (if (b : Int) < ((ix r7.Next a).length : Int) then (bE b ((ix r7.Next a).length : Int) (bE (ix (ix r7.Next a) b) (f.length : Int) (bE b c.length (X2 (b + 1) (st c b (ix f (ix (ix r7.Next a) b))))))) else (bE a r7.Final.length (if e.length + ([ix r7.Final a]).length ≤ 1099511627776 then (if d.length + ([c]).length ≤ 1099511627776 then (X1 (a + 1) (d ++ ([c])) (e ++ ([ix r7.Final a]))) else Option.none) else Option.none)))
theorem Qgo {u_ : Nat} {r7 : DFA} {f : List Int} {a : Nat} {c : List (List Int)} {d : List Bool} {g : Nat → List (List Int) → List Bool → Option (DFA × (List Int))} {X1 : Nat → List (List Int) → List Bool → Prop} {K : DFA → List Int → Prop} {h : Nat → List Int → Option (DFA × (List Int))} {X2 : Nat → List Int → Prop} {b : Nat} {e : List Int} (i : ∀ v0 v1 v2, Sn (fun p : DFA × (List Int) => K p.1 p.2) (g v0 v1 v2) (X1 v0 v1 v2)) (j : ∀ v0 v1, Sn (fun p : DFA × (List Int) => K p.1 p.2) (h v0 v1) (X2 v0 v1)) : Sn (fun p : DFA × (List Int) => K p.1 p.2) (Qdh u_ r7 f a c d g h b e) (J2k r7 f a c d X1 K X2 b e) := by
 unfold Qdh J2k
 exact (Sn.ite (Sn.bd (Sn.bd (Sn.bd (j _ _)))) (Sn.bd (Sn.and (Sn.and (i _ _ _)))))
def Qdi (u_ : Nat) (r8 : List Int) (d : List Int) (c : DFA) (e : List Int) (X3 : Nat → List Int → Option (DFA × (List Int))) (a : Nat) (b : List Int) : Option (DFA × (List Int)) :=
 (if (a : Int) < r8.length then (bE a r8.length (bE a b.length (if 0 ≤ (ix r8 a) then (bE (ix r8 a) (d.length : Int) (bE (ix d (ix r8 a)) (e.length : Int) (bE a ((st b a (-1 : Int)).length : Int) (X3 (a + 1) (st (st b a (-1 : Int)) a (ix e (ix d (ix r8 a)))))))) else (X3 (a + 1) (st b a (-1 : Int)))))) else (some (((⟨c.Letters, c.Start, c.Final, c.Next⟩ : DFA)), b)))
theorem Qgp {u_ : Nat} {r8 : List Int} {c : List Int} {d : DFA} {e : List Int} {K : DFA → List Int → Prop} {f : Nat → List Int → Option (DFA × (List Int))} {X3 : Nat → List Int → Prop} {a : Nat} {b : List Int} (g : ∀ v0 v1, Sn (fun p : DFA × (List Int) => K p.1 p.2) (f v0 v1) (X3 v0 v1)) : Sn (fun p : DFA × (List Int) => K p.1 p.2) (Qdi u_ r8 c d e f a b) (J2i r8 c d e K X3 a b) := by
 unfold Qdi J2i
 exact (Sn.ite (Sn.bd (Sn.bd (Sn.ite (Sn.bd (Sn.bd (Sn.bd (g _ _)))) (g _ _)))) Sn.ret)
def Qdj (u_ : Nat) (a0 : DFA) (r7 : DFA) (r8 : List Int) (c : List Int) (X1 : Nat → List (List Int) → List Bool → Option (DFA × (List Int))) (a : Nat) (d : List (List Int)) (b : List Bool) : Option (DFA × (List Int)) :=
 (if (a : Int) < c.length then (bE a c.length (if (ix c a) < b.length then (X1 (a + 1) d b) else (if 0 ≤ a0.Letters then (if a0.Letters ≤ 1099511627776 then (bE a r7.Next.length (loopEv u_ (S := Nat × List Int) (fun s X => Qdh u_ r7 c a d b X1 (fun e g => X (e, g)) s.1 s.2) (0, List.replicate a0.Letters.toNat 0))) else Option.none) else Option.none))) else ((Qaw u_ ((⟨a0.Letters, 0, b, d⟩ : DFA))).bind fun (p : (DFA) × (List Int)) => (fun (i : DFA) (j : List Int) => (if 0 ≤ (r8.length : Int) then (if (r8.length : Int) ≤ 1099511627776 then (loopEv u_ (S := Nat × List Int) (fun s X => Qdi u_ r8 c i j (fun f h => X (f, h)) s.1 s.2) (0, List.replicate r8.length 0)) else Option.none) else Option.none)) p.1 p.2))
theorem Qgq {u_ : Nat} {a0 : DFA} {r7 : DFA} {r8 : List Int} {d : List Int} {K : DFA → List Int → Prop} {e : Nat → List (List Int) → List Bool → Option (DFA × (List Int))} {X1 : Nat → List (List Int) → List Bool → Prop} {a : Nat} {b : List (List Int)} {c : List Bool} (f : ∀ v0 v1 v2, Sn (fun p : DFA × (List Int) => K p.1 p.2) (e v0 v1 v2) (X1 v0 v1 v2)) : Sn (fun p : DFA × (List Int) => K p.1 p.2) (Qdj u_ a0 r7 r8 d e a b c) (J2d a0 r7 r8 d K X1 a b c) := by
 unfold Qdj J2d
 exact (Sn.ite (Sn.bd (Sn.ite (f _ _ _) (Sn.and (Sn.and (Sn.bd (Sn.imp (Sn.loop fun s Xe X hX => Qgo f (fun _ _ => hX _)))))))) (Sn.bind Qef fun _ => (Sn.imp (Sn.and (Sn.and (Sn.loop fun s Xe X hX => Qgp (fun _ _ => hX _)))))))
def Qdk (u_ : Nat) (a0 : DFA) : Option (DFA × (List Int)) :=
 ((Qaw u_ a0).bind fun (p : (DFA) × (List Int)) => (fun (r7 : DFA) (r8 : List Int) => ((Qdg u_ r7).bind fun d => (loopEv u_ (S := Nat × List (List Int) × List Bool) (fun s X => Qdj u_ a0 r7 r8 d (fun a b c => X (a, b, c)) s.1 s.2.1 s.2.2) (0, ([] : List (List Int)), ([] : List Bool))))) p.1 p.2)
theorem Qgr {u_ : Nat} {a0 : DFA} {K : DFA → List Int → Prop}  : Sn (fun p : DFA × (List Int) => K p.1 p.2) (Qdk u_ a0) (J19 a0 K) := by
 unfold Qdk J19
 exact (Sn.bind Qef fun _ => (Sn.bind Qgn fun _ => (Sn.imp (Sn.loop fun s Xe X hX => Qgq (fun _ _ _ => hX _)))))
def Qdl (u_ : Nat) (d : DFA) : Option (DFA) :=
 ((Qam u_ d).bind fun r7 => (if r7 = 0 then ((Qdk u_ d).bind fun (p : (DFA) × (List Int)) => (fun (a : DFA) (r11 : List Int) => (some (((⟨a.Letters, a.Start, a.Final, a.Next⟩ : DFA))))) p.1 p.2) else (some (((⟨0, 0, ([] : List Bool), ([] : List (List Int))⟩ : DFA))))))
theorem Qgs {u_ : Nat} {d : DFA} {K : DFA → Prop}  : Sn K (Qdl u_ d) (J0j d K) := by
 unfold Qdl J0j
 exact (Sn.bind Qct fun _ => (Sn.ite (Sn.bind Qgr fun _ => Sn.ret) Sn.ret))
def Qdm (u_ : Nat) (w_ : Str) (letters : Int) (X1 : Nat → Option (Bool)) (a : Nat) : Option (Bool) :=
 (if (a : Int) < w_.length then (bE a w_.length (if ((ix w_ a).toNat : Int) < (97 : Int) then (some (false)) else (bE a w_.length (if letters ≤ (IntKind.i64.wrap (IntKind.u8.wrap (((ix w_ a).toNat : Int) - 97))) then (some (false)) else (X1 (a + 1)))))) else (some (true)))
theorem Qgt {u_ : Nat} {w_ : Str} {letters : Int} {K : Bool → Prop} {b : Nat → Option (Bool)} {X1 : Nat → Prop} {a : Nat} (c : ∀ v0, Sn K (b v0) (X1 v0)) : Sn K (Qdm u_ w_ letters b a) (J4n w_ letters K X1 a) := by
 unfold Qdm J4n
 exact (Sn.ite (Sn.bd (Sn.ite Sn.ret (Sn.bd (Sn.ite Sn.ret (c _))))) Sn.ret)
def Qdn (u_ : Nat) (w_ : Str) (letters : Int) : Option (Bool) :=
 (if letters < (1 : Int) then (some (false)) else (if 6 < letters then (some (false)) else (if 2048 < (w_.length : Int) then (some (false)) else (loopEv u_ (S := Nat) (fun s X => Qdm u_ w_ letters X s) 0))))
theorem Qgu {u_ : Nat} {w_ : Str} {letters : Int} {K : Bool → Prop}  : Sn K (Qdn u_ w_ letters) (J1o w_ letters K) := by
 unfold Qdn J1o
 exact (Sn.ite Sn.ret (Sn.ite Sn.ret (Sn.imp (Sn.ite Sn.ret (Sn.loop fun s Xe X hX => Qgt (fun _ => hX _))))))
def Qdo (u_ : Nat) (x : Int) : Option (Int) :=
 (if x = (0 : Int) then Option.none else (bE (shrK .u64 (IntKind.u64.wrap ((bits .and .u64 x (IntKind.u64.wrap (0 - x))) * 285870213051353865)) (58 : Int)) (dbTab.length : Int) (some (((IntKind.i64.wrap (ix dbTab (shrK .u64 (IntKind.u64.wrap ((bits .and .u64 x (IntKind.u64.wrap (0 - x))) * 285870213051353865)) (58 : Int)))))))))
theorem Qgv {u_ : Nat} {x : Int} {K : Int → Prop}  : Sn K (Qdo u_ x) (J0D x K) := by
 unfold Qdo J0D
 exact (Sn.ite Sn.none (Sn.bd Sn.ret))
def Qdp (u_ : Nat) (e : Expr) (w_ : Str) (a : Nat) (X1 : Nat → List (List Int) → Option (Bool)) (X2 : Int → List (List Int) → Option (Bool)) (c : Int) (d : List (List Int)) : Option (Bool) :=
 (if c = (0 : Int) then (X1 (a + 1) d) else ((Qdo u_ c).bind fun b => (if I64 ((shlK .i64 (a : Int) (6 : Int)) + b) then (if I64 ((shrK .i64 (w_.length : Int) (6 : Int)) + 1) then (if 0 ≤ ((shrK .i64 (w_.length : Int) (6 : Int)) + 1) then (if ((shrK .i64 (w_.length : Int) (6 : Int)) + 1) ≤ 1099511627776 then (bE ((shlK .i64 (a : Int) (6 : Int)) + b) (d.length : Int) (if e.Op = (2 : Int) then Option.none else (if e.Op = (3 : Int) then (if ((shlK .i64 (a : Int) (6 : Int)) + b) < (w_.length : Int) then (bE ((shlK .i64 (a : Int) (6 : Int)) + b) (w_.length : Int) (if (IntKind.i64.wrap (IntKind.u8.wrap (((ix w_ ((shlK .i64 (a : Int) (6 : Int)) + b)).toNat : Int) - 97))) = e.Letter then (bE ((shlK .i64 (a : Int) (6 : Int)) + b) ((st d ((shlK .i64 (a : Int) (6 : Int)) + b) (List.replicate (((shrK .i64 (w_.length : Int) (6 : Int)) + 1).toNat) 0)).length : Int) (if I64 (((shlK .i64 (a : Int) (6 : Int)) + b) + 1) then (bE (shrK .i64 (((shlK .i64 (a : Int) (6 : Int)) + b) + 1) (6 : Int)) ((ix (st d ((shlK .i64 (a : Int) (6 : Int)) + b) (List.replicate (((shrK .i64 (w_.length : Int) (6 : Int)) + 1).toNat) 0)) ((shlK .i64 (a : Int) (6 : Int)) + b)).length : Int) (if 0 ≤ (bits .and .i64 (((shlK .i64 (a : Int) (6 : Int)) + b) + 1) (63 : Int)) then (bE (shrK .i64 (((shlK .i64 (a : Int) (6 : Int)) + b) + 1) (6 : Int)) ((ix (st d ((shlK .i64 (a : Int) (6 : Int)) + b) (List.replicate (((shrK .i64 (w_.length : Int) (6 : Int)) + 1).toNat) 0)) ((shlK .i64 (a : Int) (6 : Int)) + b)).length : Int) (X2 ((bits .and .u64 c (IntKind.u64.wrap (c - 1)))) (st (st d ((shlK .i64 (a : Int) (6 : Int)) + b) (List.replicate (((shrK .i64 (w_.length : Int) (6 : Int)) + 1).toNat) 0)) ((shlK .i64 (a : Int) (6 : Int)) + b) (st (ix (st d ((shlK .i64 (a : Int) (6 : Int)) + b) (List.replicate (((shrK .i64 (w_.length : Int) (6 : Int)) + 1).toNat) 0)) ((shlK .i64 (a : Int) (6 : Int)) + b)) (shrK .i64 (((shlK .i64 (a : Int) (6 : Int)) + b) + 1) (6 : Int)) (bits .or .u64 (ix (ix (st d ((shlK .i64 (a : Int) (6 : Int)) + b) (List.replicate (((shrK .i64 (w_.length : Int) (6 : Int)) + 1).toNat) 0)) ((shlK .i64 (a : Int) (6 : Int)) + b)) (shrK .i64 (((shlK .i64 (a : Int) (6 : Int)) + b) + 1) (6 : Int))) (shlK .u64 (1 : Int) (bits .and .i64 (((shlK .i64 (a : Int) (6 : Int)) + b) + 1) (63 : Int)))))))) else Option.none)) else Option.none)) else Option.none)) else Option.none) else Option.none))) else Option.none) else Option.none) else Option.none) else Option.none)))
theorem Qgw {u_ : Nat} {e : Expr} {w_ : Str} {b : Nat} {d : Nat → List (List Int) → Option (Bool)} {X1 : Nat → List (List Int) → Prop} {K : Bool → Prop} {f : Int → List (List Int) → Option (Bool)} {X2 : Int → List (List Int) → Prop} {a : Int} {c : List (List Int)} (g : ∀ v0 v1, Sn K (d v0 v1) (X1 v0 v1)) (h : ∀ v0 v1, Sn K (f v0 v1) (X2 v0 v1)) : Sn K (Qdp u_ e w_ b d f a c) (J8y e w_ b X1 K X2 a c) := by
 unfold Qdp J8y
 exact (Sn.ite (g _ _) (Sn.bind Qgv fun _ => (Sn.and (Sn.and (Sn.and (Sn.and (Sn.bd (Sn.ite Sn.none (Sn.ite (Sn.ite (Sn.bd (Sn.ite (Sn.bd (Sn.and (Sn.bd (Sn.and (Sn.bd (h _ _)))))) Sn.none)) Sn.none) Sn.none)))))))))
def Qdq (u_ : Nat) (e : Expr) (w_ : Str) (X1 : Nat → List (List Int) → Option (Bool)) (a : Nat) (b : List (List Int)) : Option (Bool) :=
 (if (a : Int) < ((st (List.replicate (((shrK .i64 (w_.length : Int) (6 : Int)) + 1).toNat) 0) (shrK .i64 (0 : Int) (6 : Int)) (bits .or .u64 (ix (List.replicate (((shrK .i64 (w_.length : Int) (6 : Int)) + 1).toNat) 0) (shrK .i64 (0 : Int) (6 : Int))) (shlK .u64 (1 : Int) (bits .and .i64 (0 : Int) (63 : Int))))).length : Int) then (bE a ((st (List.replicate (((shrK .i64 (w_.length : Int) (6 : Int)) + 1).toNat) 0) (shrK .i64 (0 : Int) (6 : Int)) (bits .or .u64 (ix (List.replicate (((shrK .i64 (w_.length : Int) (6 : Int)) + 1).toNat) 0) (shrK .i64 (0 : Int) (6 : Int))) (shlK .u64 (1 : Int) (bits .and .i64 (0 : Int) (63 : Int))))).length : Int) (loopEv u_ (S := Int × List (List Int)) (fun s X => Qdp u_ e w_ a X1 (fun c d => X (c, d)) s.1 s.2) ((ix (st (List.replicate (((shrK .i64 (w_.length : Int) (6 : Int)) + 1).toNat) 0) (shrK .i64 (0 : Int) (6 : Int)) (bits .or .u64 (ix (List.replicate (((shrK .i64 (w_.length : Int) (6 : Int)) + 1).toNat) 0) (shrK .i64 (0 : Int) (6 : Int))) (shlK .u64 (1 : Int) (bits .and .i64 (0 : Int) (63 : Int))))) (a : Int)), b))) else (bE (0 : Int) (b.length : Int) (bE (shrK .i64 (w_.length : Int) (6 : Int)) ((ix b (0 : Int)).length : Int) (if 0 ≤ (bits .and .i64 (w_.length : Int) (63 : Int)) then (if (bits .and .u64 (shrK .u64 (ix (ix b (0 : Int)) (shrK .i64 (w_.length : Int) (6 : Int))) (bits .and .i64 (w_.length : Int) (63 : Int))) (1 : Int)) = (1 : Int) then (some (true)) else Option.none) else Option.none))))
theorem Qgx {u_ : Nat} {e : Expr} {w_ : Str} {K : Bool → Prop} {c : Nat → List (List Int) → Option (Bool)} {X1 : Nat → List (List Int) → Prop} {a : Nat} {b : List (List Int)} (d : ∀ v0 v1, Sn K (c v0 v1) (X1 v0 v1)) : Sn K (Qdq u_ e w_ c a b) (J8K e w_ K X1 a b) := by
 unfold Qdq J8K
 exact (Sn.ite (Sn.bd (Sn.loop fun s Xe X hX => Qgw d (fun _ _ => hX _))) (Sn.bd (Sn.bd (Sn.and (Sn.ite Sn.ret Sn.none)))))
def Qdr (u_ : Nat) (e : Expr) (w_ : Str) : Option (Bool) :=
 ((Qai u_ e).bind fun r4 => (if r4 = true then ((Qdn u_ w_ ((6 : Int))).bind fun r6 => (if r6 = true then (if I64 ((shrK .i64 (w_.length : Int) (6 : Int)) + (1 : Int)) then (if 0 ≤ ((shrK .i64 (w_.length : Int) (6 : Int)) + (1 : Int)) then (if ((shrK .i64 (w_.length : Int) (6 : Int)) + (1 : Int)) ≤ 1099511627776 then (bE (shrK .i64 (0 : Int) (6 : Int)) ((List.replicate (((shrK .i64 (w_.length : Int) (6 : Int)) + (1 : Int)).toNat) ((0 : Int))).length : Int) (if 0 ≤ (bits .and .i64 (0 : Int) (63 : Int)) then (bE (shrK .i64 (0 : Int) (6 : Int)) ((List.replicate (((shrK .i64 (w_.length : Int) (6 : Int)) + (1 : Int)).toNat) ((0 : Int))).length : Int) (if e.Op = (5 : Int) then Option.none else (if e.Op = (7 : Int) then Option.none else (if e.Op = (4 : Int) then Option.none else (if e.Op = (6 : Int) then Option.none else (if e.Op = (8 : Int) then Option.none else (if I64 ((w_.length : Int) + (1 : Int)) then (if 0 ≤ (w_.length + 1 : Int) then (if (w_.length + 1 : Int) ≤ 1099511627776 then (loopEv u_ (S := Nat × List (List Int)) (fun s X => Qdq u_ e w_ (fun a b => X (a, b)) s.1 s.2) (0, List.replicate (w_.length + 1) ([] : List Int))) else Option.none) else Option.none) else Option.none))))))) else Option.none)) else Option.none) else Option.none) else Option.none) else Option.none)) else Option.none))
theorem Qgy {u_ : Nat} {e : Expr} {w_ : Str} {K : Bool → Prop}  : Sn K (Qdr u_ e w_) (J8a e w_ K) := by
 unfold Qdr J8a
 exact (Sn.bind Qbh fun _ => (Sn.ite (Sn.bind Qgu fun _ => (Sn.ite (Sn.imp (Sn.and (Sn.and (Sn.and (Sn.bd (Sn.and (Sn.bd (Sn.ite Sn.none (Sn.ite Sn.none (Sn.ite Sn.none (Sn.ite Sn.none (Sn.ite Sn.none (Sn.and (Sn.and (Sn.and (Sn.loop fun s Xe X hX => Qgx (fun _ _ => hX _))))))))))))))))) Sn.none)) Sn.none))
def Qeg (u_ : Nat)  : Option (Bool) :=
 ((Qag u_ 0).bind fun r1 => ((Qag u_ 1).bind fun r3 => ((Qan u_ 5 ([r1, r3])).bind fun a => ((Qan u_ 7 ([a])).bind fun b => ((Qcq u_ b 2).bind fun (p : (DFA) × (Int)) => (fun (c : DFA) (d : Int) => (if d = 0 then ((Qdl u_ c).bind fun e => (if (e.Final.length : Int) = (3 : Int) then ((Qag u_ 0).bind fun f => ((Qdr u_ f (([97] : Str))).bind fun g => (some (g)))) else (some (false)))) else (some (false)))) p.1 p.2)))))
theorem Qgz {u_ : Nat} {K : Bool → Prop}  : Sn K (Qeg u_ ) (J0c K) := by
 unfold Qeg J0c
 exact (Sn.bind Qax fun _ => (Sn.bind Qax fun _ => (Sn.bind Qds fun _ => (Sn.bind Qds fun _ => (Sn.bind Qfy fun _ => (Sn.ite (Sn.bind Qgs fun _ => (Sn.imp (Sn.ite (Sn.bind Qax fun _ => (Sn.bind Qgy fun _ => Sn.ret)) Sn.ret))) Sn.ret))))))
theorem J0a {K : Bool → Prop} (h : K true) : J0c K := Qgz (u_ := 30) true (by decide +kernel) h
end Sg
