/- -/
import Derived.Test.YtbmaaecppfdjfaaGreatDoorZo
set_option linter.unusedVariables false
set_option linter.unusedSimpArgs false
namespace Sg
open Go
section
variable {k : Nat} {α β : Type} {ρ : Str → α} {ρ' : Str → β}
def Lst (k : Nat) (ρ : Str → α) (w : Str) : Prop := LW k w ∧ ∀ v, LW k v → ρ v = ρ w → ¬ SL v w
theorem Lst.nil : Lst k ρ [] := ⟨LW.nil _, fun v _ _ h => JbE v h⟩
structure CL (k : Nat) (ρ : Str → α) (W : List Str) (F : Str → Prop) : Prop where
 asc : W.Pairwise SL
 mem : ∀ w, w ∈ W ↔ Lst k ρ w ∧ F w
variable {W V : List Str} {u : Str} {x : Nat} {F : Str → Prop}
theorem CL.zero (h : CL k ρ W (fun _ => True)) : ix W 0 = [] ∧ 0 < W.length := by
 obtain ⟨j, hj, e⟩ := J0h.1 ((h.mem []).2 ⟨Lst.nil, trivial⟩)
 rcases Nat.eq_zero_or_pos j with h0 | h0
 ·subst h0; exact ⟨e, hj⟩
 ·have := Jbc h.asc h0 hj
  rw [e] at this
  exact absurd this (JbE _)
end
end Sg
namespace Sg
open Go
structure Can {α : Type} (k : Nat) (ρ : Str → α) (φ : Str → Bool) (m : DFA) (W : List Str) : Prop where
 cl : CL k ρ W (fun _ => True)
 le : m.Letters = k
 st : m.Start = 0
 fl : m.Final.length = W.length
 nl : m.Next.length = W.length
 fin : ∀ i : Nat, i < W.length → ix m.Final i = φ (ix W i)
 row : ∀ i : Nat, i < W.length → (ix m.Next i).length = k
 nx : ∀ i x : Nat, i < W.length → x < k → ∃ j : Nat, ix (ix m.Next i) x = j ∧ j < W.length ∧ ρ (ix W j) = ρ (ix W i ++ [lt x])
section
variable {α β : Type} {k : Nat} {ρ : Str → α} {ρ' : Str → β} {φ : Str → Bool} {m m' : DFA} {W W' : List Str}
end
end Sg
namespace Sg
open Go
structure Nmb (p : List Int) (c : Nat) : Prop where
 rg : ∀ q : Nat, q < p.length → ∃ a : Nat, ix p q = a ∧ a < c
 on : ∀ a : Nat, a < c → ∃ q : Nat, q < p.length ∧ ix p q = a
 fst : ∀ q a : Nat, q < p.length → (a : Int) < ix p q → ∃ j : Nat, j < q ∧ ix p j = a
structure Keeps (k : Nat) (d : DFA) (p : List Int) : Prop where
 fin : ∀ q q' : Nat, q < p.length → q' < p.length → ix p q = ix p q' → ix d.Final q = ix d.Final q'
 nx : ∀ q q' x : Nat, q < p.length → q' < p.length → x < k → ix p q = ix p q' → ix p (ix (ix d.Next q) x) = ix p (ix (ix d.Next q') x)
structure Quo (k : Nat) (d : DFA) (p : List Int) (Q : DFA) : Prop where
 le : Q.Letters = k
 st : Q.Start = ix p d.Start
 nl : Q.Next.length = Q.Final.length
 rg : ∀ q : Nat, q < p.length → ∃ a : Nat, ix p q = a ∧ a < Q.Final.length
 on : ∀ a : Nat, a < Q.Final.length → ∃ q : Nat, q < p.length ∧ ix p q = a ∧ ix Q.Final a = ix d.Final q ∧ (ix Q.Next a).length = k ∧ ∀ x : Nat, x < k → ix (ix Q.Next a) x = ix p (ix (ix d.Next q) x)
section
variable {k : Nat} {d Q : DFA} {p : List Int}
end
end Sg
namespace Sg
open Go
section
variable {κ : Type} [DecidableEq κ]
structure NumI (f : Nat → κ) (q : Nat) (p : List Int) (m : List (κ × Int)) : Prop where
 len : p.length = q
 nmb : Nmb p m.length
 has : ∀ a, mhas m a = true ↔ ∃ j, j < q ∧ f j = a
 val : ∀ j : Nat, j < q → ix p (j : Int) = mgt m (f j)
 rg : ∀ a, mhas m a = true → 0 ≤ mgt m a ∧ mgt m a < m.length
 inj : ∀ a b, mhas m a = true → mhas m b = true → mgt m a = mgt m b → a = b
variable {f : Nat → κ} {q : Nat} {p : List Int} {m : List (κ × Int)}
end
section
variable {k : Nat} {d : DFA} {p r : List Int} {c c' : Nat}
end
end Sg
namespace Sg
open Go
structure IdW (n : Nat) (s : List Int) : Prop where
 len : s.length = (n + 63) / 64
 rng : ∀ j : Nat, j < s.length → 0 ≤ ix s (j : Int) ∧ ix s (j : Int) < 18446744073709551616
structure IdF (n : Nat) (r : List (List Int)) (le : Nat → Nat → Prop) : Prop where
 len : r.length = n
 wd : ∀ y : Nat, y < n → IdW n (ix r (y : Int))
 has : ∀ x y : Nat, x < n → y < n → (hasB (ix r (y : Int)) x = true ↔ le x y)
structure IdK (n k : Nat) (r : List (List Int)) (le : Nat → Nat → Prop) : Prop where
 len : r.length = n
 wd : ∀ y : Nat, y < k → IdW n (ix r (y : Int))
 has : ∀ x y : Nat, x < n → y < k → (hasB (ix r (y : Int)) x = true ↔ le x y)
end Sg
namespace Sg
open Go
structure PartOf (p : List Int) (n : Nat) (e : Nat → Nat → Prop) : Prop where
 len : p.length = n
 can : CanP p
 ker : ∀ i j : Nat, i < n → j < n → (ix p (i : Int) = ix p (j : Int) ↔ e i j)
structure LstM (e : Nat → Nat → Prop) (l : List Int) (k : Nat) : Prop where
 at_ : ∀ j : Nat, j < k → ∃ m : Nat, m ≤ j ∧ ix l (j : Int) = (m : Int) ∧ e m j ∧ ∀ i : Nat, i < m → ¬ e i j
end Sg
namespace Sg
open Go
structure SetB (n : Nat) (b : List Bool) (p : Nat → Prop) : Prop where
 len : b.length = n
 has : ∀ x : Nat, x < n → (ix b (x : Int) = true ↔ p x)
structure BF (n : Nat) (r : List (List Bool)) (le : Nat → Nat → Prop) : Prop where
 len : r.length = n
 at_ : ∀ y : Nat, y < n → SetB n (ix r (y : Int)) (fun x => le x y)
end Sg
namespace Sg
open Go
def eR (t : List (List Int)) (x y : Nat) : Prop := leR t x y ∧ leR t y x
def eL (t : List (List Int)) (x y : Nat) : Prop := leL t x y ∧ leL t y x
structure GrOf (t : List (List Int)) (g : Green) : Prop where
 R : PartOf g.R t.length (eR t)
 L : PartOf g.L t.length (eL t)
 J : PartOf g.J t.length (eJ t)
 H : PartOf g.H t.length (fun i j => eR t i j ∧ eL t i j)
 cnt : IsCnt g.J (g.Below.length : Int)
 row : ∀ i : Nat, i < g.Below.length → (ix g.Below (i : Int)).length = g.Below.length
 bel : ∀ x y : Nat, x < t.length → y < t.length → (ix (ix g.Below (ix g.J (x : Int))) (ix g.J (y : Int)) = true ↔ leJ t x y)
end Sg
namespace Sg
open Go
structure Dep (c : Nat) (B : Nat → Nat → Prop) (D : Nat → Nat) : Prop where
 up : ∀ i j : Nat, i < c → j < c → j ≠ i → B i j → D j + 1 ≤ D i
 at_ : ∀ i : Nat, i < c → D i = 0 ∨ ∃ j : Nat, j < c ∧ j ≠ i ∧ B i j ∧ D j + 1 = D i
 le : ∀ i : Nat, i < c → D i ≤ c
end Sg
namespace Sg
open Go
end Sg
namespace Sg
open Go
end Sg
namespace Sg
open Go
end Sg
namespace Sg
open Go
end Sg
namespace Sg
open Go
end Sg
namespace Sg
open Go
end Sg
namespace Sg
open Go
section
variable {α β : Type} {k : Nat} {ρ : Str → α} {ρ' : Str → β} {φ φ' : Str → Bool} {s s' : Syntactic}
structure Mon (k : Nat) (ρ : Str → α) (s : Syntactic) : Prop where
 cl : CL k ρ s.Words (fun _ => True)
 le : s.Letters = k
 tl : s.Table.length = s.Words.length
 rl : ∀ i : Nat, i < s.Words.length → (ix s.Table i).length = s.Words.length
 tb : ∀ i j : Nat, i < s.Words.length → j < s.Words.length → ∃ m : Nat, ix (ix s.Table i) j = m ∧ m < s.Words.length ∧ ρ (ix s.Words m) = ρ (ix s.Words i ++ ix s.Words j)
 il : s.Images.length = k
 im : ∀ x : Nat, x < k → ∃ m : Nat, ix s.Images x = m ∧ m < s.Words.length ∧ ρ (ix s.Words m) = ρ [lt x]
 pl : s.Plus.length = s.Words.length
 ps : ∀ i : Nat, i < s.Words.length → (ix s.Plus i = true ↔ ∃ w, LW k w ∧ w ≠ [] ∧ ρ w = ρ (ix s.Words i))
structure Acc (φ : Str → Bool) (s : Syntactic) : Prop where
 al : s.Accept.length = s.Words.length
 ac : ∀ i : Nat, i < s.Words.length → ix s.Accept i = φ (ix s.Words i)
end
section
variable {k : Nat} {φ φ' : Str → Bool} {s s' : Syntactic} {d : DFA}
structure SynOf (k : Nat) (φ : Str → Bool) (s : Syntactic) : Prop where
 mon : Mon k (syn φ k) s
 acc : Acc φ s
structure SynD (d : DFA) (s : Syntactic) : Prop where
 k : ∃ k : Nat, d.Letters = k ∧ SynOf k (Sg.acc d) s ∧ ∃ m W, Can k (nero d k) (Sg.acc d) m W ∧ W.length ≤ 32
 n : s.Words.length ≤ 400
end
end Sg
namespace Sg
open Go
section
variable {d : DFA} {k i x : Nat} {W : List Str} {S : List Int}
structure XI (d : DFA) (k i x : Nat) (W : List Str) (S : List Int) : Prop where
 cl : CL k (rho d) W (fun w => SL w (ix W i ++ [lt x]))
 il : i < W.length
 sl : S.length = W.length
 st : ∀ j : Nat, j < W.length → ix S j = rho d (ix W j)
structure YI (d : DFA) (k i : Nat) (W : List Str) (S : List Int) : Prop where
 il : i ≤ W.length
 sl : S.length = W.length
 st : ∀ j : Nat, j < W.length → ix S j = rho d (ix W j)
 at_ : i < W.length → XI d k i 0 W S
 al : i = W.length → CL k (rho d) W (fun _ => True)
 few : W.length ≤ d.Final.length
structure RowsOk (d : DFA) (k i : Nat) (W : List Str) (Nx : List (List Int)) (Fn : List Bool) : Prop where
 nl : Nx.length = i
 fl : Fn.length = i
 fin : ∀ a : Nat, a < i → ix Fn a = acc d (ix W a)
 row : ∀ a : Nat, a < i → (ix Nx a).length = k
 nx : ∀ a x : Nat, a < i → x < k → ∃ j : Nat, ix (ix Nx a) x = j ∧ j < W.length ∧ rho d (ix W j) = rho d (ix W a ++ [lt x])
variable {Nx : List (List Int)} {Fn : List Bool} {row : List Int}
structure Nms (S : List Int) (m : List (Int × Int)) : Prop where
 has : ∀ q, mhas m q = true ↔ ∃ j : Nat, j < S.length ∧ ix S j = q
 get : ∀ j : Nat, j < S.length → ∃ j' : Nat, mgt m (ix S j) = j' ∧ j' < S.length ∧ ix S j' = ix S j
variable {m : List (Int × Int)}
end
section
variable {d : DFA} {k : Nat}
end
end Sg
namespace Sg
open Go
section
variable {d : DFA} {k i x : Nat} {W : List Str} {S : List Int}
end
end Sg
namespace Sg
open Go
section
variable {d : DFA} {k : Nat}
structure ClsI (d : DFA) (k : Nat) (p : List Int) (c : Nat) : Prop where
 len : p.length = d.Final.length
 nmb : Nmb p c
 fin : FinK d p
 hol : Holds k d p
structure ClsOk (d : DFA) (k : Nat) (p : List Int) : Prop where
 len : p.length = d.Final.length
 nmb : ∃ c, Nmb p c
 kp : Keeps k d p
 hol : Holds k d p
end
section
variable {d : DFA} {k : Nat}
structure PartX (d : DFA) (p : List Int) (x : Nat) (r : List Int) : Prop where
 len : r.length = d.Final.length
 nmb : ∃ c, Nmb r c
 eq : ∀ i j : Nat, i < d.Final.length → j < d.Final.length → (ix r i = ix r j ↔ ix p i = ix p j ∧ ∀ y : Nat, y < x → ix p (ix (ix d.Next i) y) = ix p (ix (ix d.Next j) y))
end
end Sg
namespace Sg
open Go
section
variable {d : DFA} {k : Nat} {p : List Int}
structure QuoI (d : DFA) (k : Nat) (p : List Int) (q : Nat) (Nx : List (List Int)) (Fn : List Bool) : Prop where
 nl : Nx.length = Fn.length
 rg : ∀ j : Nat, j < q → ix p j < Fn.length
 on : ∀ a : Nat, a < Fn.length → ∃ j : Nat, j < q ∧ ix p j = a ∧ ix Fn a = ix d.Final j ∧ (ix Nx a).length = k ∧ ∀ x : Nat, x < k → ix (ix Nx a) x = ix p (ix (ix d.Next j) x)
variable {q : Nat} {Nx : List (List Int)} {Fn : List Bool} {row : List Int}
end
section
variable {d : DFA} {k : Nat}
end
end Sg
namespace Sg
open Go
section
variable {k : Nat} {d M : DFA}
end
structure Uni (k : Nat) (Ms : List DFA) (gens : List (List Int)) : Prop where
 gl : gens.length = k
 cl : ∀ x : Nat, x < k → (ix gens x).length = PN Ms
 at_ : ∀ i q x : Nat, i < Ms.length → q < (ix Ms (i : Int)).Final.length → x < k → ix (ix gens (x : Int)) ((PN (Ms.take i) + q : Nat) : Int) = (PN (Ms.take i) : Int) + ix (ix (ix Ms (i : Int)).Next (q : Int)) (x : Int)
structure Mins (k : Nat) (ds Ms : List DFA) : Prop where
 len : Ms.length = ds.length
 min : ∀ i : Nat, i < ds.length → MinOf k (ix ds (i : Int)) (ix Ms (i : Int))
section
variable {k : Nat} {ds Ms : List DFA} {gens : List (List Int)}
end
section
variable {gens : List (List Int)} {r : run}
theorem Fin.CL_ (hg : GV gens = true) (h : Fin gens true r) : CL gens.length (vl gens) r.words (fun _ => True) := by
 have hr := h.1.rlT hg
 refine ⟨hr.asc, fun w => ?_⟩
 rw [hr.mem]
 constructor
 ·rintro ⟨⟨⟨h1, _⟩, h2⟩, _⟩
  exact ⟨⟨h1, fun v hv => h2 v ⟨hv, .inl rfl⟩⟩, trivial⟩
 ·rintro ⟨⟨h1, h2⟩, _⟩
  exact ⟨⟨⟨h1, .inl rfl⟩, fun v hv => h2 v hv.1⟩, trivial⟩
theorem Fin.w0 (hg : GV gens = true) (h : Fin gens true r) : ix r.words 0 = [] ∧ 0 < r.words.length := (h.CL_ hg).zero
end
end Sg
namespace Sg
open Go
section
variable {gens : List (List Int)} {r : run}
structure PlI (gens : List (List Int)) (r : run) (i : Nat) (pl : List Bool) : Prop where
 len : pl.length = r.words.length
 pos : ∀ j : Nat, 0 < j → j < r.words.length → ix pl j = true
 zer : ix pl 0 = true ↔ ∃ a x : Nat, a < i ∧ x < gens.length ∧ ix (ix r.Enum.Right a) x = 0
section
variable {M : DFA} {im : List Int} {K : Syntactic → Int → Prop}
end
section
variable {P : List part} {im : List Int} {K : Syntactic → List (List Bool) → Int → Prop}
end
end
end Sg
namespace Sg
open Go
section
variable {gens : List (List Int)}
end
structure UniP (k : Nat) (Ms : List DFA) (M : DFA) (cnt : Nat → Nat) (G : List (List Int)) : Prop where
 gl : G.length = k
 cl : ∀ y : Nat, y < k → (ix G (y : Int)).length = PN Ms + cnt y
 old : ∀ i q y : Nat, i < Ms.length → q < (ix Ms (i : Int)).Final.length → y < k → ix (ix G (y : Int)) ((PN (Ms.take i) + q : Nat) : Int) = (PN (Ms.take i) : Int) + ix (ix (ix Ms (i : Int)).Next (q : Int)) (y : Int)
 new : ∀ q y : Nat, y < k → q < cnt y → ix (ix G (y : Int)) ((PN Ms + q : Nat) : Int) = (PN Ms : Int) + ix (ix M.Next (q : Int)) (y : Int)
section
variable {k x q : Nat} {Ms : List DFA} {M : DFA} {cnt cnt' : Nat → Nat} {G : List (List Int)} {v : Int}
end
structure SynJ (k : Nat) (ds : List DFA) (s : Syntactic) (L : List (List Bool)) : Prop where
 mon : Mon k (syJ ds k) s
 ll : L.length = ds.length
 la : ∀ i : Nat, i < ds.length → (ix L (i : Int)).length = s.Words.length ∧ ∀ j : Nat, j < s.Words.length → ix (ix L (i : Int)) j = acc (ix ds (i : Int)) (ix s.Words j)
 ac : s.Accept = ix L 0
 n : s.Words.length ≤ 400
 few : ∃ Ms, Mins k ds Ms ∧ PN Ms ≤ 32
section
variable {k : Nat} {ds Ms : List DFA} {gens : List (List Int)} {r : run} {s s' : Syntactic} {L L' : List (List Bool)}
structure PartsOk (Ms : List DFA) (P : List part) : Prop where
 len : P.length = Ms.length
 at_ : ∀ a : Nat, a < Ms.length → (ix P (a : Int)).start = (PN (Ms.take a) : Int) ∧ (ix P (a : Int)).final = (ix Ms (a : Int)).Final ∧ (ix P (a : Int)).shift = (PN (Ms.take a) : Int)
section
variable {P : List part}
end
end
section
variable {d : DFA} {k : Nat}
end
end Sg
namespace Sg
open Go
section
variable {α : Type} {k : Nat} {ρ : Str → α} {s : Syntactic}
end
section
variable {k : Nat} {ds Ms : List DFA} {gens : List (List Int)} {r : run} {fin : List Bool}
structure FinU (Ms : List DFA) (fin : List Bool) : Prop where
 len : fin.length = PN Ms
 at_ : ∀ i q : Nat, i < Ms.length → q < (ix Ms (i : Int)).Final.length → ix fin ((PN (Ms.take i) + q : Nat) : Int) = ix (ix Ms (i : Int)).Final (q : Int)
structure SynF (k : Nat) (ds : List DFA) (s : Syntactic) : Prop where
 mon : Mon k (syJ ds k) s
 acc : Acc (Sg.acc (ix ds 0)) s
 n : s.Words.length ≤ 400
end
section
variable {d : DFA}
end
end Sg
namespace Sg
open Go
structure ShS (s : Syntactic) : Prop where
 l1 : 1 ≤ s.Letters
 l6 : s.Letters ≤ 6
 sh : SH s.Table = true
 wl : s.Words.length = s.Table.length
 al : s.Accept.length = s.Table.length
 pl : s.Plus.length = s.Table.length
 il : (s.Images.length : Int) = s.Letters
 ib : inB s.Table.length s.Images = true
end Sg
namespace Sg
open Go
instance (u v : Str) : Decidable (SL u v) := by unfold SL; infer_instance
end Sg
namespace Sg
open Go
end Sg
namespace Sg
open Go
end Sg
namespace Sg
open Go
end Sg
namespace Sg
open Go
section
variable {d : DFA} {s : Syntactic}
end
end Sg
namespace Sg
open Go
end Sg
namespace Sg
open Go
end Sg
namespace Sg
open Go
structure GN (t : List (List Int)) (els gens nx : List Int) (inn : List Bool) : Prop where
 il : inn.length = t.length
 nl : nx.length = t.length
 el : ∀ x ∈ els, 0 ≤ x ∧ x < t.length
 me : ∀ x : Nat, x < t.length → (ix inn (x : Int) = true ↔ (x : Int) ∈ els)
 nd : els.Nodup
 cl : ∀ x ∈ els, Clo t gens x
 gl : ∀ g ∈ gens, 0 ≤ g ∧ g < t.length
 nx : ∀ x : Nat, x < t.length → 0 ≤ ix nx (x : Int) ∧ ix nx (x : Int) ≤ gens.length
end Sg
namespace Sg
open Go
structure SPI (n : Nat) (im c : List Int) (R : Int) (x : Nat) (cnt : Int) (label mark nx : List Int) : Prop where
 ll : label.length = n * n
 ml : mark.length = n * n
 nl : nx.length = n
 le : ∀ v : Nat, v < n * n → ix mark (v : Int) ≤ R
 ex : ∃ m : List (Int × Int), NumI (cod im c) x (nx.take x) m ∧ cnt = m.length ∧ ∀ v : Nat, v < n * n → (ix mark (v : Int) = R ↔ mhas m (v : Int) = true) ∧ (mhas m (v : Int) = true → ix label (v : Int) = mgt m (v : Int))
end Sg
namespace Sg
open Go
structure SPO (n : Nat) (im c : List Int) (R : Int) (cnt : Int) (label mark nx : List Int) : Prop where
 ll : label.length = n * n
 ml : mark.length = n * n
 nl : nx.length = n
 le : ∀ v : Nat, v < n * n → ix mark (v : Int) ≤ R
 nm : ∃ k : Nat, cnt = k ∧ Nmb nx k
 fin : ∀ x y : Nat, x < n → y < n → ix nx (x : Int) = ix nx (y : Int) → ix c (x : Int) = ix c (y : Int) ∧ ix c (ix im (x : Int)) = ix c (ix im (y : Int))
 bk : ∀ x y : Nat, x < n → y < n → ix c (x : Int) = ix c (y : Int) → ix c (ix im (x : Int)) = ix c (ix im (y : Int)) → ix nx (x : Int) = ix nx (y : Int)
structure CCc (n : Nat) (c : List Int) (cnt : Int) : Prop where
 cl : c.length = n
 nm : ∃ k : Nat, cnt = k ∧ Nmb c k
structure GOc (t : List (List Int)) (n : Nat) (c : List Int) (g R : Int) (cnt : Int) (im label mark sp c' : List Int) : Prop where
 il : im.length = n
 ll : label.length = n * n
 ml : mark.length = n * n
 sl : sp.length = n
 le : ∀ v : Nat, v < n * n → ix mark (v : Int) ≤ R
 cc : CCc n c' cnt
 fin : ∀ x y : Nat, x < n → y < n → ix c' (x : Int) = ix c' (y : Int) → ix c (x : Int) = ix c (y : Int)
 stb : Stb t c c' n g
 co : ∀ R, CgR t n g R → HdR n R c → HdR n R c'
structure GSc (t : List (List Int)) (n : Nat) (gens c0 : List Int) (k : Nat) (R cnt : Int) (im label mark sp c : List Int) : Prop where
 il : im.length = n
 ll : label.length = n * n
 ml : mark.length = n * n
 sl : sp.length = n
 le : ∀ v : Nat, v < n * n → ix mark (v : Int) ≤ R
 cc : CCc n c cnt
 fin : ∀ x y : Nat, x < n → y < n → ix c (x : Int) = ix c (y : Int) → ix c0 (x : Int) = ix c0 (y : Int)
 stb : ∀ h : Nat, h < k → Stb t c0 c n (ix gens (h : Int))
 co : ∀ R, (∀ g ∈ gens, CgR t n g R) → HdR n R c0 → HdR n R c
structure Sta (t : List (List Int)) (n : Nat) (gens p c : List Int) (cnt : Int) : Prop where
 cc : CCc n c cnt
 fin : ∀ x y : Nat, x < n → y < n → ix c (x : Int) = ix c (y : Int) → ix p (x : Int) = ix p (y : Int)
 stb : ∀ h : Nat, h < gens.length → Stb t c c n (ix gens (h : Int))
 co : ∀ R, (∀ g ∈ gens, CgR t n g R) → HdR n R p → HdR n R c
end Sg
namespace Sg
open Go
end Sg
namespace Sg
open Go
end Sg
namespace Sg
open Go
structure AllD (k : Nat) (ds : List DFA) : Prop where
 d : 1 ≤ ds.length
 k1 : 1 ≤ k
 k6 : k ≤ 6
 da : ∀ i : Nat, i < ds.length → Da (ix ds (i : Int)) ∧ (ix ds (i : Int)).Letters = k
section
variable {k : Nat} {ds Ms Ms' : List DFA} {i : Nat}
structure JnOk (ds : List DFA) (K : Syntactic → List (List Bool) → Int → Prop) : Prop where
 h0 : ds.length = 0 → K zeroS [] 1
 hv : ∀ i : Nat, i < ds.length → (∀ j : Nat, j < i → Da (ix ds (j : Int))) → ¬ Da (ix ds (i : Int)) → K zeroS [] (daC (ix ds (i : Int)))
 hl : (∀ j : Nat, j < ds.length → Da (ix ds (j : Int))) → ∀ i : Nat, i < ds.length → (ix ds (i : Int)).Letters ≠ (ix ds 0).Letters → K zeroS [] 1
 h3 : ∀ k, AllD k ds → (∀ s L, ¬ SynJ k ds s L) → K zeroS [] 3
 hs : ∀ k, AllD k ds → ∀ s L, SynJ k ds s L → K s L 0
structure JI (k : Nat) (ds : List DFA) (i : Nat) (cnt : Int) (P : List part) (G : List (List Int)) (z : Bool) (Ms : List DFA) : Prop where
 m : Mins k (ds.take i) Ms
 n : PN Ms ≤ 32
 c : cnt = PN Ms
 p : PartsOk Ms P
 u : if z = true then i = 0 else Uni k Ms G
structure JR (k : Nat) (ds : List DFA) (i : Nat) (fin : List Bool) (S : List Int) (G : List (List Int)) (Ms : List DFA) : Prop where
 m : Mins k (ds.take i) Ms
 n : PN Ms ≤ 512 * i
 f : FinU Ms fin
 s : S.length = i ∧ ∀ a : Nat, a < i → ix S (a : Int) = (PN (Ms.take a) : Int)
 u : Uni k Ms G
end
end Sg
namespace Sg
open Go
inductive JAns (ds : List DFA) : Syntactic → List (List Bool) → Int → Prop
 | n0 (h : ds.length = 0) : JAns ds zeroS [] 1
 | nv (i : Nat) (h1 : i < ds.length) (h2 : ∀ j : Nat, j < i → Da (ix ds (j : Int))) (h3 : ¬ Da (ix ds (i : Int))) : JAns ds zeroS [] (daC (ix ds (i : Int)))
 | nl (h1 : ∀ j : Nat, j < ds.length → Da (ix ds (j : Int))) (i : Nat) (h2 : i < ds.length) (h3 : (ix ds (i : Int)).Letters ≠ (ix ds 0).Letters) : JAns ds zeroS [] 1
 | n3 (k : Nat) (h1 : AllD k ds) (h2 : ∀ s L, ¬ SynJ k ds s L) : JAns ds zeroS [] 3
 | ok (k : Nat) (h1 : AllD k ds) (s : Syntactic) (L : List (List Bool)) (h2 : SynJ k ds s L) : JAns ds s L 0
section
variable {ds : List DFA} {s s' : Syntactic} {L L' : List (List Bool)} {e e' : Int}
end
section
variable {α : Type} {k : Nat} {ρ : Str → α} {s : Syntactic}
end
end Sg
