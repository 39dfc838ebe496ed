/- -/
import Derived.Test.YtlneebpmblkllaaZp
namespace Sg
open Go
set_option linter.unusedVariables false
set_option linter.unusedSimpArgs false
def rho (d : DFA) : Str → Int := fun w => rn d d.Start w
section
variable {d : DFA} {k i x : Nat} {W : List Str} {S : List Int}
theorem J7Q (d : DFA) (k : Nat) : RC k (rho d) := rn_RC d k d.Start
structure XI (d : DFA) (k i x : Nat) (W : List Str) (S : List Int) : Prop where
 cl : CL k (rho d) W (fun w => SL w (ix W i ++ [lt x]))
 il : i < W.length
 sl : S.length = W.length
 st : ∀ j : Nat, j < W.length → ix S j = rho d (ix W j)
theorem J5Y (D : Da d) (hk : (k : Int) = d.Letters) {w : Str} (hw : LW k w) : 0 ≤ rho d w ∧ rho d w < d.Final.length := rn_lw D hk hw D.s0 D.s1
theorem XI.lw (h : XI d k i x W S) {j : Nat} (hj : j < W.length) : LW k (ix W j) := h.cl.lw hj
theorem XI.in_ (h : XI d k i x W S) (D : Da d) (hk : (k : Int) = d.Letters) {j : Nat} (hj : j < W.length) : 0 ≤ ix S j ∧ ix S j < d.Final.length := by
 rw [h.st j hj]; exact J5Y D hk (h.lw hj)
theorem XI.next_ (h : XI d k i x W S) (hx : x < 159) : ix (ix d.Next (ix S i)) (x : Int) = rho d (ix W i ++ [lt x]) := by
 rw [h.st i h.il]; exact (J2h d d.Start _ hx).symm
theorem CL.few {F : Str → Prop} (h : CL k (rho d) W F) (D : Da d) (hk : (k : Int) = d.Letters) : W.length ≤ d.Final.length := h.le fun w hw => J5Y D hk hw
theorem XI.few (h : XI d k i x W S) (D : Da d) (hk : (k : Int) = d.Letters) : W.length ≤ d.Final.length := h.cl.few D hk
theorem XI.known (h : XI d k i x W S) (hk : k < 159) (hx : x < k) {j : Nat} (hj : j < W.length) (e : ix S j = rho d (ix W i ++ [lt x])) : XI d k i (x + 1) W S :=
 ⟨h.cl.known (by omega) (J0J (by omega) (by omega)) ((h.st j hj).symm.trans e), h.il, h.sl, h.st⟩
theorem XI.new (h : XI d k i x W S) (hk : k < 159) (hx : x < k) (hn : ∀ j : Nat, j < W.length → ix S j ≠ rho d (ix W i ++ [lt x])) : XI d k i (x + 1) (W ++ [ix W i ++ [lt x]]) (S ++ [rho d (ix W i ++ [lt x])]) := by
 have hi := h.il
 have hsl := h.sl
 refine ⟨?_, by simp; omega, by simp [hsl], fun j hj => ?_⟩
 ·rw [ixA hi]
  exact h.cl.new (by omega) (LW.app.2 ⟨h.lw hi, LW.lt hx hk⟩) fun w hw => by
   obtain ⟨j, hj, rfl⟩ := J0j.1 hw
   rw [← h.st j hj]
   exact hn j hj
 ·simp only [List.length_append, List.length_singleton] at hj
  by_cases hjW : j < W.length
  ·rw [ixA (by omega), ixA hjW]; exact h.st j hjW
  ·have : j = W.length := by omega
   rw [ixL' (by omega), ixL' this]
theorem XI.go (h : XI d k i k W S) (hk : k < 159) (hd : i + 1 < W.length) : XI d k (i + 1) 0 W S := ⟨h.cl.next (J7Q d k) hk hd, hd, h.sl, h.st⟩
theorem XI.all (h : XI d k i k W S) (hk : k < 159) (hd : i + 1 = W.length) : CL k (rho d) W (fun _ => True) := h.cl.all (J7Q d k) hk hd
theorem XI.start : XI d k 0 0 [[]] [d.Start] := by
 refine ⟨CL.start, by simp, rfl, fun j hj => ?_⟩
 have : j = 0 := by simpa using hj
 subst this
 rfl
structure YI (d : DFA) (k i : Nat) (W : List Str) (S : List Int) : Prop where
 il : i ≤ W.length
 sl : S.length = W.length
 st : ∀ j : Nat, j < W.length → ix S j = rho d (ix W j)
 at_ : i < W.length → XI d k i 0 W S
 al : i = W.length → CL k (rho d) W (fun _ => True)
 few : W.length ≤ d.Final.length
theorem YI.start (D : Da d) : YI d k 0 [[]] [d.Start] := ⟨by simp, rfl, (XI.start (d := d) (k := k)).st, fun _ => XI.start, fun h => by simp at h, by have := D.f1; simpa using this⟩
theorem XI.yi (h : XI d k i k W S) (hk : k < 159) (D : Da d) (hkl : (k : Int) = d.Letters) : YI d k (i + 1) W S :=
 ⟨h.il, h.sl, h.st, fun hd => h.go hk hd, fun hd => h.all hk hd, h.few D hkl⟩
structure RowsOk (d : DFA) (k i : Nat) (W : List Str) (Nx : List (List Int)) (Fn : List Bool) : Prop where
 nl : Nx.length = i
 fl : Fn.length = i
 fin : ∀ a : Nat, a < i → ix Fn a = acc d (ix W a)
 row : ∀ a : Nat, a < i → (ix Nx a).length = k
 nx : ∀ a x : Nat, a < i → x < k → ∃ j : Nat, ix (ix Nx a) x = j ∧ j < W.length ∧ rho d (ix W j) = rho d (ix W a ++ [lt x])
variable {Nx : List (List Int)} {Fn : List Bool} {row : List Int}
theorem RowsOk.start : RowsOk d k 0 W [] [] := ⟨rfl, rfl, fun a h => by omega, fun a h => by omega, fun a x h => by omega⟩
def RowI (d : DFA) (k i x : Nat) (W : List Str) (row : List Int) : Prop := ∀ y : Nat, y < x → ∃ j : Nat, ix row y = j ∧ j < W.length ∧ rho d (ix W j) = rho d (ix W i ++ [lt y])
theorem RowI.up (h : RowI d k i x W row) (hi : i < W.length) (c : Str) : RowI d k i x (W ++ [c]) row := fun y hy => by
 obtain ⟨j, e, hj, r⟩ := h y hy
 exact ⟨j, e, by simp; omega, by rw [ixA hj, ixA hi]; exact r⟩
theorem RowsOk.up (h : RowsOk d k i W Nx Fn) (hi : i ≤ W.length) (c : Str) : RowsOk d k i (W ++ [c]) Nx Fn := by
 refine ⟨h.nl, h.fl, fun a ha => ?_, h.row, fun a x ha hx => ?_⟩
 ·rw [ixA (by omega)]; exact h.fin a ha
 ·obtain ⟨j, e, hj, r⟩ := h.nx a x ha hx
  exact ⟨j, e, by simp; omega, by rw [ixA hj, ixA (by omega)]; exact r⟩
theorem RowsOk.push (h : RowsOk d k i W Nx Fn) (hl : row.length = k) (hr : RowI d k i k W row) : RowsOk d k (i + 1) W (Nx ++ [row]) (Fn ++ [acc d (ix W i)]) := by
 have hn := h.nl
 have hf := h.fl
 refine ⟨by simp [hn], by simp [hf], fun a ha => ?_, fun a ha => ?_, fun a x ha hx => ?_⟩
 ·by_cases hai : a = i
  ·subst hai; rw [ixL' (by omega)]
  ·rw [ixA (by omega)]; exact h.fin a (by omega)
 ·by_cases hai : a = i
  ·subst hai; rw [ixL' (by omega)]; exact hl
  ·rw [ixA (by omega)]; exact h.row a (by omega)
 ·by_cases hai : a = i
  ·subst hai; rw [ixL' (by omega)]; exact hr x hx
  ·rw [ixA (by omega)]; exact h.nx a x (by omega) hx
theorem RowsOk.can (h : RowsOk d k W.length W Nx Fn) (c : CL k (rho d) W (fun _ => True)) {l : Int} (hl : l = k) : Can k (rho d) (acc d) ⟨l, 0, Fn, Nx⟩ W :=
 ⟨c, hl, rfl, h.fl, h.nl, h.fin, h.row, h.nx⟩
structure Nms (S : List Int) (m : List (Int × Int)) : Prop where
 has : ∀ q, mhas m q = true ↔ ∃ j : Nat, j < S.length ∧ ix S j = q
 get : ∀ j : Nat, j < S.length → ∃ j' : Nat, mgt m (ix S j) = j' ∧ j' < S.length ∧ ix S j' = ix S j
variable {m : List (Int × Int)}
theorem Nms.start (q : Int) : Nms [q] (mput [] q 0) := by
 refine ⟨fun a => ?_, fun j hj => ?_⟩
 ·simp only [mput, mhas, Bool.or_false, decide_eq_true_eq]
  constructor
  ·rintro rfl; exact ⟨0, by simp, rfl⟩
  ·rintro ⟨j, hj, rfl⟩
   have : j = 0 := by simpa using hj
   subst this; rfl
 ·have : j = 0 := by simpa using hj
  subst this
  exact ⟨0, by simp [mput, mgt, ix], by simp, rfl⟩
theorem Nms.new (h : Nms S m) {q : Int} (hn : ¬ mhas m q = true) : Nms (S ++ [q]) (mput m q (S.length : Int)) := by
 refine ⟨fun a => ?_, fun j hj => ?_⟩
 ·rw [J2g]
  simp only [Bool.or_eq_true, decide_eq_true_eq, h.has]
  constructor
  ·rintro (rfl | ⟨j, hj, e⟩)
   ·exact ⟨S.length, by simp, ixL⟩
   ·exact ⟨j, by simp; omega, by rw [ixA hj]; exact e⟩
  ·rintro ⟨j, hj, e⟩
   simp only [List.length_append, List.length_singleton] at hj
   by_cases hjS : j < S.length
   ·rw [ixA hjS] at e; exact .inr ⟨j, hjS, e⟩
   ·rw [ixL' (by omega)] at e; exact .inl e.symm
 ·simp only [List.length_append, List.length_singleton] at hj
  rw [J2R]
  by_cases hjS : j < S.length
  ·rw [ixA hjS, if_neg (fun e => hn ((h.has q).2 ⟨j, hjS, e⟩))]
   obtain ⟨j', e1, h1, h2⟩ := h.get j hjS
   exact ⟨j', e1, by simp; omega, by rw [ixA h1]; exact h2⟩
  ·have e : j = S.length := by omega
   subst e
   rw [ixL, if_pos rfl]
   exact ⟨S.length, rfl, by simp, ixL⟩
def PlaceI (n c : Nat) (pl : List Int) : Prop := pl.length = n ∧ ∀ q : Nat, q < n → -1 ≤ ix pl q ∧ ix pl q < c
theorem PlaceI.set {n c : Nat} {pl : List Int} (h : PlaceI n c pl) {q v : Int} (h0 : 0 ≤ q) (h1 : q < n) (hv0 : -1 ≤ v) (hv1 : v < c) : PlaceI n c (Sg.st pl q v) := by
 refine ⟨by simp [h.1], fun p hp => ?_⟩
 rw [ix_st _ h0 (by rw [h.1]; exact h1) (by omega)]
 split
 ·exact ⟨hv0, hv1⟩
 ·exact h.2 p hp
end
section
variable {d : DFA} {k : Nat}
theorem J4A {Nx : List (List Int)} {Fn : List Bool} {S : List Int} {K : DFA → List Int → Prop} {pl : List Int} (hS : ∀ j : Nat, j < S.length → 0 ≤ ix S j ∧ ix S j < d.Final.length) (hp : PlaceI d.Final.length S.length pl)
  (h : ∀ pl, PlaceI d.Final.length S.length pl → K ⟨d.Letters, 0, Fn, Nx⟩ pl) : LoopWP (S := Nat × List Int) (fun s X => J3s d Nx Fn S K (fun a b => X (a, b)) s.1 s.2) (0, pl) := by
 refine LoopWP.to S.length (fun s => s.1) (fun s => s.1 ≤ S.length ∧ PlaceI d.Final.length S.length s.2) ⟨Nat.zero_le _, hp⟩ (fun s h => h.1) ?_
 rintro ⟨a, pl⟩ X ⟨ha, hpl⟩ hX
 try dsimp only at ha hpl ⊢
 unfold J3s
 split
 ·rename_i hlt
  have := hS a (by omega)
  have hl := hpl.1
  exact ⟨by omega, hlt, this.1, by omega, hX (a + 1, _) ⟨by dsimp only; omega, hpl.set this.1 this.2 (by omega) (by omega)⟩ rfl⟩
 ·exact h pl hpl
theorem J4z {Nx : List (List Int)} {Fn : List Bool} {S : List Int} {K : DFA → List Int → Prop} (hd : d.Final.length ≤ 512) (hS : ∀ j : Nat, j < S.length → 0 ≤ ix S j ∧ ix S j < d.Final.length)
  (h : ∀ pl, PlaceI d.Final.length S.length pl → K ⟨d.Letters, 0, Fn, Nx⟩ pl) : LoopWP (S := Nat × List Int) (fun s X => J3o d Nx Fn S K (fun a b => X (a, b)) s.1 s.2) (0, List.replicate d.Final.length (0 : Int)) := by
 refine LoopWP.to d.Final.length (fun s => s.1) (fun s => s.1 ≤ d.Final.length ∧ s.2.length = d.Final.length ∧ ∀ q : Nat, q < s.1 → ix s.2 q = -1) ⟨Nat.zero_le _, by simp, fun q hq => by simp at hq⟩ (fun s h => h.1) ?_
 rintro ⟨a, pl⟩ X ⟨ha, hl, hpl⟩ hX
 try dsimp only at ha hl hpl ⊢
 unfold J3o
 rw [List.length_replicate]
 split
 ·rename_i hlt
  refine ⟨by omega, by omega, ⟨by omega, by omega⟩, hX (a + 1, _) ⟨by dsimp only; omega, by simp [hl], fun q hq => ?_⟩ rfl⟩
  dsimp only at hq ⊢
  rw [ix_st _ (by omega) (by omega) (by omega)]
  split
  ·rfl
  ·exact hpl q (by omega)
 ·exact J4A hS ⟨hl, fun q hq => by rw [hpl q (by omega)]; omega⟩ h
theorem J4l (D : Da d) (hk : (k : Int) = d.Letters) {K : DFA → List Int → Prop} (h : ∀ t pl W, Can k (rho d) (acc d) t W → PlaceI d.Final.length W.length pl → K t pl) : J33 d K := by
 have h1 := D.l1
 have h6 := D.l6
 have hk9 : k < 159 := by omega
 have f2 := D.f2
 have hnx := D.nx
 unfold J33
 refine J0H ?_
 rw [if_pos (daC0.2 (J2z.2 D))]
 refine ⟨by simp, ?_⟩
 refine LoopWP.to d.Final.length (fun s => s.1) (fun s => ∃ W, YI d k s.1 W s.2.2.2.1 ∧ RowsOk d k s.1 W s.2.1 s.2.2.1 ∧ Nms s.2.2.2.1 s.2.2.2.2) ⟨[[]], YI.start D, RowsOk.start, Nms.start _⟩ (fun s ⟨W, hy, _⟩ => Nat.le_trans hy.il hy.few) ?_
 rintro ⟨i, Nx, Fn, S, m⟩ X ⟨W, hy, hr, hm⟩ hX
 try dsimp only at hy hr hm ⊢
 have hsl := hy.sl
 have hfew := hy.few
 unfold J4t
 split
 ·rename_i hlt
  have hi : i < W.length := by omega
  refine ⟨by omega, hlt, by omega, by omega, ?_⟩
  have hkn : d.Letters.toNat = k := by omega
  refine LoopWP.to k (fun s => s.1) (fun s => s.1 ≤ k ∧ s.2.1.length = k ∧ ∃ V, XI d k i s.1 V s.2.2.1 ∧ RowsOk d k i V Nx Fn ∧ RowI d k i s.1 V s.2.1 ∧ Nms s.2.2.1 s.2.2.2 ∧ ∀ j : Nat, j < W.length → j < V.length ∧ ix s.2.2.1 j = ix S j) ⟨Nat.zero_le _, by simp [hkn], W, hy.at_ hi, hr, fun y hy => by simp at hy, hm, fun j hj => ⟨hj, rfl⟩⟩ (fun s h => h.1) ?_
  rintro ⟨x, row, S2, m2⟩ X2 ⟨hx, hrl, V, hxi, hrv, hri, hm2, hpre⟩ hX2
  try dsimp only at hx hrl hxi hrv hri hm2 hpre ⊢
  have hV := hxi.few D hk
  have hiV := hxi.il
  have hsV := hxi.sl
  have eS : ix S (i : Int) = rho d (ix W i) := hy.st i hi
  have hSin := (hy.at_ hi).in_ D hk hi
  have eW : rho d (ix W i) = rho d (ix V i) := by
   have e1 := hxi.st i hiV
   rw [← eS, ← e1]
   exact (hpre i hi).2.symm
  unfold J4m
  rw [List.length_replicate, hkn]
  split
  ·rename_i hxk
   have hxk' : x < k := by omega
   have hat := D.at_ (q := ix S i) (x := x) hSin.1 hSin.2 (by omega) (by omega)
   have enx : ix (ix d.Next (ix S i)) (x : Int) = rho d (ix V i ++ [lt x]) := by
    rw [← hxi.next_ (by omega), hxi.st i hiV, eS, eW]
   rw [enx]
   refine ⟨hSin.1, by omega, by omega, by omega, ?_⟩
   split
   ·rename_i hmh
    obtain ⟨j, hj, ej⟩ := (hm2.has _).1 hmh
    obtain ⟨j', e1, hj', e2⟩ := hm2.get j hj
    rw [ej] at e1 e2
    refine ⟨by omega, by omega, ⟨by omega, by omega⟩, hX2 (x + 1, _) ⟨by dsimp only; omega, by simp [hrl], V, hxi.known hk9 hxk' (j := j) (by omega) ej, hrv, fun y hy => ?_, hm2, hpre⟩ rfl⟩
    dsimp only
    rw [e1, ix_st _ (by omega) (by omega) (by omega)]
    by_cases hyx : y = x
    ·subst hyx
     rw [if_pos rfl]
     exact ⟨j', rfl, by omega, (hxi.st j' (by omega)).symm.trans e2⟩
    ·rw [if_neg (by omega)]
     exact hri y (by omega)
   ·rename_i hmh
    have hn : ∀ j : Nat, j < V.length → ix S2 j ≠ rho d (ix V i ++ [lt x]) := fun j hj e => hmh ((hm2.has _).2 ⟨j, by omega, e⟩)
    have hnew := hxi.new hk9 hxk' hn
    refine ⟨by simp; omega, by omega, by omega, ⟨by omega, by omega⟩, hX2 (x + 1, _) ⟨by dsimp only; omega, by simp [hrl], _, hnew, hrv.up (by omega) _, fun y hy => ?_, hm2.new hmh, fun j hj => ⟨by have := (hpre j hj).1; simp; omega, by dsimp only; have := hpre j hj; rw [ixA (by omega)]; exact this.2⟩⟩ rfl⟩
    dsimp only
    rw [ix_st _ (by omega) (by omega) (by omega)]
    by_cases hyx : y = x
    ·subst hyx
     rw [if_pos rfl]
     exact ⟨S2.length, rfl, by simp; omega, by rw [ixL' hsV, ixA hiV]⟩
    ·rw [if_neg (by omega)]
     exact hri.up hiV _ y (by omega)
  ·rename_i hxk
   have hxk' : x = k := by omega
   subst hxk'
   have hyi := hxi.yi hk9 D hk
   rw [if_neg (by omega)]
   have hfin : ix d.Final (ix S i) = acc d (ix V i) := by rw [eS, eW]; rfl
   have hn := hrv.nl
   have hf := hrv.fl
   rw [hfin]
   exact ⟨by simp; omega, hSin.1, hSin.2, by simp; omega, ⟨by omega, by omega⟩, hX (i + 1, _) ⟨V, hyi, hrv.push hrl hri, hm2⟩ rfl⟩
 ·rename_i hlt
  have hi : i = W.length := by have := hy.il; omega
  subst hi
  have c := hr.can (hy.al rfl) (l := d.Letters) hk.symm
  have hS : ∀ j : Nat, j < S.length → 0 ≤ ix S j ∧ ix S j < d.Final.length := fun j hj => by
   rw [hy.st j (by omega)]; exact J5Y D hk (c.cl.lw (by omega))
  have key := J4z (d := d) (Nx := Nx) (Fn := Fn) (S := S) (K := K) (by omega) hS fun pl hpl => h _ pl W c (by rw [hsl] at hpl; exact hpl)
  exact ⟨fun _ => ⟨by omega, by omega, key⟩, fun _ => ⟨by omega, by omega, key⟩⟩
end
end Sg
namespace Sg
open Go
set_option linter.unusedVariables false
set_option linter.unusedSimpArgs false
theorem J6o {x : Nat} (hx : x < 31) : byt [IntKind.u8.wrap ((97 : Int) + (x : Int))] = [lt x] := by
 have e : IntKind.u8.wrap ((97 : Int) + (x : Int)) = ((97 + x : Nat) : Int) := by rw [IntKind.wrap_u8]; omega
 rw [e]; rfl
section
variable {d : DFA} {k i x : Nat} {W : List Str} {S : List Int}
def MetI (n : Nat) (S : List Int) (met : List Bool) : Prop := met.length = n ∧ ∀ q : Nat, q < n → (ix met q = true ↔ ∃ j : Nat, j < S.length ∧ ix S j = q)
theorem MetI.set {n : Nat} {met : List Bool} (h : MetI n S met) {q : Int} (h0 : 0 ≤ q) (h1 : q < n) : MetI n (S ++ [q]) (Sg.st met q true) := by
 obtain ⟨q, rfl⟩ := Int.eq_ofNat_of_zero_le h0
 refine ⟨by simp [h.1], fun p hp => ?_⟩
 rw [ix_st _ (by omega) (by rw [h.1]; omega) (by omega)]
 by_cases hpq : p = q
 ·subst hpq
  rw [if_pos rfl]
  exact ⟨fun _ => ⟨S.length, by simp, ixL⟩, fun _ => rfl⟩
 ·rw [if_neg (by omega), h.2 p hp]
  constructor
  ·rintro ⟨j, hj, e⟩; exact ⟨j, by simp; omega, by rw [ixA hj]; exact e⟩
  ·rintro ⟨j, hj, e⟩
   simp only [List.length_append, List.length_singleton] at hj
   by_cases hjS : j < S.length
   ·rw [ixA hjS] at e; exact ⟨j, hjS, e⟩
   ·rw [ixL' (by omega)] at e; omega
end
end Sg
namespace Sg
open Go
set_option linter.unusedVariables false
set_option linter.unusedSimpArgs false
section
variable {d : DFA} {k : Nat}
structure ClsI (d : DFA) (k : Nat) (p : List Int) (c : Nat) : Prop where
 len : p.length = d.Final.length
 nmb : Nmb p c
 fin : FinK d p
 hol : Holds k d p
structure ClsOk (d : DFA) (k : Nat) (p : List Int) : Prop where
 len : p.length = d.Final.length
 nmb : ∃ c, Nmb p c
 kp : Keeps k d p
 hol : Holds k d p
def keyC (d : DFA) (k : Nat) (p : List Int) (q : Nat) : AN 7 := toAN 7 (ix p q :: ((List.range k).map fun (x : Nat) => ix p (ix (ix d.Next q) (x : Int))) ++ List.replicate (6 - k) 0)
theorem J65 {p : List Int} {q : Nat} (h6 : k ≤ 6) : (ix p q :: ((List.range k).map fun (x : Nat) => ix p (ix (ix d.Next q) (x : Int))) ++ List.replicate (6 - k) 0).length = 7 := by
 simp; omega
theorem J85 (h6 : k ≤ 6) {p : List Int} {q q' : Nat} : keyC d k p q = keyC d k p q' ↔ ix p q = ix p q' ∧ ∀ x : Nat, x < k → ix p (ix (ix d.Next q) x) = ix p (ix (ix d.Next q') x) := by
 constructor
 ·intro h
  have e := J7a (J65 h6) (J65 h6) h
  simp only [List.cons_append, List.cons.injEq] at e
  refine ⟨e.1, fun x hx => ?_⟩
  have e2 := congrArg (fun l : List Int => l[x]?) e.2
  simpa [List.getElem?_append, hx] using e2
 ·rintro ⟨h1, h2⟩
  unfold keyC
  rw [h1]
  congr 3
  apply List.map_congr_left
  intro x hx
  exact h2 x (by simpa using hx)
theorem J5j {p r : List Int} {m : List (AN 7 × Int)} (h6 : k ≤ 6) (hl : p.length = d.Final.length) (h : NumI (keyC d k p) d.Final.length r m) : SplitBy k d p r := fun q q' hq hq' => by
 rw [h.eq (by omega) (by omega)]
 exact J85 h6
theorem J7l {l : List Int} {x : Nat} {v : Int} (hl : l.length = 7) (hx : x < 6) {p : List Int} {q : Nat} (h : l = ix p q :: ((List.range x).map fun (x : Nat) => ix p (ix (ix d.Next q) (x : Int))) ++ List.replicate (6 - x) 0) (hv : v = ix p (ix (ix d.Next q) (x : Int))) :
    st l ((1 : Int) + (x : Int)) v = ix p q :: ((List.range (x + 1)).map fun (x : Nat) => ix p (ix (ix d.Next q) (x : Int))) ++ List.replicate (6 - (x + 1)) 0 := by
  apply List.ext_getElem?
  intro j
  have e : ((1 : Int) + (x : Int)).toNat = x + 1 := by omega
  rw [st, e, List.getElem?_set]
  by_cases hj : x + 1 = j
  · subst hj
    rw [if_pos rfl, if_pos (by omega), hv]
    simp [List.getElem?_append]
  · rw [if_neg hj, h]
    cases j with
    | zero => simp
    | succ j =>
      simp only [List.cons_append, List.getElem?_cons_succ, List.getElem?_append, List.length_map, List.length_range]
      by_cases h1 : j < x
      · rw [if_pos h1, if_pos (by omega)]; simp [h1, show j < x + 1 by omega]
      · rw [if_neg h1, if_neg (by omega)]
        simp only [List.getElem?_replicate]
        by_cases h2 : j < 6
        · rw [if_pos (by omega), if_pos (by omega)]
        · rw [if_neg (by omega), if_neg (by omega)]
theorem J2D (D : Da d) (hk : (k : Int) = d.Letters) {p : List Int} {c : Nat} (hp : ClsI d k p c) {q : Nat} (hq : q < d.Final.length) {r : List Int} {m : List (AN 7 × Int)} (hrl : r.length = d.Final.length) (hn : NumI (keyC d k p) q (r.take q) m) {X : Nat → List Int → List (AN 7 × Int) → Prop} {K : List Int → Prop}
  (h : ∀ r m, r.length = d.Final.length → NumI (keyC d k p) (q + 1) (r.take (q + 1)) m → X (q + 1) r m) :
  LoopWP (S := Nat × List Int) (fun s Y => J0X d p q r m X K (fun a b => Y (a, b)) s.1 s.2) (0, [ix p q, 0, 0, 0, 0, 0, 0]) := by
 have h1 := D.l1
 have h6 := D.l6
 have hnx := D.nx
 have hrow := D.row q (by omega)
 refine LoopWP.to k (fun s => s.1) (fun s => s.1 ≤ k ∧ s.2.length = 7 ∧ s.2 = ix p q :: ((List.range s.1).map fun (x : Nat) => ix p (ix (ix d.Next q) (x : Int))) ++ List.replicate (6 - s.1) 0) ⟨Nat.zero_le _, rfl, rfl⟩ (fun s h => h.1) ?_
 rintro ⟨x, l⟩ Y ⟨hx, hl, hI⟩ hY
 try dsimp only at hx hl hI ⊢
 unfold J0X
 split
 ·rename_i hlt
  have hxk : x < k := by omega
  have hat := D.at_ (q := q) (x := x) (by omega) (by omega) (by omega) (by omega)
  have hpl := hp.len
  exact ⟨by omega, hlt, ⟨by omega, by omega⟩, hat.2.1, by omega, hl, by omega, by omega, hY (x + 1, _) ⟨by dsimp only; omega, by simp [hl], J7l hl (by omega) hI rfl⟩ rfl⟩
 ·rename_i hlt
  have hxk : x = k := by omega
  subst hxk
  have ek : toAN 7 l = keyC d x p q := by rw [hI]; rfl
  rw [ek]
  refine ⟨hl, ?_⟩
  have tk : ∀ v : Int, (st r (q : Int) v).take (q + 1) = r.take q ++ [v] := fun v => J82 (by omega)
  split
  ·rename_i hm
   exact ⟨by omega, by omega, h _ _ (by simp [hrl]) (by rw [tk]; exact hn.old hm)⟩
  ·rename_i hm
   exact ⟨hl, by omega, by omega, h _ _ (by simp [hrl]) (by rw [tk]; exact hn.new hm)⟩
theorem J1e (D : Da d) (hk : (k : Int) = d.Letters) {K : List Int → Prop} (h : ∀ p, ClsOk d k p → K p) {p : List Int} {c : Nat} (hp : ClsI d k p c) :
  LoopWP (S := List Int × Int) (fun s X => J0Z d K (fun a b => X (a, b)) s.1 s.2) (p, (c : Int)) := by
 have h1 := D.l1
 have h6 := D.l6
 have f2 := D.f2
 have hnx := D.nx
 refine LoopWP.intro (fun s => ∃ c : Nat, s.2 = (c : Int) ∧ ClsI d k s.1 c) (fun s => d.Final.length - s.2.toNat) ⟨c, rfl, hp⟩ ?_
 rintro ⟨p, c'⟩ X ⟨c, hc, hp⟩ hX
 try dsimp only at hc hp ⊢
 subst hc
 have hpl := hp.len
 have hcn := hp.nmb.le
 unfold J0Z
 refine fun _ => ⟨by omega, by omega, fun _ => ?_⟩
 refine LoopWP.to d.Final.length (fun s => s.1) (fun s => s.1 ≤ d.Final.length ∧ s.2.1.length = d.Final.length ∧ NumI (keyC d k p) s.1 (s.2.1.take s.1) s.2.2) ⟨Nat.zero_le _, by simp [hpl], NumI.start⟩ (fun s h => h.1) ?_
 rintro ⟨q, r, m⟩ X2 ⟨hq, hrl, hn⟩ hX2
 try dsimp only at hq hrl hn ⊢
 unfold J1X
 split
 ·rename_i hlt
  have hq' : q < d.Final.length := by omega
  exact ⟨by omega, hlt, by omega, by omega, rfl, fun _ => J2D D hk hp hq' hrl hn fun r m h1 h2 => hX2 (q + 1, r, m) ⟨hq', h1, h2⟩ rfl⟩
 ·rename_i hlt
  have : q = d.Final.length := by omega
  subst this
  rw [List.take_of_length_le (by omega)] at hn
  have hs := J5j (by omega) hpl hn
  have hpr : p.length = r.length := by omega
  have hfin := hs.fin hpr hp.fin
  have hhol := hs.holds hpr D hk hpl hp.hol
  split
  ·rename_i e
   have e : m.length = c := by omega
   exact h r ⟨hrl, ⟨_, hn.nmb⟩, hs.keeps hpr D hk hpl hp.fin hp.nmb (by rw [← e]; exact hn.nmb), hhol⟩
  ·rename_i e
   have := hp.nmb.finer hn.nmb hpr (hs.fin2 hpr)
   have hmn := hn.nmb.le
   exact hX (r, (m.length : Int)) ⟨m.length, rfl, hrl, hn.nmb, hfin, hhol⟩ (by dsimp only; omega)
theorem J5e (D : Da d) {p : List Int} {c : Nat} (hl : p.length = d.Final.length) (hp : ∀ q : Nat, q < d.Final.length → ix p q = if ix d.Final q = ix d.Final 0 then 0 else 1) (hc : c = if (∃ q : Nat, q < d.Final.length ∧ ix d.Final q ≠ ix d.Final 0) then 2 else 1) : ClsI d k p c := by
 have f1 := D.f1
 have h00 : ix p ((0 : Nat) : Int) = 0 := by rw [hp 0 (by omega)]; exact if_pos rfl
 have hfin : FinK d p := fun q q' hq hq' e => by
  rw [hp q (by omega), hp q' (by omega)] at e
  by_cases h1 : ix d.Final q = ix d.Final 0 <;> by_cases h2 : ix d.Final q' = ix d.Final 0
  ·rw [h1, h2]
  ·rw [if_pos h1, if_neg h2] at e; omega
  ·rw [if_neg h1, if_pos h2] at e; omega
  ·revert h1 h2
   cases ix d.Final (q : Int) <;> cases ix d.Final (q' : Int) <;> cases ix d.Final 0 <;> simp
 refine ⟨hl, ⟨fun q hq => ?_, fun a ha => ?_, fun q a hq ha => ?_⟩, hfin, fun q q' hq hq' e => ?_⟩
 ·rw [hp q (by omega)]
  split
  ·exact ⟨0, rfl, by rw [hc]; split <;> omega⟩
  ·rename_i hne
   exact ⟨1, rfl, by rw [hc, if_pos ⟨q, by omega, hne⟩]; omega⟩
 ·by_cases ha0 : a = 0
  ·subst ha0; exact ⟨0, by omega, h00⟩
  ·by_cases hx : ∃ q : Nat, q < d.Final.length ∧ ix d.Final q ≠ ix d.Final 0
   ·rw [if_pos hx] at hc
    obtain ⟨q, h1, h2⟩ := hx
    refine ⟨q, by omega, ?_⟩
    rw [hp q h1, if_neg h2]; omega
   ·rw [if_neg hx] at hc; omega
 ·rw [hp q (by omega)] at ha
  split at ha
  ·omega
  ·rename_i hne
   have h0q : 0 < q := by
    rcases Nat.eq_zero_or_pos q with h0 | h0
    ·subst h0; exact absurd rfl hne
    ·exact h0
   have ha0 : a = 0 := by omega
   subst ha0
   exact ⟨0, h0q, h00⟩
 ·have := congrFun e ⟨[], LW.nil k⟩
  simp only [beh, J7L] at this
  rw [hp q (by omega), hp q' (by omega), this]
theorem J3k (D : Da d) (hk : (k : Int) = d.Letters) {K : List Int → Prop} (h : ∀ p, ClsOk d k p → K p) : J0z d K := by
 have f1 := D.f1
 have f2 := D.f2
 unfold J0z
 refine J0H ?_
 rw [if_pos (daC0.2 (J2z.2 D))]
 refine fun _ => ⟨by omega, by omega, ?_⟩
 refine LoopWP.to d.Final.length (fun s => s.2.1) (fun s => s.2.1 ≤ d.Final.length ∧ s.2.2.length = d.Final.length ∧ (∀ q : Nat, q < d.Final.length → ix s.2.2 q = if q < s.2.1 ∧ ix d.Final q ≠ ix d.Final 0 then 1 else 0) ∧ s.1 = (if (∃ q : Nat, q < s.2.1 ∧ ix d.Final q ≠ ix d.Final 0) then 2 else 1 : Int)) ⟨Nat.zero_le _, by simp, fun q hq => ?_, ?_⟩ (fun s h => h.1) ?_
 ·rw [J0a _ _ hq]; simp
 ·rw [if_neg]; rintro ⟨q, hq, _⟩; simp at hq
 rintro ⟨c, a, p⟩ X ⟨ha, hl, hp, hc⟩ hX
 try dsimp only at ha hl hp hc ⊢
 unfold J26
 split
 ·rename_i hlt
  have halt : a < d.Final.length := by omega
  have old : ix d.Final a = ix d.Final 0 → X (c, a + 1, p) := fun e => hX (c, a + 1, p) ⟨halt, hl, fun q hq => by
   rw [hp q hq]
   by_cases hqa : q = a
   ·subst hqa; rw [if_neg (by simp [e]), if_neg (by simp [e])]
   ·by_cases hq2 : q < a ∧ ix d.Final q ≠ ix d.Final 0
    ·rw [if_pos hq2, if_pos ⟨by dsimp only; omega, hq2.2⟩]
    ·rw [if_neg hq2, if_neg (fun hh => hq2 ⟨by have := hh.1; dsimp only at this; omega, hh.2⟩)], by
   dsimp only
   rw [hc]
   by_cases hx : ∃ q : Nat, q < a ∧ ix d.Final q ≠ ix d.Final 0
   ·rw [if_pos hx, if_pos (by obtain ⟨q, h1, h2⟩ := hx; exact ⟨q, by omega, h2⟩)]
   ·rw [if_neg hx, if_neg (by
     rintro ⟨q, h1, h2⟩
     by_cases hqa : q = a
     ·subst hqa; exact h2 e
     ·exact hx ⟨q, by omega, h2⟩)]⟩ rfl
  have new : ix d.Final a ≠ ix d.Final 0 → X (2, a + 1, st p (a : Int) 1) := fun e => hX (2, a + 1, _) ⟨halt, by simp [hl], fun q hq => by
   dsimp only
   rw [ix_st _ (by omega) (by omega) (by omega)]
   by_cases hqa : q = a
   ·subst hqa; rw [if_pos rfl, if_pos ⟨by omega, e⟩]
   ·rw [if_neg (by omega), hp q hq]
    by_cases hq2 : q < a ∧ ix d.Final q ≠ ix d.Final 0
    ·rw [if_pos hq2, if_pos ⟨by omega, hq2.2⟩]
    ·rw [if_neg hq2, if_neg (fun hh => hq2 ⟨by omega, hh.2⟩)], by
   dsimp only
   rw [if_pos ⟨a, by omega, e⟩]⟩ rfl
  refine ⟨by omega, by omega, ?_⟩
  split
  ·rename_i ht
   refine ⟨by omega, by omega, ?_⟩
   split
   ·rename_i h0; exact old (by rw [ht, h0])
   ·rename_i h0; exact ⟨by omega, by omega, new (by rw [ht]; exact fun hh => h0 hh.symm)⟩
  ·rename_i ht
   refine ⟨by omega, by omega, ?_⟩
   split
   ·rename_i h0; exact ⟨by omega, by omega, new (by rw [h0]; exact ht)⟩
   ·rename_i h0; exact old (by rw [Bool.eq_false_iff.2 ht, Bool.eq_false_iff.2 h0])
 ·rename_i hlt
  have hae : a = d.Final.length := by omega
  subst hae
  have hp' : ∀ q : Nat, q < d.Final.length → ix p q = if ix d.Final q = ix d.Final 0 then 0 else 1 := fun q hq => by
   rw [hp q hq]
   by_cases e : ix d.Final q = ix d.Final 0
   ·rw [if_pos e, if_neg (fun hh => hh.2 e)]
   ·rw [if_neg e, if_pos ⟨hq, e⟩]
  by_cases hx : ∃ q : Nat, q < d.Final.length ∧ ix d.Final q ≠ ix d.Final 0
  ·rw [if_pos hx] at hc
   subst hc
   exact J1e D hk h (c := 2) (J5e D hl hp' (by rw [if_pos hx]))
  ·rw [if_neg hx] at hc
   subst hc
   exact J1e D hk h (c := 1) (J5e D hl hp' (by rw [if_neg hx]))
end
section
variable {d : DFA} {k : Nat}
structure PartX (d : DFA) (p : List Int) (x : Nat) (r : List Int) : Prop where
 len : r.length = d.Final.length
 nmb : ∃ c, Nmb r c
 eq : ∀ i j : Nat, i < d.Final.length → j < d.Final.length → (ix r i = ix r j ↔ ix p i = ix p j ∧ ∀ y : Nat, y < x → ix p (ix (ix d.Next i) y) = ix p (ix (ix d.Next j) y))
end
end Sg
namespace Sg
open Go
set_option linter.unusedVariables false
set_option linter.unusedSimpArgs false
section
variable {d : DFA} {k : Nat} {p : List Int}
structure QuoI (d : DFA) (k : Nat) (p : List Int) (q : Nat) (Nx : List (List Int)) (Fn : List Bool) : Prop where
 nl : Nx.length = Fn.length
 rg : ∀ j : Nat, j < q → ix p j < Fn.length
 on : ∀ a : Nat, a < Fn.length → ∃ j : Nat, j < q ∧ ix p j = a ∧ ix Fn a = ix d.Final j ∧ (ix Nx a).length = k ∧ ∀ x : Nat, x < k → ix (ix Nx a) x = ix p (ix (ix d.Next j) x)
variable {q : Nat} {Nx : List (List Int)} {Fn : List Bool} {row : List Int}
theorem QuoI.start : QuoI d k p 0 [] [] := ⟨rfl, fun j h => by omega, fun a h => by simp at h⟩
theorem QuoI.skip (h : QuoI d k p q Nx Fn) (hq : ix p q < Fn.length) : QuoI d k p (q + 1) Nx Fn :=
 ⟨h.nl, fun j hj => by
  by_cases e : j = q
  ·subst e; exact hq
  ·exact h.rg j (by omega), fun a ha => by
  obtain ⟨j, h1, h2⟩ := h.on a ha
  exact ⟨j, by omega, h2⟩⟩
theorem QuoI.next (h : QuoI d k p q Nx Fn) {c : Nat} (hp : Nmb p c) (hq : q < p.length) (hn : ¬ ix p q < Fn.length) : ix p q = Fn.length := by
 obtain ⟨a, ea, ha⟩ := hp.rg q hq
 rcases Nat.lt_or_ge Fn.length a with hlt | hge
 ·obtain ⟨j, hj, e⟩ := hp.fst q Fn.length hq (by omega)
  have := h.rg j hj
  omega
 ·omega
theorem QuoI.push (h : QuoI d k p q Nx Fn) (e : ix p q = Fn.length) (hl : row.length = k) (hr : ∀ x : Nat, x < k → ix row x = ix p (ix (ix d.Next q) x)) : QuoI d k p (q + 1) (Nx ++ [row]) (Fn ++ [ix d.Final q]) := by
 have hn := h.nl
 refine ⟨by simp [hn], fun j hj => ?_, fun a ha => ?_⟩
 ·by_cases hjq : j = q
  ·subst hjq; rw [e]; simp; omega
  ·have := h.rg j (by omega); simp; omega
 ·simp only [List.length_append, List.length_singleton] at ha
  by_cases haF : a < Fn.length
  ·obtain ⟨j, h1, h2, h3, h4, h5⟩ := h.on a haF
   refine ⟨j, by omega, h2, by rw [ixA haF]; exact h3, by rw [ixA (by omega)]; exact h4, fun x hx => by rw [ixA (by omega)]; exact h5 x hx⟩
  ·have : a = Fn.length := by omega
   subst this
   exact ⟨q, by omega, e, by rw [ixL], by rw [ixL' (by omega)]; exact hl, fun x hx => by rw [ixL' (by omega)]; exact hr x hx⟩
theorem QuoI.quo (h : QuoI d k p p.length Nx Fn) {c : Nat} (hp : Nmb p c) {l s : Int} (hl : l = k) (hs : s = ix p d.Start) : Quo k d p ⟨l, s, Fn, Nx⟩ :=
 ⟨hl, hs, h.nl, fun q hq => by
  obtain ⟨a, e, ha⟩ := hp.rg q hq
  have := h.rg q hq
  exact ⟨a, e, by show a < Fn.length; omega⟩, fun a ha => by
  obtain ⟨j, h1, h2⟩ := h.on a ha
  exact ⟨j, h1, h2⟩⟩
theorem QuoI.few (h : QuoI d k p q Nx Fn) (hq : q ≤ p.length) : Fn.length ≤ p.length := by
 apply Classical.byContradiction
 intro hc
 have rep : ∀ a : Nat, ∃ j : Nat, a < Fn.length → j < q ∧ ix p j = a := fun a => by
  by_cases ha : a < Fn.length
  ·obtain ⟨j, h1, h2, _⟩ := h.on a ha; exact ⟨j, fun _ => ⟨h1, h2⟩⟩
  ·exact ⟨0, fun h => absurd h ha⟩
 obtain ⟨f, hf⟩ := Classical.axiomOfChoice rep
 obtain ⟨a, b, h1, h2, e⟩ := pigeon p.length (fun m => (f m : Int)) fun m hm => by have := (hf m (by omega)).1; omega
 have ea := (hf a (by omega)).2
 have eb := (hf b (by omega)).2
 have : f a = f b := by have e : (f a : Int) = (f b : Int) := e; omega
 rw [this] at ea
 omega
theorem J6n {Q m : DFA} {W : List Str} (D : Da d) (hk : (k : Int) = d.Letters) (hc : ClsOk d k p) (hQ : Quo k d p Q) (c : Can k (rho Q) (acc Q) m W) : Can k (nero d k) (acc d) m W :=
 hQ.can hc.kp hc.hol D hk hc.len c
theorem J5H {t m : DFA} {V W : List Str} (D : Da d) (hk : (k : Int) = d.Letters) (c : Can k (rho d) (acc d) t V) (h : Can k (nero t k) (acc t) m W) : Can k (nero d k) (acc d) m W :=
 Can.trim D hk (by have := D.l6; omega) c h
end
section
variable {d : DFA} {k : Nat}
theorem J8i (D : Da d) (hk : (k : Int) = d.Letters) {t : DFA} {W : List Str} (c : Can k (rho d) (acc d) t W) : Da t :=
 c.da (by have := D.l1; omega) (by have := D.l6; omega) (by have := c.cl.few D hk; have := D.f2; omega)
theorem J3u (D : Da d) (hk : (k : Int) = d.Letters) {K : DFA → List Int → Prop} (h : ∀ m W s, Can k (nero d k) (acc d) m W → K m s) : J0x d K := by
 have h1 := D.l1
 have h6 := D.l6
 have f2 := D.f2
 unfold J0x
 refine J4l D hk fun t pl V ct hpl => ?_
 have Dt := J8i D hk ct
 have hkt : (k : Int) = t.Letters := ct.le.symm
 have f2t := Dt.f2
 have nxt := Dt.nx
 refine J3k Dt hkt fun p hp => ?_
 obtain ⟨c, hpc⟩ := hp.nmb
 have hplen := hp.len
 have hVf : V.length = t.Final.length := ct.fl.symm
 refine fun _ => ?_
 refine LoopWP.to p.length (fun s => s.1) (fun s => s.1 ≤ p.length ∧ QuoI t k p s.1 s.2.1 s.2.2) ⟨Nat.zero_le _, QuoI.start⟩ (fun s h => h.1) ?_
 rintro ⟨q, Nx, Fn⟩ X ⟨hq, hI⟩ hX
 try dsimp only at hq hI ⊢
 have hfew := hI.few hq
 have hnl := hI.nl
 unfold J23
 split
 ·rename_i hlt
  have hq' : q < p.length := by omega
  refine ⟨by omega, hlt, ?_⟩
  split
  ·rename_i hc2
   exact hX (q + 1, _) ⟨by dsimp only; omega, hI.skip hc2⟩ rfl
  ·rename_i hc2
   have e := hI.next hpc hq' hc2
   have hrow := Dt.row q (by omega)
   refine ⟨by omega, by omega, by omega, by omega, fun _ => ?_⟩
   have hkn : d.Letters.toNat = k := by omega
   refine LoopWP.to k (fun s => s.1) (fun s => s.1 ≤ k ∧ s.2.length = k ∧ ∀ x : Nat, x < s.1 → ix s.2 x = ix p (ix (ix t.Next q) x)) ⟨Nat.zero_le _, by simp [hkn], fun x hx => by simp at hx⟩ (fun s h => h.1) ?_
   rintro ⟨x, row⟩ X2 ⟨hx, hrl, hri⟩ hX2
   try dsimp only at hx hrl hri ⊢
   unfold J1T
   split
   ·rename_i hxk
    have hat := Dt.at_ (q := q) (x := x) (by omega) (by omega) (by omega) (by omega)
    refine ⟨by omega, hxk, hat.2.1, by omega, by omega, by omega, hX2 (x + 1, _) ⟨by dsimp only; omega, by simp [hrl], fun y hy => ?_⟩ rfl⟩
    dsimp only at hy ⊢
    rw [ix_st _ (by omega) (by omega) (by omega)]
    by_cases hyx : y = x
    ·subst hyx; rw [if_pos rfl]
    ·rw [if_neg (by omega)]; exact hri y (by omega)
   ·rename_i hxk
    have : x = k := by omega
    subst this
    exact ⟨by omega, by omega, by simp; omega, by simp; omega, hX (q + 1, _) ⟨by dsimp only; omega, hI.push e hrl hri⟩ rfl⟩
 ·rename_i hlt
  have : q = p.length := by omega
  subst this
  have s0 : t.Start = 0 := ct.st
  have hp0 : ix p t.Start = 0 := by
   rw [s0]
   obtain ⟨a, ea, ha⟩ := hpc.rg 0 (by have := Dt.f1; omega)
   rcases Nat.eq_zero_or_pos a with h0 | h0
   ·subst h0; exact ea
   ·obtain ⟨j, hj, _⟩ := hpc.fst 0 0 (by have := Dt.f1; omega) (by omega)
    omega
  have hQ : Quo k t p ⟨d.Letters, 0, Fn, Nx⟩ := hI.quo hpc (by omega) hp0.symm
  have DQ := hQ.da Dt hkt hplen (by show Fn.length ≤ 512; omega)
  refine J4l DQ hk fun m pm W cm hpm => ?_
  have hmin := J5H D hk ct (J6n Dt hkt hp hQ cm)
  have hWF := cm.cl.few DQ hk
  have hpll := hpl.1
  refine fun _ => ⟨by omega, by omega, ?_⟩
  refine LoopWP.to pl.length (fun s => s.1) (fun s => s.1 ≤ pl.length ∧ s.2.length = pl.length) ⟨Nat.zero_le _, by simp⟩ (fun s h => h.1) ?_
  rintro ⟨b, o⟩ X2 ⟨hb, hol⟩ hX2
  try dsimp only at hb hol ⊢
  unfold J1Z
  split
  ·rename_i hlt2
   refine ⟨by omega, hlt2, by omega, by omega, ?_⟩
   split
   ·rename_i h0
    have hb2 := hpl.2 b (by omega)
    obtain ⟨a, ea, ha⟩ := hQ.rg (ix pl b).toNat (by omega)
    have e1 : (((ix pl (b : Int)).toNat : Nat) : Int) = ix pl b := by omega
    rw [e1] at ea
    have hpm1 := hpm.1
    rw [ea]
    have ha : a < Fn.length := ha
    have hpm1 : pm.length = Fn.length := hpm1
    exact ⟨h0, by omega, by omega, by omega, by omega, by simp; omega, hX2 (b + 1, _) ⟨by dsimp only; omega, by simp [hol]⟩ rfl⟩
   ·exact hX2 (b + 1, _) ⟨by dsimp only; omega, by simp [hol]⟩ rfl
  ·exact h m W o hmin
theorem J3m (D : Da d) (hk : (k : Int) = d.Letters) {K : DFA → Prop} (h : ∀ m W, Can k (nero d k) (acc d) m W → K m) : J0y d K := by
 unfold J0y
 refine J0H ?_
 rw [if_pos (daC0.2 (J2z.2 D))]
 exact J3u D hk fun m W s c => h m W c
end
end Sg
namespace Sg
open Go
set_option linter.unusedVariables false
set_option linter.unusedSimpArgs false
def MinOf (k : Nat) (d M : DFA) : Prop := ∃ W, Can k (nero d k) (acc d) M W
section
variable {k : Nat} {d M : DFA}
theorem J7c (d : DFA) (k : Nat) : Sat k (nero d k) (acc d) := fun u v _ _ h => by
 have := J32.1 h [] (LW.nil k)
 simpa [acc] using this
theorem MinOf.uniq {M' : DFA} (h : MinOf k d M) (h' : MinOf k d M') : M = M' := by
 obtain ⟨W, c⟩ := h
 obtain ⟨W', c'⟩ := h'
 exact (c.uniq c').1
theorem MinOf.acc_ (h : MinOf k d M) (hk : k < 159) {w : Str} (hw : LW k w) : acc M w = acc d w := by
 obtain ⟨W, c⟩ := h
 exact c.acc (J4x d k) hk (J7c d k) hw
theorem MinOf.st (h : MinOf k d M) : M.Start = 0 := let ⟨_, c⟩ := h; c.st
theorem MinOf.le (h : MinOf k d M) : M.Letters = k := let ⟨_, c⟩ := h; c.le
theorem MinOf.pos (h : MinOf k d M) : 1 ≤ M.Final.length := by
 obtain ⟨W, c⟩ := h
 have := c.cl.zero.2
 rw [c.fl]; omega
theorem MinOf.da (h : MinOf k d M) (h1 : 1 ≤ k) (h6 : k ≤ 6) (hn : M.Final.length ≤ 512) : Da M := by
 obtain ⟨W, c⟩ := h
 exact c.da h1 h6 (by rw [← c.fl]; exact hn)
theorem MinOf.J10 (h : MinOf k d M) (hk : k < 159) {u v : Str} (hu : LW k u) (hv : LW k v) : (∀ q : Nat, q < M.Final.length → rn M q u = rn M q v) ↔ syn (acc d) k u = syn (acc d) k v := by
 have hacc : ∀ w, LW k w → ix M.Final (rn M 0 w) = acc d w := fun w hw => by
  have := h.acc_ hk hw
  rw [← this, acc, h.st]
 obtain ⟨W, c⟩ := h
 rw [Sg.J10]
 constructor
 ·intro e x y hx hy
  rw [← hacc _ (LW.app.2 ⟨LW.app.2 ⟨hx, hu⟩, hy⟩), ← hacc _ (LW.app.2 ⟨LW.app.2 ⟨hx, hv⟩, hy⟩), J0w, J0w, J0w, J0w]
  obtain ⟨j, e1, hj, _⟩ := c.run (J4x d k) hk hx
  rw [e1, e j (by rw [c.fl]; exact hj)]
 ·intro e q hq
  have hq : q < W.length := by rw [← c.fl]; exact hq
  have lq := c.cl.lw hq
  obtain ⟨j, e1, hj, r1⟩ := c.run (J4x d k) hk lq
  have : j = q := c.cl.inj hj hq r1
  subst this
  obtain ⟨a, ea, ha, ra⟩ := c.run (J4x d k) hk (LW.app.2 ⟨lq, hu⟩)
  obtain ⟨b, eb, hb, rb⟩ := c.run (J4x d k) hk (LW.app.2 ⟨lq, hv⟩)
  have hab : a = b := c.cl.inj ha hb (by
   rw [ra, rb, J32]
   intro w hw
   exact e _ w lq hw)
  rw [J0w, e1] at ea eb
  rw [ea, eb, hab]
end
def PN (Ms : List DFA) : Nat := (Ms.map fun M => M.Final.length).sum
theorem J6L : PN [] = 0 := rfl
theorem J6V (Ms : List DFA) (M : DFA) : PN (Ms ++ [M]) = PN Ms + M.Final.length := by simp [PN]
theorem J8o (a b : List DFA) : PN (a ++ b) = PN a + PN b := by simp [PN]
theorem J72 {Ms : List DFA} {i : Nat} (hi : i < Ms.length) : PN (Ms.take (i + 1)) = PN (Ms.take i) + (ix Ms (i : Int)).Final.length := by rw [J3l hi, J6V]
theorem PN_le {Ms : List DFA} {i : Nat} (hi : i < Ms.length) : PN (Ms.take i) + (ix Ms (i : Int)).Final.length ≤ PN Ms := by
 have h1 : Ms = Ms.take (i + 1) ++ Ms.drop (i + 1) := (List.take_append_drop _ _).symm
 have h2 : PN Ms = PN (Ms.take (i + 1)) + PN (Ms.drop (i + 1)) := (congrArg PN h1).trans (J8o _ _)
 rw [h2, J72 hi]; omega
theorem J5X : ∀ {Ms : List DFA} {p : Nat}, p < PN Ms → ∃ i q, i < Ms.length ∧ q < (ix Ms (i : Int)).Final.length ∧ p = PN (Ms.take i) + q := by
  intro Ms p h
  have key : ∀ i, i ≤ Ms.length → p < PN (Ms.take i) → ∃ i q, i < Ms.length ∧ q < (ix Ms (i : Int)).Final.length ∧ p = PN (Ms.take i) + q := by
    intro i
    induction i with
    | zero => intro _ h; simp [PN] at h
    | succ i ih =>
      intro hi hp
      by_cases hlt : p < PN (Ms.take i)
      · exact ih (by omega) hlt
      · rw [J72 (by omega)] at hp
        exact ⟨i, p - PN (Ms.take i), by omega, by omega, by omega⟩
  exact key Ms.length (Nat.le_refl _) (by rw [List.take_length]; exact h)
structure Uni (k : Nat) (Ms : List DFA) (gens : List (List Int)) : Prop where
 gl : gens.length = k
 cl : ∀ x : Nat, x < k → (ix gens x).length = PN Ms
 at_ : ∀ i q x : Nat, i < Ms.length → q < (ix Ms (i : Int)).Final.length → x < k → ix (ix gens (x : Int)) ((PN (Ms.take i) + q : Nat) : Int) = (PN (Ms.take i) : Int) + ix (ix (ix Ms (i : Int)).Next (q : Int)) (x : Int)
structure Mins (k : Nat) (ds Ms : List DFA) : Prop where
 len : Ms.length = ds.length
 min : ∀ i : Nat, i < ds.length → MinOf k (ix ds (i : Int)) (ix Ms (i : Int))
def syJ (ds : List DFA) (k : Nat) (w : Str) : Nat → {u : Str // LW k u} × {u : Str // LW k u} → Bool := fun i => if i < ds.length then syn (acc (ix ds (i : Int))) k w else fun _ => false
theorem J74 {ds : List DFA} {k : Nat} {u v : Str} : syJ ds k u = syJ ds k v ↔ ∀ i : Nat, i < ds.length → syn (acc (ix ds (i : Int))) k u = syn (acc (ix ds (i : Int))) k v := by
 constructor
 ·intro h i hi
  have := congrFun h i
  simpa [syJ, hi] using this
 ·intro h
  funext i
  by_cases hi : i < ds.length
  ·simp only [syJ, hi, if_true]; exact h i hi
  ·simp only [syJ, hi, if_false]
theorem J73 (d : DFA) (k : Nat) : Eqv k (syJ [d] k) (syn (acc d) k) := fun u v hu hv => by
 rw [J74]
 constructor
 ·intro h; exact h 0 (by simp)
 ·intro h i hi
  have : i = 0 := by simpa using hi
  subst this
  exact h
section
variable {k : Nat} {ds Ms : List DFA} {gens : List (List Int)}
theorem Uni.GV_ (h : Uni k Ms gens) (hm : Mins k ds Ms) (h1 : 1 ≤ k) (h6 : k ≤ 6) (hd : 1 ≤ ds.length) (h32 : PN Ms ≤ 32) : GV gens = true := by
 have hgl := h.gl
 have hml := hm.len
 have e0 := h.cl 0 (by omega)
 rw [show ((0 : Nat) : Int) = 0 from rfl] at e0
 have hpos : 1 ≤ PN Ms := by
  have := PN_le (Ms := Ms) (i := 0) (by omega)
  have := (hm.min 0 (by omega)).pos
  omega
 refine J0k.2 ⟨by omega, by omega, fun x hx => ⟨J1D.2 ⟨?_, ?_, fun p hp => ?_⟩, ?_⟩⟩
 ·rw [h.cl x (by omega)]; exact hpos
 ·rw [h.cl x (by omega)]; exact h32
 ·rw [h.cl x (by omega)] at hp ⊢
  obtain ⟨i, q, hi, hq, rfl⟩ := J5X hp
  rw [h.at_ i q x hi hq (by omega)]
  have hle := PN_le hi
  have M := hm.min i (by omega)
  have Dm := M.da h1 h6 (by omega)
  have := (Dm.at_ (q := q) (x := x) (by omega) (by omega) (by omega) (by rw [M.le]; omega)).2
  omega
 ·rw [h.cl x (by omega), e0]
theorem Uni.len (h : Uni k Ms gens) (h1 : 1 ≤ k) : (ix gens 0).length = PN Ms := h.cl 0 (by omega)
theorem Uni.vl_at (h : Uni k Ms gens) (hm : Mins k ds Ms) (hg : GV gens = true) (h1 : 1 ≤ k) (h6 : k ≤ 6) (h32 : PN Ms ≤ 32) {i q : Nat} (hi : i < Ms.length) (hq : q < (ix Ms (i : Int)).Final.length) {w : Str} :
    LW k w → ix (vl gens w) ((PN (Ms.take i) + q : Nat) : Int) = (PN (Ms.take i) : Int) + rn (ix Ms (i : Int)) q w := by
  have hgl := h.gl
  have hml := hm.len
  have hle := PN_le hi
  have M := hm.min i (by omega)
  have Dm := M.da h1 h6 (by omega)
  have hkl : (k : Int) = (ix Ms (i : Int)).Letters := M.le.symm
  have hl0 := h.len h1
  induction w using snocRec with
  | nil =>
    intro _
    rw [J6b, J1A (by omega), J7L]
    omega
  | snoc w b ih =>
    intro hw
    obtain ⟨hw1, hw2⟩ := LW.app.1 hw
    obtain ⟨x, hx, rfl⟩ := LW.letter (by omega) hw2
    have hok := vl_ok hg (w := w) (by rw [hgl]; exact hw1)
    have e1 : ((lt x).toNat : Int) - 97 = x := by rw [J09 (by omega)]; omega
    rw [J2W, e1, J1G (by omega) (by rw [hok.2]; omega), ih hw1, J2h _ _ _ (by omega)]
    have hin := rn_lw Dm hkl hw1 (q := q) (by omega) (by omega)
    obtain ⟨p, ep⟩ := Int.eq_ofNat_of_zero_le hin.1
    rw [ep] at hin ⊢
    have := h.at_ i p x hi (by omega) hx
    rw [← this]
    congr 1
theorem Uni.eqv (h : Uni k Ms gens) (hm : Mins k ds Ms) (hg : GV gens = true) (h1 : 1 ≤ k) (h6 : k ≤ 6) (h32 : PN Ms ≤ 32) : Eqv k (vl gens) (syJ ds k) := fun u v hu hv => by
 have hgl := h.gl
 have hml := hm.len
 have hl0 := h.len h1
 have hu' := vl_ok hg (w := u) (by rw [hgl]; exact hu)
 have hv' := vl_ok hg (w := v) (by rw [hgl]; exact hv)
 rw [J74]
 constructor
 ·intro e i hi
  refine ((hm.min i hi).J10 (by omega) hu hv).1 fun q hq => ?_
  have a := h.vl_at hm hg h1 h6 h32 (i := i) (by omega) hq hu
  have b := h.vl_at hm hg h1 h6 h32 (i := i) (by omega) hq hv
  rw [e] at a
  omega
 ·intro e
  refine J0b (by rw [hu'.2, hv'.2]) fun p hp => ?_
  rw [hu'.2, hl0] at hp
  obtain ⟨i, q, hi, hq, rfl⟩ := J5X hp
  rw [h.vl_at hm hg h1 h6 h32 hi hq hu, h.vl_at hm hg h1 h6 h32 hi hq hv, ((hm.min i (by omega)).J10 (by omega) hu hv).2 (e i (by omega)) q hq]
end
section
variable {gens : List (List Int)} {r : run}
theorem Fin.CL_ (hg : GV gens = true) (h : Fin gens true r) : CL gens.length (vl gens) r.words (fun _ => True) := by
 have hr := h.1.rlT hg
 refine ⟨hr.asc, fun w => ?_⟩
 rw [hr.mem]
 constructor
 ·rintro ⟨⟨⟨h1, _⟩, h2⟩, _⟩
  exact ⟨⟨h1, fun v hv => h2 v ⟨hv, .inl rfl⟩⟩, trivial⟩
 ·rintro ⟨⟨h1, h2⟩, _⟩
  exact ⟨⟨⟨h1, .inl rfl⟩, fun v hv => h2 v hv.1⟩, trivial⟩
theorem Fin.w0 (hg : GV gens = true) (h : Fin gens true r) : ix r.words 0 = [] ∧ 0 < r.words.length := (h.CL_ hg).zero
theorem Fin.from_ (hg : GV gens = true) (h : Fin gens true r) {i : Nat} (hi : i < r.words.length) (h0 : 0 < i) :
  ∃ p x : Nat, p < i ∧ ix r.Enum.Prefix i = (p : Int) ∧ x < gens.length ∧ ix r.words i = ix r.words p ++ [lt x] ∧ ix r.Enum.Last i = (x : Int) := by
 have hk6 := (J0k.1 hg).2.1
 have hz := h.w0 hg
 have asc := (h.CL_ hg).asc
 have hne : ix r.words i ≠ [] := fun e => by
  have := J30 asc hi hz.2 (by rw [e]; exact hz.1.symm)
  omega
 rcases h.1.si.at_ i hi with ⟨h1, _⟩ | ⟨p, b, h1, h2, h3, h4⟩
 ·exact absurd h1 hne
 ·have hw := ((h.CL_ hg).mem _).1 (J0j.2 ⟨i, hi, rfl⟩)
  have hw := hw.1.1
  rw [h1] at hw
  obtain ⟨x, hx, rfl⟩ := LW.letter (by omega) (LW.app.1 hw).2
  rw [J09 (by omega)] at h2
  rcases h3 with ⟨_, e2, _⟩ | ⟨_, e2, e3, e4⟩
  ·cases e2
  ·obtain ⟨q, hq⟩ := Int.eq_ofNat_of_zero_le e2
   rw [hq] at e2 e3 e4
   refine ⟨q, x, ?_, hq, hx, by rw [h1, e4], by omega⟩
   refine J2A asc (by omega) hi ?_
   rw [e4, h1]
   exact .inl (by simp)
theorem Fin.el (h : Fin gens true r) : r.Enum.Elems.length = r.words.length := h.1.si.elen
theorem J7q {k : Nat} {α : Type} {ρ : Str → α} {W : List Str} (c : CL k ρ W (fun _ => True)) {i : Nat} (hi : i < W.length) (h0 : 0 < i) : ∃ w, LW k w ∧ w ≠ [] ∧ ρ w = ρ (ix W i) :=
 ⟨ix W i, c.lw hi, fun e => by
  have hz := c.zero
  have := J30 c.asc hi hz.2 (by rw [e]; exact hz.1.symm)
  omega, rfl⟩
theorem J8p {k : Nat} (hg : GV gens = true) (hk : gens.length = k) (h : Fin gens true r) {l : Int} {T : List (List Int)} {im : List Int} {A P : List Bool} (hl : l = k)
  (t1 : T.length = r.words.length) (t2 : ∀ i : Nat, i < r.words.length → (ix T i).length = r.words.length)
  (t3 : ∀ i j : Nat, i < r.words.length → j < r.words.length → ∃ m : Nat, ix (ix T i) j = m ∧ m < r.words.length ∧ vl gens (ix r.words m) = vl gens (ix r.words i ++ ix r.words j))
  (i1 : im.length = k) (i2 : ∀ x : Nat, x < k → ∃ m : Nat, ix im x = m ∧ m < r.words.length ∧ vl gens (ix r.words m) = vl gens [lt x])
  (p1 : P.length = r.words.length) (p2 : ∀ i : Nat, 0 < i → i < r.words.length → ix P i = true) (p3 : ix P 0 = true ↔ ∃ w, LW k w ∧ w ≠ [] ∧ vl gens w = vl gens []) : Mon k (vl gens) ⟨l, T, r.words, im, A, P⟩ := by
 have c := h.CL_ hg
 rw [hk] at c
 refine ⟨c, hl, t1, t2, t3, i1, i2, p1, fun i hi => ?_⟩
 rcases Nat.eq_zero_or_pos i with h0 | h0
 ·subst h0
  have hz := c.zero
  show ix P 0 = true ↔ _
  rw [p3]
  show _ ↔ ∃ w, LW k w ∧ w ≠ [] ∧ vl gens w = vl gens (ix r.words ((0 : Nat) : Int))
  rw [show ((0 : Nat) : Int) = 0 from rfl, hz.1]
 ·exact ⟨fun _ => J7q c hi h0, fun _ => p2 i h0 hi⟩
end
end Sg
namespace Sg
open Go
set_option linter.unusedVariables false
set_option linter.unusedSimpArgs false
theorem slices_Contains_ok' {s : List Int} {v : Int} {K : Bool → Prop} (h : K (decide (v ∈ s))) : J0m s v K := by
 unfold J0m J0V
 refine fun _ => LoopWP.scan s.length (fun j => ix s j ≠ v) ?_
 intro j X hj hI hX
 unfold J24
 split
 ·rename_i hlt
  refine ⟨by omega, hlt, ?_⟩
  split
  ·rename_i e
   dsimp only
   rw [if_pos (by omega)]
   have : v ∈ s := by rw [e]; exact J0J (by omega) hlt
   rw [decide_eq_true this] at h
   exact h
  ·rename_i e
   exact hX (by omega) (fun h2 => e h2.symm)
 ·dsimp only
  rw [if_neg (by decide)]
  have : v ∉ s := fun hm => by
   obtain ⟨i, hi, e⟩ := J0j.1 hm
   exact hI i (by omega) e
  rw [decide_eq_false this] at h
  exact h
section
variable {gens : List (List Int)} {r : run}
def CellI (gens : List (List Int)) (r : run) (a j : Nat) (v : Int) : Prop := ∃ m : Nat, v = m ∧ m < r.words.length ∧ vl gens (ix r.words m) = vl gens (ix r.words a ++ ix r.words j)
def TabI (gens : List (List Int)) (r : run) (i : Nat) (T : List (List Int)) : Prop := T.length = r.words.length ∧ ∀ a : Nat, a < i → (ix T a).length = r.words.length ∧ ∀ j : Nat, j < r.words.length → CellI gens r a j (ix (ix T a) j)
def RowT (gens : List (List Int)) (r : run) (i j : Nat) (T : List (List Int)) : Prop := TabI gens r i T ∧ (ix T i).length = r.words.length ∧ ∀ y : Nat, y < j → CellI gens r i y (ix (ix T i) y)
theorem RowT.all {i : Nat} {T : List (List Int)} (h : RowT gens r i r.words.length T) : TabI gens r (i + 1) T :=
 ⟨h.1.1, fun a ha => by
  by_cases e : a = i
  ·subst e; exact h.2
  ·exact h.1.2 a (by omega)⟩
theorem RowT.start {i : Nat} {T : List (List Int)} (hg : GV gens = true) (hF : Fin gens true r) (h : TabI gens r i T) (hi : i < r.words.length) :
  RowT gens r i 1 (st (st T (i : Int) (List.replicate r.Enum.Elems.length (0 : Int))) (i : Int) (st (ix (st T (i : Int) (List.replicate r.Enum.Elems.length (0 : Int))) (i : Int)) (0 : Int) (i : Int))) := by
 have hl := h.1
 have hel := hF.el
 have hz := hF.w0 hg
 refine ⟨⟨by simp [hl], fun a ha => ?_⟩, ?_, fun y hy => ?_⟩
 ·rw [ix_st _ (by omega) (by simp; omega) (by omega), if_neg (by omega), ix_st _ (by omega) (by omega) (by omega), if_neg (by omega)]
  exact h.2 a ha
 ·rw [ix_st _ (by omega) (by simp; omega) (by omega), if_pos rfl, ix_st _ (by omega) (by omega) (by omega), if_pos rfl]
  simp [hel]
 ·have : y = 0 := by omega
  subst this
  have e : ix (st T (i : Int) (List.replicate r.Enum.Elems.length (0 : Int))) (i : Int) = List.replicate r.Enum.Elems.length (0 : Int) := by rw [ix_st _ (by omega) (by omega) (by omega), if_pos rfl]
  rw [ix_st _ (by omega) (by simp; omega) (by omega), if_pos rfl, e, ix_st _ (by omega) (by simp; omega) (by omega), if_pos (by omega)]
  exact ⟨i, rfl, hi, by rw [show ((0 : Nat) : Int) = 0 from rfl, hz.1, List.append_nil]⟩
theorem RowT.look {i j : Nat} {T : List (List Int)} (hg : GV gens = true) (hF : Fin gens true r) (h : RowT gens r i j T) (hi : i < r.words.length) (hj : j < r.words.length) (h0 : 0 < j) :
  0 ≤ ix r.Enum.Prefix j ∧ ix r.Enum.Prefix j < r.words.length ∧ 0 ≤ ix (ix T i) (ix r.Enum.Prefix j) ∧ ix (ix T i) (ix r.Enum.Prefix j) < r.Enum.Right.length ∧ 0 ≤ ix r.Enum.Last j ∧ ix r.Enum.Last j < (ix r.Enum.Right (ix (ix T i) (ix r.Enum.Prefix j))).length ∧ CellI gens r i j (ix (ix r.Enum.Right (ix (ix T i) (ix r.Enum.Prefix j))) (ix r.Enum.Last j)) := by
 obtain ⟨p, x, hp, e1, hx, e2, e3⟩ := hF.from_ hg hj h0
 obtain ⟨m, em, hm, rm⟩ := h.2.2 p hp
 rw [e1, em, e3]
 obtain ⟨r1, r2, r3, r4, r5⟩ := hF.1.J56 (q := (m : Int)) (x := x) (by omega) (by omega) hx rm
 obtain ⟨v, ev⟩ := Int.eq_ofNat_of_zero_le r3
 refine ⟨by omega, by omega, by omega, r1, by omega, by omega, v, ev, by omega, ?_⟩
 rw [ev] at r5
 rw [r5, e2, List.append_assoc]
theorem RowT.step {i j : Nat} {T : List (List Int)} {v : Int} (h : RowT gens r i j T) (hi : i < r.words.length) (hj : j < r.words.length) (hv : CellI gens r i j v) : RowT gens r i (j + 1) (st T (i : Int) (st (ix T (i : Int)) (j : Int) v)) := by
 have hl := h.1.1
 have hr := h.2.1
 refine ⟨⟨by simp [hl], fun a ha => ?_⟩, ?_, fun y hy => ?_⟩
 ·rw [ix_st _ (by omega) (by omega) (by omega), if_neg (by omega)]; exact h.1.2 a ha
 ·rw [ix_st _ (by omega) (by omega) (by omega), if_pos rfl]; simp [hr]
 ·rw [ix_st _ (by omega) (by omega) (by omega), if_pos rfl, ix_st _ (by omega) (by omega) (by omega)]
  by_cases e : y = j
  ·subst e; rw [if_pos rfl]; exact hv
  ·rw [if_neg (by omega)]; exact h.2.2 y (by omega)
structure PlI (gens : List (List Int)) (r : run) (i : Nat) (pl : List Bool) : Prop where
 len : pl.length = r.words.length
 pos : ∀ j : Nat, 0 < j → j < r.words.length → ix pl j = true
 zer : ix pl 0 = true ↔ ∃ a x : Nat, a < i ∧ x < gens.length ∧ ix (ix r.Enum.Right a) x = 0
theorem PlI.step {i : Nat} {pl : List Bool} (hF : Fin gens true r) (h : PlI gens r i pl) (hi : i < r.words.length) {b : Bool} (hb : b = (ix pl 0 || decide ((0 : Int) ∈ ix r.Enum.Right (i : Int)))) : PlI gens r (i + 1) (st pl (0 : Int) b) := by
 have hl := h.len
 refine ⟨by simp [hl], fun j h0 hj => ?_, ?_⟩
 ·rw [ix_st _ (by omega) (by omega) (by omega), if_neg (by omega)]; exact h.pos j h0 hj
 ·rw [ix_st _ (by omega) (by omega) (by omega), if_pos rfl, hb]
  simp only [Bool.or_eq_true, decide_eq_true_eq, h.zer]
  have hrow := (hF.1.rt.2 i hi).1
  constructor
  ·rintro (⟨a, x, h1, h2, h3⟩ | hm)
   ·exact ⟨a, x, by omega, h2, h3⟩
   ·obtain ⟨x, hx, e⟩ := J0j.1 hm
    exact ⟨i, x, by omega, by omega, e⟩
  ·rintro ⟨a, x, h1, h2, h3⟩
   by_cases e : a = i
   ·subst e
    refine .inr ?_
    rw [← h3]
    exact J0J (by omega) (by omega)
   ·exact .inl ⟨a, x, by omega, h2, h3⟩
theorem PlI.all {pl : List Bool} (hg : GV gens = true) (hF : Fin gens true r) (h : PlI gens r r.words.length pl) : ix pl 0 = true ↔ ∃ w, LW gens.length w ∧ w ≠ [] ∧ vl gens w = vl gens [] := by
 have hk6 := (J0k.1 hg).2.1
 have c := hF.CL_ hg
 have hz := c.zero
 rw [h.zer]
 constructor
 ·rintro ⟨a, x, ha, hx, e⟩
  obtain ⟨_, _, _, _, r5⟩ := hF.1.J56 (q := (a : Int)) (x := x) (w := ix r.words a) (by omega) (by omega) hx rfl
  rw [e, hz.1] at r5
  exact ⟨ix r.words a ++ [lt x], LW.app.2 ⟨c.lw ha, LW.lt hx (by omega)⟩, by simp, r5.symm⟩
 ·rintro ⟨w, hw, hne, e⟩
  obtain ⟨p, b, rfl⟩ := snocEx hne
  obtain ⟨hp, hb⟩ := LW.app.1 hw
  obtain ⟨x, hx, rfl⟩ := LW.letter (by omega) hb
  obtain ⟨a, ha, ea⟩ := c.place hp
  obtain ⟨_, _, r3, r4, r5⟩ := hF.1.J56 (q := (a : Int)) (x := x) (w := p) (by omega) (by omega) hx ea
  refine ⟨a, x, ha, hx, ?_⟩
  obtain ⟨v, ev⟩ := Int.eq_ofNat_of_zero_le r3
  rw [ev] at r4 r5 ⊢
  have : v = 0 := c.inj (by omega) hz.2 (by rw [r5, e, show ((0 : Nat) : Int) = 0 from rfl, hz.1])
  omega
def WdI (r : run) (i : Nat) (w : List Str) : Prop := w.length = r.words.length ∧ ∀ j : Nat, j < i → ix w j = ix r.words j
theorem WdI.step {i : Nat} {w : List Str} (h : WdI r i w) (hi : i < r.words.length) {u : Str} (hu : u = ix r.words i) : WdI r (i + 1) (st w (i : Int) u) := by
 have hl := h.1
 refine ⟨by simp [hl], fun j hj => ?_⟩
 rw [ix_st _ (by omega) (by omega) (by omega)]
 by_cases e : j = i
 ·subst e; rw [if_pos rfl]; exact hu
 ·rw [if_neg (by omega)]; exact h.2 j (by omega)
def LsI (P : List part) (r : run) (L : List (List Bool)) (a : Nat) : Prop := (ix L (a : Int)).length = r.words.length ∧ ∀ i : Nat, i < r.words.length → ix (ix L (a : Int)) i = ix (ix P (a : Int)).final (ix (ix r.Enum.Elems i) (ix P (a : Int)).start - (ix P (a : Int)).shift)
def PtI (P : List part) (r : run) : Prop := ∀ a i : Nat, a < P.length → i < r.words.length → 0 ≤ (ix P (a : Int)).start ∧ (ix P (a : Int)).start < (ix r.Enum.Elems i).length ∧ I64 (ix (ix r.Enum.Elems i) (ix P (a : Int)).start - (ix P (a : Int)).shift) ∧ 0 ≤ ix (ix r.Enum.Elems i) (ix P (a : Int)).start - (ix P (a : Int)).shift ∧ ix (ix r.Enum.Elems i) (ix P (a : Int)).start - (ix P (a : Int)).shift < (ix P (a : Int)).final.length
section
variable {M : DFA} {im : List Int} {K : Syntactic → Int → Prop}
theorem J5Q (hg : GV gens = true) (hF : Fin gens true r) {i : Nat} {pl : List Bool} {T : List (List Int)} {X : Nat → List Bool → List (List Int) → Prop} (hi : i < r.words.length) (hT : RowT gens r i 1 T) (h : ∀ T, TabI gens r (i + 1) T → X (i + 1) (st pl (0 : Int) true) T) :
  LoopWP (S := Nat × List (List Int)) (fun s Y => J22 r.Enum i pl X K (fun a b => Y (a, b)) s.1 s.2) (1, T) := by
 have hel := hF.el
 have hpl := hF.1.si.pl
 have hll := hF.1.si.ll
 refine LoopWP.to r.words.length (fun s => s.1) (fun s => 1 ≤ s.1 ∧ s.1 ≤ r.words.length ∧ RowT gens r i s.1 s.2) ⟨Nat.le_refl _, by show 1 ≤ r.words.length; omega, hT⟩ (fun s h => h.2.1) ?_
 rintro ⟨j, T⟩ Y ⟨h1, hj, hT⟩ hY
 try dsimp only at h1 hj hT ⊢
 unfold J22
 have hTl := hT.1.1
 have hrl := hT.2.1
 split
 ·rename_i hlt
  have hj' : j < r.words.length := by omega
  obtain ⟨a1, a2, a3, a4, a5, a6, a7⟩ := hT.look hg hF hi hj' (by omega)
  exact ⟨by omega, by omega, by omega, by omega, by omega, by omega, a1, by omega, a3, a4, by omega, by omega, a5, a6, by omega, by omega, hY (j + 1, _) ⟨by dsimp only; omega, hj', hT.step hi hj' a7⟩ rfl⟩
 ·have : j = r.words.length := by omega
  subst this
  exact h T hT.all
theorem J5E (hg : GV gens = true) (hF : Fin gens true r) {i : Nat} {pl : List Bool} {b : Bool} {T : List (List Int)} {X : Nat → List Bool → List (List Int) → Prop} (hi : i < r.words.length) (hT : RowT gens r i 1 T) (h : ∀ T, TabI gens r (i + 1) T → X (i + 1) (st pl (0 : Int) b) T) :
  LoopWP (S := Nat × List (List Int)) (fun s Y => J1M r.Enum i pl X b K (fun a b => Y (a, b)) s.1 s.2) (1, T) := by
 have hel := hF.el
 have hpl := hF.1.si.pl
 have hll := hF.1.si.ll
 refine LoopWP.to r.words.length (fun s => s.1) (fun s => 1 ≤ s.1 ∧ s.1 ≤ r.words.length ∧ RowT gens r i s.1 s.2) ⟨Nat.le_refl _, by show 1 ≤ r.words.length; omega, hT⟩ (fun s h => h.2.1) ?_
 rintro ⟨j, T⟩ Y ⟨h1, hj, hT⟩ hY
 try dsimp only at h1 hj hT ⊢
 unfold J1M
 have hTl := hT.1.1
 have hrl := hT.2.1
 split
 ·rename_i hlt
  have hj' : j < r.words.length := by omega
  obtain ⟨a1, a2, a3, a4, a5, a6, a7⟩ := hT.look hg hF hi hj' (by omega)
  exact ⟨by omega, by omega, by omega, by omega, by omega, by omega, a1, by omega, a3, a4, by omega, by omega, a5, a6, by omega, by omega, hY (j + 1, _) ⟨by dsimp only; omega, hj', hT.step hi hj' a7⟩ rfl⟩
 ·have : j = r.words.length := by omega
  subst this
  exact h T hT.all
theorem J5D (hF : Fin gens true r) (hn : r.words.length ≤ 400) (hP : PtI (([] : List part) ++ [(⟨(0 : Int) + M.Start, M.Final, (0 : Int)⟩ : part)]) r) {w : List Str} {pl : List Bool} {T : List (List Int)} (h1 : 1 ≤ (([] : List part) ++ [(⟨(0 : Int) + M.Start, M.Final, (0 : Int)⟩ : part)]).length) (h : ∀ L : List (List Bool), L.length = (([] : List part) ++ [(⟨(0 : Int) + M.Start, M.Final, (0 : Int)⟩ : part)]).length → (∀ a : Nat, a < (([] : List part) ++ [(⟨(0 : Int) + M.Start, M.Final, (0 : Int)⟩ : part)]).length → LsI (([] : List part) ++ [(⟨(0 : Int) + M.Start, M.Final, (0 : Int)⟩ : part)]) r L a) → K ⟨(gens.length : Int), T, w, im, ix L (0 : Int), pl⟩ 0) :
  LoopWP (S := Nat × List (List Bool)) (fun s Y => J1W M gens r.Enum im w pl T K (fun a b => Y (a, b)) s.1 s.2) (0, List.replicate (([] : List part) ++ [(⟨(0 : Int) + M.Start, M.Final, (0 : Int)⟩ : part)]).length ([] : List Bool)) := by
 have hel := hF.el
 refine LoopWP.to (([] : List part) ++ [(⟨(0 : Int) + M.Start, M.Final, (0 : Int)⟩ : part)]).length (fun s => s.1) (fun s => s.1 ≤ (([] : List part) ++ [(⟨(0 : Int) + M.Start, M.Final, (0 : Int)⟩ : part)]).length ∧ s.2.length = (([] : List part) ++ [(⟨(0 : Int) + M.Start, M.Final, (0 : Int)⟩ : part)]).length ∧ ∀ a : Nat, a < s.1 → LsI (([] : List part) ++ [(⟨(0 : Int) + M.Start, M.Final, (0 : Int)⟩ : part)]) r s.2 a) ⟨Nat.zero_le _, by simp, fun a ha => by simp at ha⟩ (fun s h => h.1) ?_
 rintro ⟨b, L⟩ Y ⟨hb, hL, hI⟩ hY
 try dsimp only at hb hL hI ⊢
 unfold J1W
 split
 ·rename_i hlt
  have hb' : b < (([] : List part) ++ [(⟨(0 : Int) + M.Start, M.Final, (0 : Int)⟩ : part)]).length := by omega
  refine ⟨by omega, hlt, by omega, by omega, by omega, by omega, ?_⟩
  refine LoopWP.to r.words.length (fun s => s.1) (fun s => s.1 ≤ r.words.length ∧ s.2.length = (([] : List part) ++ [(⟨(0 : Int) + M.Start, M.Final, (0 : Int)⟩ : part)]).length ∧ (∀ a : Nat, a < b → LsI (([] : List part) ++ [(⟨(0 : Int) + M.Start, M.Final, (0 : Int)⟩ : part)]) r s.2 a) ∧ (ix s.2 (b : Int)).length = r.words.length ∧ ∀ i : Nat, i < s.1 → ix (ix s.2 (b : Int)) i = ix (ix (([] : List part) ++ [(⟨(0 : Int) + M.Start, M.Final, (0 : Int)⟩ : part)]) (b : Int)).final (ix (ix r.Enum.Elems i) (ix (([] : List part) ++ [(⟨(0 : Int) + M.Start, M.Final, (0 : Int)⟩ : part)]) (b : Int)).start - (ix (([] : List part) ++ [(⟨(0 : Int) + M.Start, M.Final, (0 : Int)⟩ : part)]) (b : Int)).shift)) ⟨Nat.zero_le _, by simp only [J05]; exact hL, fun a ha => ?_, ?_, fun i hi => by simp at hi⟩ (fun s h => h.1) ?_
  ·have := hI a ha
   unfold LsI at this ⊢
   dsimp only
   rw [ix_st _ (by omega) (by omega) (by omega), if_neg (by omega)]
   exact this
  ·dsimp only
   rw [ix_st _ (by omega) (by omega) (by omega), if_pos rfl]; simp [hel]
  rintro ⟨i, L⟩ Z ⟨hi, hL, hI, hbl, hJ⟩ hZ
  try dsimp only at hi hL hI hbl hJ ⊢
  unfold J2X
  split
  ·rename_i hlt2
   have hi' : i < r.words.length := by omega
   obtain ⟨p1, p2, p3, p4, p5⟩ := hP b i hb' hi'
   refine ⟨by omega, by omega, by omega, by omega, ?_⟩
   unfold J0p
   refine ⟨p1, p2, p3, p4, p5, by omega, by omega, hZ (i + 1, _) ⟨by dsimp only; omega, by simp only [J05]; exact hL, fun a ha => ?_, ?_, fun y hy => ?_⟩ rfl⟩
   ·have := hI a ha
    unfold LsI at this ⊢
    dsimp only
    rw [ix_st _ (by omega) (by omega) (by omega), if_neg (by omega)]
    exact this
   ·dsimp only
    rw [ix_st _ (by omega) (by omega) (by omega), if_pos rfl]; simp [hbl]
   ·dsimp only at hy ⊢
    rw [ix_st _ (by omega) (by omega) (by omega), if_pos rfl, ix_st _ (by omega) (by omega) (by omega)]
    by_cases e : y = i
    ·subst e; rw [if_pos rfl]
    ·rw [if_neg (by omega)]; exact hJ y (by omega)
  ·have : i = r.words.length := by omega
   subst this
   exact hY (b + 1, L) ⟨by dsimp only; omega, hL, fun a ha => by
    by_cases e : a = b
    ·subst e; exact ⟨hbl, hJ⟩
    ·exact hI a (by dsimp only at ha; omega)⟩ rfl
 ·rename_i hlt
  have : b = (([] : List part) ++ [(⟨(0 : Int) + M.Start, M.Final, (0 : Int)⟩ : part)]).length := by omega
  subst this
  have hh := h L hL hI
  exact ⟨by omega, by omega, hh⟩
theorem J5B (hg : GV gens = true) (hF : Fin gens true r) (hn : r.words.length ≤ 400) (hP : PtI (([] : List part) ++ [(⟨(0 : Int) + M.Start, M.Final, (0 : Int)⟩ : part)]) r) {w : List Str} {pl : List Bool} (h1 : 1 ≤ (([] : List part) ++ [(⟨(0 : Int) + M.Start, M.Final, (0 : Int)⟩ : part)]).length) (h32 : (([] : List part) ++ [(⟨(0 : Int) + M.Start, M.Final, (0 : Int)⟩ : part)]).length ≤ 1000) (hpl : PlI gens r 0 pl)
  (h : ∀ (T : List (List Int)) (pl : List Bool) (L : List (List Bool)), TabI gens r r.words.length T → PlI gens r r.words.length pl → L.length = (([] : List part) ++ [(⟨(0 : Int) + M.Start, M.Final, (0 : Int)⟩ : part)]).length → (∀ a : Nat, a < (([] : List part) ++ [(⟨(0 : Int) + M.Start, M.Final, (0 : Int)⟩ : part)]).length → LsI (([] : List part) ++ [(⟨(0 : Int) + M.Start, M.Final, (0 : Int)⟩ : part)]) r L a) → K ⟨(gens.length : Int), T, w, im, ix L (0 : Int), pl⟩ 0) :
  LoopWP (S := Nat × List Bool × List (List Int)) (fun s Y => J28 M gens r.Enum im w K (fun a b c => Y (a, b, c)) s.1 s.2.1 s.2.2) (0, pl, List.replicate r.Enum.Elems.length ([] : List Int)) := by
 have hel := hF.el
 have hrt := hF.1.rt.1
 have hz := hF.w0 hg
 refine LoopWP.to r.words.length (fun s => s.1) (fun s => s.1 ≤ r.words.length ∧ PlI gens r s.1 s.2.1 ∧ TabI gens r s.1 s.2.2) ⟨Nat.zero_le _, hpl, by simp [hel], fun a ha => by simp at ha⟩ (fun s h => h.1) ?_
 rintro ⟨i, pl, T⟩ Y ⟨hi, hpl, hT⟩ hY
 try dsimp only at hi hpl hT ⊢
 have hpll := hpl.len
 have hTl := hT.1
 unfold J28
 split
 ·rename_i hlt
  have hi' : i < r.words.length := by omega
  have hs := RowT.start hg hF hT hi'
  have e0 : ((ix (st T (i : Int) (List.replicate r.Enum.Elems.length (0 : Int))) (i : Int)).length : Int) = r.words.length := by
   rw [ix_st _ (by omega) (by omega) (by omega), if_pos rfl]; simp [hel]
  refine ⟨by omega, hlt, by omega, by omega, ?_⟩
  split
  ·rename_i hp0
   refine ⟨by omega, by omega, by omega, by omega, by omega, by omega, by omega, by rw [J05]; omega, by omega, by omega, J5Q hg hF hi' hs fun T hT => hY (i + 1, _, T) ⟨by dsimp only; omega, hpl.step hF hi' (by rw [hp0]; rfl), hT⟩ rfl⟩
  ·rename_i hp0
   refine slices_Contains_ok' ?_
   refine ⟨by omega, by omega, by omega, by omega, by omega, by omega, by omega, by rw [J05]; omega, by omega, by omega, J5E hg hF hi' hs fun T hT => hY (i + 1, _, T) ⟨by dsimp only; omega, hpl.step hF hi' (by rw [Bool.eq_false_iff.2 hp0]; rfl), hT⟩ rfl⟩
 ·have : i = r.words.length := by omega
  subst this
  exact ⟨by omega, by omega, J5D hF hn hP h1 fun L hL hI => h T pl L hT hpl hL hI⟩
theorem J5y (hg : GV gens = true) (hF : Fin gens true r) (hn : r.words.length ≤ 400) (hP : PtI (([] : List part) ++ [(⟨(0 : Int) + M.Start, M.Final, (0 : Int)⟩ : part)]) r) (h1 : 1 ≤ (([] : List part) ++ [(⟨(0 : Int) + M.Start, M.Final, (0 : Int)⟩ : part)]).length) (h32 : (([] : List part) ++ [(⟨(0 : Int) + M.Start, M.Final, (0 : Int)⟩ : part)]).length ≤ 1000)
  (h : ∀ (w : List Str) (T : List (List Int)) (pl : List Bool) (L : List (List Bool)), w = r.words → TabI gens r r.words.length T → PlI gens r r.words.length pl → L.length = (([] : List part) ++ [(⟨(0 : Int) + M.Start, M.Final, (0 : Int)⟩ : part)]).length → (∀ a : Nat, a < (([] : List part) ++ [(⟨(0 : Int) + M.Start, M.Final, (0 : Int)⟩ : part)]).length → LsI (([] : List part) ++ [(⟨(0 : Int) + M.Start, M.Final, (0 : Int)⟩ : part)]) r L a) → K ⟨(gens.length : Int), T, w, im, ix L (0 : Int), pl⟩ 0) :
  LoopWP (S := Nat × List Bool × List Str) (fun s Y => J1S M gens r.Enum im K (fun a b c => Y (a, b, c)) s.1 s.2.1 s.2.2) (1, List.replicate r.Enum.Elems.length false, List.replicate r.Enum.Elems.length ([] : Str)) := by
 have hel := hF.el
 have hplx := hF.1.si.pl
 have hll := hF.1.si.ll
 have hz := hF.w0 hg
 have hk6 := (J0k.1 hg).2.1
 refine LoopWP.to r.words.length (fun s => s.1) (fun s => 1 ≤ s.1 ∧ s.1 ≤ r.words.length ∧ s.2.1.length = r.words.length ∧ (∀ j : Nat, 0 < j → j < s.1 → ix s.2.1 j = true) ∧ ix s.2.1 0 = false ∧ WdI r s.1 s.2.2) ⟨Nat.le_refl _, hz.2, by simp [hel], fun j h0 hj => by dsimp only at hj; omega, ?_, by simp [hel], fun j hj => ?_⟩ (fun s h => h.2.1) ?_
 ·dsimp only
  rw [show (0 : Int) = ((0 : Nat) : Int) from rfl, J0a _ _ (by omega)]
 ·dsimp only at hj ⊢
  have : j = 0 := by omega
  subst this
  rw [J0a _ _ (by omega)]
  exact hz.1.symm
 rintro ⟨i, pl, w⟩ Y ⟨h0, hi, hpl, hp1, hp0, hw⟩ hY
 try dsimp only at h0 hi hpl hp1 hp0 hw ⊢
 have hwl := hw.1
 unfold J1S
 split
 ·rename_i hlt
  have hi' : i < r.words.length := by omega
  obtain ⟨p, x, hp, e1, hx, e2, e3⟩ := hF.from_ hg hi' (by omega)
  have hwp := hF.1.si.wl p (by omega)
  rw [e1, e3, J6o (by omega), hw.2 p (by omega)]
  exact ⟨by omega, by omega, by omega, by omega, by omega, by omega, ⟨by omega, by omega⟩, by simp; omega, by omega, by omega, by omega, by omega, hY (i + 1, _, _) ⟨by dsimp only; omega, hi', by simp [hpl], fun j h0 hj => by
   dsimp only at hj ⊢
   rw [ix_st _ (by omega) (by omega) (by omega)]
   by_cases e : j = i
   ·subst e; rw [if_pos rfl]
   ·rw [if_neg (by omega)]; exact hp1 j h0 (by omega), by
   dsimp only
   rw [ix_st _ (by omega) (by omega) (by omega), if_neg (by omega)]; exact hp0, hw.step hi' e2.symm⟩ rfl⟩
 ·have : i = r.words.length := by omega
  subst this
  have ew : w = r.words := J0b hw.1 fun j hj => hw.2 j (by omega)
  exact fun _ => J5B hg hF hn hP h1 h32 ⟨hpl, hp1, by rw [hp0]; simp⟩ fun T pl L h1 h2 h3 h4 => h w T pl L ew h1 h2 h3 h4
end
section
variable {P : List part} {im : List Int} {K : Syntactic → List (List Bool) → Int → Prop}
end
end
end Sg
namespace Sg
open Go
set_option linter.unusedVariables false
set_option linter.unusedSimpArgs false
section
variable {gens : List (List Int)}
theorem RI.ex0 (hg : GV gens = true) : ∃ r, RI gens true 0 r := by
  have key : ∀ x, x ≤ gens.length → ∃ E Pf Ls R W Bh sg m, BI gens true x E Pf Ls R W Bh sg m := by
    intro x
    induction x with
    | zero => intro _; exact ⟨_, _, _, _, _, _, _, _, BI.start1 hg⟩
    | succ x ih =>
      intro hx
      obtain ⟨E, Pf, Ls, R, W, Bh, sg, m, h⟩ := ih (by omega)
      by_cases hf : ix gens (x : Int) ∈ E
      · exact ⟨_, _, _, _, _, _, _, _, (h.known hg (by omega) hf).2.2⟩
      · exact ⟨_, _, _, _, _, _, _, _, h.new hg (by omega) hf (e := 0) rfl⟩
  obtain ⟨E, Pf, Ls, R, W, Bh, sg, m, h⟩ := key gens.length (Nat.le_refl _)
  exact ⟨_, h.fin hg⟩
theorem RI.exS (hg : GV gens = true) {d : Nat} {r : run} (h : RI gens true d r) (hd : d < r.words.length) : ∃ r', RI gens true (d + 1) r' := by
  classical
  have key : ∀ x, x ≤ gens.length → ∃ row E Pf Ls R W Bh m, PI gens true r.single r.Enum.Right d x row E Pf Ls R W Bh m := by
    intro x
    induction x with
    | zero => intro _; exact ⟨_, _, _, _, _, _, _, _, h.pi hg hd⟩
    | succ x ih =>
      intro hx
      obtain ⟨row, E, Pf, Ls, R, W, Bh, m, hI⟩ := ih (by omega)
      by_cases hf : vl gens (ix W d ++ [lt x]) ∈ E
      · by_cases hu : ix W d = []
        · exact ⟨_, _, _, _, _, _, _, _, hI.skip hg (by omega) hf fun hn => absurd hu hn⟩
        · by_cases hm : MN gens true (ix W d ++ [lt x])
          · exact ⟨_, _, _, _, _, _, _, _, hI.rule hg (by omega) hf hu hm⟩
          · exact ⟨_, _, _, _, _, _, _, _, hI.skip hg (by omega) hf fun _ => hm⟩
      · have hu : ix W d ≠ [] := fun k => hf (hI.J5k hg (by omega) k)
        obtain ⟨hb, hq⟩ := J52 hI.si hI.dl (show x < gens.length by omega) hI.sg hI.rt hu
        rcases hq with ⟨_, q0, q1, q2⟩ | ⟨_, _, _, _, q0, q1, q2⟩
        · exact ⟨_, _, _, _, _, _, _, _, hI.new hg (by omega) hu hf q0 q1 q2⟩
        · exact ⟨_, _, _, _, _, _, _, _, hI.new hg (by omega) hu hf q0 q1 q2⟩
  obtain ⟨row, E, Pf, Ls, R, W, Bh, m, hI⟩ := key gens.length (Nat.le_refl _)
  exact ⟨_, hI.fin hg h⟩
theorem J7P (hg : GV gens = true) {n : Nat} (hn : n ≤ 2000) (hf : ∀ W : List Str, (∀ w ∈ W, LW gens.length w) → (∀ i j : Nat, i < j → j < W.length → vl gens (ix W i) ≠ vl gens (ix W j)) → W.length ≤ n) : ∃ r, Fin gens true r := by
  have few : ∀ {d : Nat} {r : run}, RI gens true d r → r.words.length ≤ n := fun {d r} h => by
    refine hf r.words (fun w hw => ((h.si.rl.mem w).1 hw).1.1.1) fun i j hij hj e => ?_
    have ri := h.si.red (i := (i : Int)) (by omega) (by omega)
    have rj := h.si.red (i := (j : Int)) (by omega) (by omega)
    have := J30 h.si.rl.asc (by omega) hj (ri.uniq rj e)
    omega
  have key : ∀ d, (∃ r, Fin gens true r) ∨ ∃ r, RI gens true d r := by
    intro d
    induction d with
    | zero => exact .inr (RI.ex0 hg)
    | succ d ih =>
      rcases ih with ih | ⟨r, h⟩
      · exact .inl ih
      · by_cases e : d < r.words.length
        · exact .inr (h.exS hg e)
        · have := h.dl
          have e : d = r.words.length := by omega
          subst e
          have := few h
          exact .inl ⟨r, h, by omega⟩
  rcases key (n + 1) with h | ⟨r, h⟩
  · exact h
  · have := h.dl
    have := few h
    omega
theorem Lim.noFin (hg : GV gens = true) {d : Nat} (h : Lim gens true d) (r : run) : ¬ Fin gens true r := fun hr => by
 obtain ⟨_, ⟨s, hs, hd⟩, hl⟩ := h
 have := hr.1.J2Y hg hs
 have := hl r.words.length r (by omega) hr.1
 have := hr.2
 omega
theorem J83 {α : Type} {k : Nat} {ρ : Str → α} {s : Syntactic} (h : Mon k ρ s) (W : List Str) (hw : ∀ w ∈ W, LW k w) (hd : ∀ i j : Nat, i < j → j < W.length → ρ (ix W i) ≠ ρ (ix W j)) : W.length ≤ s.Words.length := by
 apply Classical.byContradiction
 intro hc
 have rep : ∀ i : Nat, ∃ j : Nat, i < W.length → j < s.Words.length ∧ ρ (ix s.Words j) = ρ (ix W i) := fun i => by
  by_cases hi : i < W.length
  ·obtain ⟨j, h1, h2⟩ := h.cl.place (hw _ (J0j.2 ⟨i, hi, rfl⟩))
   exact ⟨j, fun _ => ⟨h1, h2⟩⟩
  ·exact ⟨0, fun h => absurd h hi⟩
 obtain ⟨f, hf⟩ := Classical.axiomOfChoice rep
 obtain ⟨a, b, h1, h2, e⟩ := pigeon s.Words.length (fun m => (f m : Int)) fun m hm => by have := (hf m (by omega)).1; omega
 have ea := (hf a (by omega)).2
 have eb := (hf b (by omega)).2
 have : f a = f b := by have e : (f a : Int) = (f b : Int) := e; omega
 rw [this] at ea
 exact hd a b h1 (by omega) (ea.symm.trans eb)
end
structure UniP (k : Nat) (Ms : List DFA) (M : DFA) (cnt : Nat → Nat) (G : List (List Int)) : Prop where
 gl : G.length = k
 cl : ∀ y : Nat, y < k → (ix G (y : Int)).length = PN Ms + cnt y
 old : ∀ i q y : Nat, i < Ms.length → q < (ix Ms (i : Int)).Final.length → y < k → ix (ix G (y : Int)) ((PN (Ms.take i) + q : Nat) : Int) = (PN (Ms.take i) : Int) + ix (ix (ix Ms (i : Int)).Next (q : Int)) (y : Int)
 new : ∀ q y : Nat, y < k → q < cnt y → ix (ix G (y : Int)) ((PN Ms + q : Nat) : Int) = (PN Ms : Int) + ix (ix M.Next (q : Int)) (y : Int)
section
variable {k x q : Nat} {Ms : List DFA} {M : DFA} {cnt cnt' : Nat → Nat} {G : List (List Int)} {v : Int}
theorem UniP.start (h : Uni k Ms G) : UniP k Ms M (fun _ => 0) G := ⟨h.gl, fun y hy => h.cl y hy, fun i q y hi hq hy => h.at_ i q y hi hq hy, fun q y _ h => absurd h (Nat.not_lt_zero _)⟩
theorem UniP.congr (h : UniP k Ms M cnt G) (e : ∀ y, y < k → cnt y = cnt' y) : UniP k Ms M cnt' G :=
 ⟨h.gl, fun y hy => by rw [← e y hy]; exact h.cl y hy, h.old, fun q y hy hq => h.new q y hy (by rw [e y hy]; exact hq)⟩
theorem UniP.step (h : UniP k Ms M cnt G) (hx : x < k) (hc : cnt x = q) (hv : v = (PN Ms : Int) + ix (ix M.Next (q : Int)) (x : Int)) : UniP k Ms M (fun y => if y = x then q + 1 else cnt y) (st G (x : Int) (ix G (x : Int) ++ [v])) := by
 have hg := h.gl
 have hcx := h.cl x hx
 have e1 : ∀ y : Nat, y < k → ix (st G (x : Int) (ix G (x : Int) ++ [v])) (y : Int) = if y = x then ix G (x : Int) ++ [v] else ix G (y : Int) := fun y hy => by
  rw [ix_st _ (by omega) (by omega) (by omega)]
  by_cases e : y = x
  ·subst e; rw [if_pos rfl, if_pos rfl]
  ·rw [if_neg (by omega), if_neg e]
 refine ⟨by simp [hg], fun y hy => ?_, fun i q y hi hq hy => ?_, fun p y hy hp => ?_⟩
 ·rw [e1 y hy]
  by_cases e : y = x
  ·rw [if_pos e, if_pos e]; simp; omega
  ·rw [if_neg e, if_neg e]; exact h.cl y hy
 ·rw [e1 y hy]
  by_cases e : y = x
  ·subst e
   rw [if_pos rfl, ixA (by have := PN_le hi; omega)]
   exact h.old i q y hi hq hy
  ·rw [if_neg e]; exact h.old i q y hi hq hy
 ·rw [e1 y hy]
  by_cases e : y = x
  ·subst e
   rw [if_pos rfl] at hp ⊢
   by_cases hpq : p = q
   ·subst hpq
    rw [ixL' (by omega)]; exact hv
   ·rw [ixA (by omega)]
    exact h.new p y hy (by omega)
  ·rw [if_neg e] at hp ⊢
   exact h.new p y hy hp
theorem J6e {α : Type} [Inhabited α] {l : List α} {a : α} {i : Nat} (hi : i < (l ++ [a]).length) : (i < l.length ∧ ix (l ++ [a]) (i : Int) = ix l (i : Int)) ∨ (i = l.length ∧ ix (l ++ [a]) (i : Int) = a) := by
 simp only [List.length_append, List.length_singleton] at hi
 by_cases h : i < l.length
 ·exact .inl ⟨h, ixA h⟩
 ·exact .inr ⟨by omega, ixL' (by omega)⟩
theorem UniP.all (h : UniP k Ms M (fun _ => M.Final.length) G) : Uni k (Ms ++ [M]) G := by
 refine ⟨h.gl, fun y hy => by rw [h.cl y hy, J6V], fun i q y hi hq hy => ?_⟩
 rcases J6e hi with ⟨h1, e⟩ | ⟨h1, e⟩
 ·rw [e] at hq ⊢
  rw [List.take_append_of_le_length (by omega)]
  exact h.old i q y h1 hq hy
 ·rw [e] at hq ⊢
  subst h1
  rw [List.take_append_of_le_length (Nat.le_refl _), List.take_length]
  exact h.new q y hy hq
theorem Uni.nil (k : Nat) : Uni k [] (List.replicate k ([] : List Int)) := ⟨by simp, fun y hy => by rw [J0a _ _ hy]; rfl, fun i q y hi _ _ => by simp at hi⟩
def cntL (n x q : Nat) (y : Nat) : Nat := if y < x then n else if y = x then q else 0
theorem UniP.stepL {n : Nat} (h : UniP k Ms M (cntL n x q) G) (hx : x < k) (hv : v = (PN Ms : Int) + ix (ix M.Next (q : Int)) (x : Int)) : UniP k Ms M (cntL n x (q + 1)) (st G (x : Int) (ix G (x : Int) ++ [v])) :=
 (h.step hx (by simp [cntL]) hv).congr fun y _ => by
  unfold cntL
  by_cases e : y = x
  ·subst e; simp
  ·rw [if_neg e]
   by_cases e2 : y < x
   ·rw [if_pos e2, if_pos e2]
   ·rw [if_neg e2, if_neg e2, if_neg e, if_neg e]
theorem UniP.nextL {n : Nat} (h : UniP k Ms M (cntL n x n) G) : UniP k Ms M (cntL n (x + 1) 0) G :=
 h.congr fun y _ => by
  unfold cntL
  by_cases e : y = x
  ·subst e; simp
  ·by_cases e2 : y < x
   ·rw [if_pos e2, if_pos (by omega)]
   ·rw [if_neg e2, if_neg e, if_neg (by omega)]; split <;> rfl
end
structure SynJ (k : Nat) (ds : List DFA) (s : Syntactic) (L : List (List Bool)) : Prop where
 mon : Mon k (syJ ds k) s
 ll : L.length = ds.length
 la : ∀ i : Nat, i < ds.length → (ix L (i : Int)).length = s.Words.length ∧ ∀ j : Nat, j < s.Words.length → ix (ix L (i : Int)) j = acc (ix ds (i : Int)) (ix s.Words j)
 ac : s.Accept = ix L 0
 n : s.Words.length ≤ 400
 few : ∃ Ms, Mins k ds Ms ∧ PN Ms ≤ 32
section
variable {k : Nat} {ds Ms : List DFA} {gens : List (List Int)} {r : run} {s s' : Syntactic} {L L' : List (List Bool)}
theorem SynJ.acc_ (h : SynJ k ds s L) (h1 : 1 ≤ ds.length) : Acc (acc (ix ds 0)) s := by
 have := h.la 0 (by omega)
 rw [show ((0 : Nat) : Int) = 0 from rfl, ← h.ac] at this
 exact ⟨this.1, this.2⟩
theorem SynJ.uniq (h : SynJ k ds s L) (h' : SynJ k ds s' L') (h1 : 1 ≤ ds.length) : s = s' ∧ L = L' := by
 have e := h.mon.uniq h'.mon (h.acc_ h1) (h'.acc_ h1)
 subst e
 refine ⟨rfl, J0b (h.ll.trans h'.ll.symm) fun i hi => ?_⟩
 have hi : i < ds.length := by rw [← h.ll]; exact hi
 have a := h.la i hi
 have b := h'.la i hi
 refine J0b (a.1.trans b.1.symm) fun j hj => ?_
 have hj : j < s.Words.length := by rw [← a.1]; exact hj
 rw [a.2 j hj, b.2 j hj]
theorem Mins.uniq {Ms' : List DFA} (h : Mins k ds Ms) (h' : Mins k ds Ms') : Ms = Ms' :=
 J0b (h.len.trans h'.len.symm) fun i hi => (h.min i (by rw [← h.len]; exact hi)).uniq (h'.min i (by rw [← h.len]; exact hi))
theorem SynJ.fin (h : SynJ k ds s L) (hg : GV gens = true) (hgl : gens.length = k) (he : Eqv k (vl gens) (syJ ds k)) : ∃ r, Fin gens true r ∧ r.words.length ≤ 400 := by
 have hk6 := (J0k.1 hg).2.1
 have hm := h.mon.congr (by omega) he.symm
 obtain ⟨r, hr⟩ := J7P hg (n := 400) (by omega) fun W hW hd => Nat.le_trans (J83 (k := k) hm W (fun w hw => by rw [← hgl]; exact hW w hw) hd) h.n
 refine ⟨r, hr, ?_⟩
 have c := hr.CL_ hg
 rw [hgl] at c
 have := c.uniq hm.cl
 rw [this]; exact h.n
structure PartsOk (Ms : List DFA) (P : List part) : Prop where
 len : P.length = Ms.length
 at_ : ∀ a : Nat, a < Ms.length → (ix P (a : Int)).start = (PN (Ms.take a) : Int) ∧ (ix P (a : Int)).final = (ix Ms (a : Int)).Final ∧ (ix P (a : Int)).shift = (PN (Ms.take a) : Int)
theorem PartsOk.nil : PartsOk [] [] := ⟨rfl, fun a h => by simp at h⟩
theorem PartsOk.push {P : List part} (h : PartsOk Ms P) {M : DFA} (hs : M.Start = 0) : PartsOk (Ms ++ [M]) (P ++ [⟨(PN Ms : Int) + M.Start, M.Final, (PN Ms : Int)⟩]) := by
 have hl := h.len
 refine ⟨by simp [hl], fun a ha => ?_⟩
 rcases J6e ha with ⟨h1, e⟩ | ⟨h1, e⟩
 ·rw [e, ixA (by omega), List.take_append_of_le_length (by omega)]
  exact h.at_ a h1
 ·rw [e]
  subst h1
  rw [ixL' (by omega), List.take_append_of_le_length (Nat.le_refl _), List.take_length]
  exact ⟨by rw [hs]; simp, rfl, rfl⟩
section
variable {P : List part}
theorem J5Z (hu : Uni k Ms gens) (hm : Mins k ds Ms) (hg : GV gens = true) (h1 : 1 ≤ k) (h6 : k ≤ 6) (h32 : PN Ms ≤ 32) (hP : PartsOk Ms P) (hF : Fin gens true r) {a i : Nat} (ha : a < Ms.length) (hi : i < r.words.length) :
  (ix P (a : Int)).start < (ix r.Enum.Elems i).length ∧ 0 ≤ (ix P (a : Int)).start ∧ 0 ≤ ix (ix r.Enum.Elems i) (ix P (a : Int)).start - (ix P (a : Int)).shift ∧ ix (ix r.Enum.Elems i) (ix P (a : Int)).start - (ix P (a : Int)).shift < (ix P (a : Int)).final.length ∧ (ix P (a : Int)).final.length ≤ 32 ∧
   ix (ix P (a : Int)).final (ix (ix r.Enum.Elems i) (ix P (a : Int)).start - (ix P (a : Int)).shift) = acc (ix ds (a : Int)) (ix r.words i) := by
 have hgl := hu.gl
 have c := hF.CL_ hg
 rw [hgl] at c
 have hw := c.lw hi
 obtain ⟨e1, e2, e3⟩ := hP.at_ a ha
 have hle := PN_le ha
 have M := hm.min a (by rw [← hm.len]; exact ha)
 have hpos := M.pos
 have hv := hu.vl_at hm hg h1 h6 h32 ha (q := 0) (by omega) hw
 have hok := vl_ok hg (w := ix r.words i) (by rw [hgl]; exact hw)
 have hl0 := hu.len h1
 have Dm := M.da h1 h6 (by omega)
 have hin := rn_lw Dm M.le.symm hw (q := 0) (by omega) (by omega)
 rw [hF.1.si.eix (i := (i : Int)) (by omega) (by omega), e1, e2, e3]
 simp only [Nat.add_zero] at hv
 rw [show ((0 : Nat) : Int) = 0 from rfl] at hv
 rw [hv]
 have e4 : (PN (Ms.take a) : Int) + rn (ix Ms (a : Int)) 0 (ix r.words i) - (PN (Ms.take a) : Int) = rn (ix Ms (a : Int)) 0 (ix r.words i) := by omega
 rw [e4, ← M.acc_ (by omega) hw, acc, M.st]
 exact ⟨by omega, by omega, hin.1, hin.2, by omega, rfl⟩
theorem J87 (hu : Uni k Ms gens) (hm : Mins k ds Ms) (hg : GV gens = true) (h1 : 1 ≤ k) (h6 : k ≤ 6) (h32 : PN Ms ≤ 32) (hP : PartsOk Ms P) (hF : Fin gens true r) : PtI P r := fun a i ha hi => by
 have := J5Z hu hm hg h1 h6 h32 hP hF (a := a) (i := i) (by rw [← hP.len]; exact ha) hi
 exact ⟨this.2.1, this.1, ⟨by omega, by omega⟩, this.2.2.1, this.2.2.2.1⟩
theorem J7R (hu : Uni k Ms gens) (hm : Mins k ds Ms) (hg : GV gens = true) (h1 : 1 ≤ k) (h6 : k ≤ 6) (hd : 1 ≤ ds.length) (h32 : PN Ms ≤ 32) (hP : PartsOk Ms P) (hF : Fin gens true r) (hn : r.words.length ≤ 400)
  {T : List (List Int)} {pl : List Bool} (hT : TabI gens r r.words.length T) (hpl : PlI gens r r.words.length pl) (hL : L.length = P.length) (hLs : ∀ a : Nat, a < P.length → LsI P r L a) {im : List Int} (him : im = ix r.Enum.Right 0) :
  SynJ k ds ⟨(gens.length : Int), T, r.words, im, ix L 0, pl⟩ L := by
 have hgl := hu.gl
 have hz := hF.w0 hg
 have hPl := hP.len
 have hml := hm.len
 obtain ⟨r1, r2⟩ := hF.1.rt.2 0 hz.2
 rw [show ((0 : Nat) : Int) = 0 from rfl, ← him] at r1 r2
 have hmon : Mon k (vl gens) ⟨(gens.length : Int), T, r.words, im, ix L 0, pl⟩ :=
  J8p hg hgl hF (by rw [hgl]) hT.1 (fun i hi => (hT.2 i hi).1) (fun i j hi hj => (hT.2 i hi).2 j hj) (by omega)
   (fun x hx => by
    obtain ⟨a1, a2, a3⟩ := r2 x (by omega)
    obtain ⟨v, ev⟩ := Int.eq_ofNat_of_zero_le a1
    rw [hz.1] at a3
    exact ⟨v, ev, by omega, by rw [← ev]; exact a3⟩) hpl.len hpl.pos (by rw [hpl.all hg hF, hgl])
 refine ⟨hmon.congr (by omega) (hu.eqv hm hg h1 h6 h32), by omega, fun i hi => ?_, rfl, hn, Ms, hm, h32⟩
 have := hLs i (by omega)
 refine ⟨this.1, fun j hj => ?_⟩
 rw [this.2 j hj]
 exact (J5Z hu hm hg h1 h6 h32 hP hF (by omega) hj).2.2.2.2.2
end
end
theorem J6H {k : Nat} {d M : DFA} {W : List Str} (D : Da d) (hk : (k : Int) = d.Letters) (c : Can k (nero d k) (acc d) M W) : W.length ≤ d.Final.length := by
 apply Classical.byContradiction
 intro hc
 obtain ⟨a, b, q1, q2, e⟩ := pigeon d.Final.length (fun m => rho d (ix W (m : Int))) fun m hm => J5Y D hk (c.cl.lw (by omega))
 have : nero d k (ix W (a : Int)) = nero d k (ix W (b : Int)) := by
  rw [J32]
  intro w hw
  have e : rn d d.Start (ix W (a : Int)) = rn d d.Start (ix W (b : Int)) := e
  rw [J0w, J0w, e]
 have := c.cl.inj (show a < W.length by omega) (show b < W.length by omega) this
 omega
theorem few4 {gens : List (List Int)} (hg : GV gens = true) (h4 : (ix gens 0).length ≤ 4) : ∃ r, Fin gens true r ∧ r.words.length ≤ 256 := by
 have key : ∀ W : List Str, (∀ w ∈ W, LW gens.length w) → (∀ i j : Nat, i < j → j < W.length → vl gens (ix W i) ≠ vl gens (ix W j)) → W.length ≤ 256 := fun W hW hd => by
  apply Classical.byContradiction
  intro hc
  have ok : ∀ i : Nat, i < W.length → VF (vl gens (ix W i)) = true ∧ (vl gens (ix W i)).length = (ix gens 0).length := fun i hi => vl_ok hg (hW _ (J0j.2 ⟨i, hi, rfl⟩))
  obtain ⟨a, b, hab, hb, he⟩ := pigeon 256 (fun m => code4 (vl gens (ix W (m : Int)))) (fun m hm => by
   obtain ⟨h1, h2⟩ := ok m (by omega)
   have e0 := entry4 h1 (by omega) 0
   have e1 := entry4 h1 (by omega) 1
   have e2 := entry4 h1 (by omega) 2
   have e3 := entry4 h1 (by omega) 3
   simp only [code4]; omega)
  obtain ⟨a1, a2⟩ := ok a (by omega)
  obtain ⟨b1, b2⟩ := ok b (by omega)
  have p0 := entry4 a1 (by omega) 0
  have p1 := entry4 a1 (by omega) 1
  have p2 := entry4 a1 (by omega) 2
  have p3 := entry4 a1 (by omega) 3
  have q0 := entry4 b1 (by omega) 0
  have q1 := entry4 b1 (by omega) 1
  have q2 := entry4 b1 (by omega) 2
  have q3 := entry4 b1 (by omega) 3
  simp only [code4] at he
  refine hd a b hab (by omega) (J0b (by omega) fun j hj => ?_)
  have hj4 : j < 4 := by omega
  rcases (by omega : j = 0 ∨ j = 1 ∨ j = 2 ∨ j = 3) with rfl | rfl | rfl | rfl <;> omega
 obtain ⟨r, hr⟩ := J7P hg (n := 256) (by omega) key
 refine ⟨r, hr, key r.words (fun w hw => ((hr.CL_ hg).mem w).1 hw |>.1.1) fun i j hij hj e => ?_⟩
 have := (hr.CL_ hg).inj (by omega) hj e
 omega
theorem SynJ.one {k : Nat} {d : DFA} {s : Syntactic} {L : List (List Bool)} (hk : d.Letters = k) (hk9 : k < 159) (h : SynJ k [d] s L) : SynD d s := by
 obtain ⟨Ms, hm, h32⟩ := h.few
 have hml : Ms.length = 1 := hm.len
 have hle := PN_le (Ms := Ms) (i := 0) (by omega)
 have M := hm.min 0 (by simp)
 obtain ⟨W, c⟩ := M
 exact ⟨⟨k, hk, ⟨h.mon.congr hk9 (J73 d k), h.acc_ (by simp)⟩, _, W, c, by have := c.fl; omega⟩, h.n⟩
theorem SynD.joint {k : Nat} {d : DFA} {s : Syntactic} (hk : d.Letters = k) (hk9 : k < 159) (h : SynD d s) : SynJ k [d] s [s.Accept] := by
 obtain ⟨k', e, hs, M, W, c, hW⟩ := h.k
 have : k' = k := by omega
 subst this
 refine ⟨hs.mon.congr hk9 (J73 d k').symm, rfl, fun i hi => ?_, rfl, h.n, [M], ⟨rfl, fun i hi => ?_⟩, ?_⟩
 ·have : i = 0 := by simpa using hi
  subst this
  exact ⟨hs.acc.al, hs.acc.ac⟩
 ·have : i = 0 := by simpa using hi
  subst this
  exact ⟨W, c⟩
 ·have := c.fl
  simp [PN]; omega
abbrev zeroS : Syntactic := ⟨0, [], [], [], [], []⟩
section
variable {d : DFA} {k : Nat}
theorem J7s {M : DFA} (h : MinOf k d M) : Mins k [d] [M] := ⟨rfl, fun i hi => by
 have : i = 0 := by simpa using hi
 subst this
 exact h⟩
theorem J2G {K : Syntactic → Int → Prop} (h1 : ¬ Da d → K zeroS (daC d)) (h3 : Da d → 4 < d.Final.length → (∀ s, ¬ SynD d s) → K zeroS 3) (h0 : Da d → ∀ s, SynD d s → K s 0) : J0u d K := by
 unfold J0u
 refine J0H ?_
 by_cases hv : DV d = true
 case neg =>
  rw [if_neg (fun hh => hv (daC0.1 hh))]
  exact h1 fun D => hv (J2z.2 D)
 rw [if_pos (daC0.2 hv)]
 have D := J2z.1 hv
 have l1 := D.l1
 have l6 := D.l6
 obtain ⟨k, hk⟩ := Int.eq_ofNat_of_zero_le (show 0 ≤ d.Letters by omega)
 refine J3m D hk.symm fun M W c => ?_
 have hM : MinOf k d M := ⟨W, c⟩
 have hms := J7s hM
 have hMl := hM.le
 have hst := hM.st
 have hpn : PN [M] = M.Final.length := by simp [PN]
 have hfew := c.fl
 refine fun _ => ?_
 by_cases h32 : 32 < M.Final.length
 ·have hno : ∀ s, ¬ SynD d s := fun s hs => by
   obtain ⟨k', e, _, M', W', c', hW'⟩ := hs.k
   have : k' = k := by omega
   subst this
   have := (c.uniq c').2
   subst this
   omega
  have hle := J6H D hk.symm c
  have := D.f2
  refine ⟨⟨by omega, by omega⟩, ?_⟩
  rw [if_pos (by omega)]
  exact h3 D (by omega) hno
 ·refine ⟨⟨by omega, by omega⟩, ?_⟩
  rw [if_neg (by omega)]
  have DM := hM.da (by omega) (by omega) (by omega)
  have hMn := DM.nx
  have hkn : M.Letters.toNat = k := by omega
  refine ⟨by omega, by omega, ?_⟩
  rw [hkn]
  refine LoopWP.to k (fun s => s.1) (fun s => s.1 ≤ k ∧ UniP k [] M (cntL M.Final.length s.1 0) s.2) ⟨Nat.zero_le _, (UniP.start (Uni.nil k)).congr fun y _ => by simp [cntL]⟩ (fun s h => h.1) ?_
  rintro ⟨x, G⟩ X ⟨hx, hG⟩ hX
  try dsimp only at hx hG ⊢
  unfold J2I
  rw [List.length_replicate, hkn]
  have hgl := hG.gl
  split
  ·rename_i hlt
   have hxk : x < k := by omega
   refine LoopWP.to M.Final.length (fun s => s.1) (fun s => s.1 ≤ M.Final.length ∧ UniP k [] M (cntL M.Final.length x s.1) s.2) ⟨Nat.zero_le _, hG⟩ (fun s h => h.1) ?_
   rintro ⟨q, G⟩ Y ⟨hq, hG⟩ hY
   try dsimp only at hq hG ⊢
   have hgl := hG.gl
   unfold J2P
   split
   ·rename_i hlt2
    have hat := DM.at_ (q := q) (x := x) (by omega) (by omega) (by omega) (by omega)
    have hcl := hG.cl x hxk
    have hc0 : cntL M.Final.length x q x = q := by simp [cntL]
    rw [hc0, J6L] at hcl
    exact ⟨by omega, by omega, by omega, by omega, by omega, by omega, ⟨by omega, by omega⟩, by simp; omega, by omega, by omega, hY (q + 1, _) ⟨by dsimp only; omega, hG.stepL hxk (by simp [J6L])⟩ rfl⟩
   ·have : q = M.Final.length := by omega
    subst this
    exact ⟨⟨by omega, by omega⟩, hX (x + 1, _) ⟨by dsimp only; omega, hG.nextL⟩ rfl⟩
  ·rename_i hlt
   have : x = k := by omega
   subst this
   have hu : Uni x [M] G := (hG.congr (cnt' := fun _ => M.Final.length) fun y hy => by simp [cntL, hy]).all
   have hg := hu.GV_ hms (by omega) (by omega) (by simp) (by omega)
   have he := hu.eqv hms hg (by omega) (by omega) (by omega)
   refine ⟨⟨by omega, by omega⟩, by simp, ⟨by omega, by omega⟩, ?_⟩
   refine J3G hg (fun d' hl => ?_) fun r hr h2000 => ?_
   ·rw [if_neg (by decide)]
    have hle := J6H D hk.symm c
    have hl0 := hu.len (by omega)
    refine h3 D (by
     apply Classical.byContradiction
     intro hc
     obtain ⟨r, hr, _⟩ := few4 hg (by omega)
     exact hl.noFin hg r hr) fun s hs => ?_
    obtain ⟨r, hr, _⟩ := (hs.joint hk (by omega)).fin hg hu.gl he
    exact hl.noFin hg r hr
   ·rw [if_pos rfl]
    have hF : Fin G true r := ⟨hr, h2000⟩
    have hel := hF.el
    refine fun _ => ?_
    by_cases h400 : 400 < r.words.length
    ·rw [if_pos (by omega)]
     have hle := J6H D hk.symm c
     have hl0 := hu.len (by omega)
     refine h3 D (by
      apply Classical.byContradiction
      intro hc
      obtain ⟨r', hr', h4⟩ := few4 hg (by omega)
      have := (hF.uniq hg hr').2
      rw [this] at h400
      omega) fun s hs => ?_
     obtain ⟨r', hr', h4⟩ := (hs.joint hk (by omega)).fin hg hu.gl he
     have := (hF.uniq hg hr').2
     rw [this] at h400
     omega
    ·rw [if_neg (by omega)]
     have hz := hF.w0 hg
     have hrt := hF.1.rt.1
     have hr0 := (hF.1.rt.2 0 hz.2).1
     rw [show ((0 : Nat) : Int) = 0 from rfl] at hr0
     refine fun _ => ⟨by omega, by omega, J0t (by omega) ⟨by omega, by omega, by omega, by omega, by omega, by omega, ?_⟩⟩
     have hP : PartsOk [M] (([] : List part) ++ [(⟨(0 : Int) + M.Start, M.Final, (0 : Int)⟩ : part)]) := by
      have := PartsOk.nil.push (M := M) hst
      rw [J6L] at this
      exact this
     refine J5y hg hF (by omega) (J87 hu hms hg (by omega) (by omega) (by omega) hP hF) (by simp) (by simp) fun w T pl L hw hT hpl hL hLs => ?_
     subst hw
     exact h0 D _ ((J7R hu hms hg (by omega) (by omega) (by simp) (by omega) hP hF (by omega) hT hpl hL hLs rfl).one hk (by omega))
end
end Sg
namespace Sg
open Go
set_option linter.unusedVariables false
set_option linter.unusedSimpArgs false
section
variable {α : Type} {k : Nat} {ρ : Str → α} {s : Syntactic}
theorem Mon.sh (h : Mon k ρ s) (hn : s.Words.length ≤ 400) : SH s.Table = true := by
 have hp := h.pos
 have ht := h.tl
 refine J5h.2 ⟨by omega, by omega, fun i hi => J2r.2 ⟨by rw [h.rl i (by omega), ht], fun j hj => ?_⟩⟩
 rw [h.rl i (by omega)] at hj
 obtain ⟨m, e, hm, _⟩ := h.tb i j (by omega) hj
 rw [e, ht]; omega
theorem Mon.as_ (h : Mon k ρ s) (hk : k < 159) (hr : RC k ρ) (hl : LCm k ρ) : AS s.Table := fun x y z hx hy hz => by
 rw [h.tl] at hx hy hz
 exact h.assoc hk hr hl hx hy hz
theorem Mon.vt (h : Mon k ρ s) (hn : s.Words.length ≤ 400) (hk : k < 159) (hr : RC k ρ) (hl : LCm k ρ) : VT s.Table = true := by
 unfold VT
 rw [h.sh hn, decide_eq_true (h.as_ hk hr hl)]; rfl
theorem Mon.imB (h : Mon k ρ s) : inB s.Table.length s.Images = true := J5G.2 fun x hx => by
 rw [h.il] at hx
 obtain ⟨m, e, hm, _⟩ := h.im x hx
 rw [e, h.tl]; omega
theorem Mon.clo (h : Mon k ρ s) (hk : k < 159) (hr : RC k ρ) (hl : LCm k ρ) {x : Int} : Clo s.Table s.Images x ↔ ∃ w, LW k w ∧ w ≠ [] ∧ vlS s w = x := by
  constructor
  · intro hc
    induction hc with
    | @gen x hg =>
      obtain ⟨j, hj, e⟩ := J0j.1 hg
      rw [h.il] at hj
      refine ⟨[lt j], LW.lt hj hk, by simp, ?_⟩
      have := J4d s [] (x := j) (by omega)
      rw [List.nil_append, J6J, e] at this
      rw [this]
      obtain ⟨m, em, hm, _⟩ := h.im j hj
      rw [e] at em
      rw [em]
      exact (h.one_l hk hr hl hm).1
    | mul _ _ ih1 ih2 =>
      obtain ⟨u, u1, u2, u3⟩ := ih1
      obtain ⟨v, v1, v2, v3⟩ := ih2
      exact ⟨u ++ v, LW.app.2 ⟨u1, v1⟩, by simp [u2], by rw [h.J31 hk hr hl u1 v1, u3, v3]; rfl⟩
  · rintro ⟨w, hw, hne, rfl⟩
    revert hw hne
    induction w using snocRec with
    | nil => intro _ hne; exact absurd rfl hne
    | snoc p b ih =>
      intro hw _
      obtain ⟨hp, hb⟩ := LW.app.1 hw
      obtain ⟨x, hx, rfl⟩ := LW.letter hk hb
      have hgen : Clo s.Table s.Images (vlS s [lt x]) := by
        have := J4d s [] (x := x) (by omega)
        rw [List.nil_append, J6J] at this
        obtain ⟨m, em, hm, _⟩ := h.im x hx
        rw [this, em, (h.one_l hk hr hl hm).1, ← em]
        exact .gen (J0J (by omega) (by rw [h.il]; omega))
      by_cases hp0 : p = []
      · subst hp0; exact hgen
      · rw [h.J31 hk hr hl hp hb]
        exact .mul (ih hp hp0) hgen
end
section
variable {k : Nat} {ds Ms : List DFA} {gens : List (List Int)} {r : run} {fin : List Bool}
structure FinU (Ms : List DFA) (fin : List Bool) : Prop where
 len : fin.length = PN Ms
 at_ : ∀ i q : Nat, i < Ms.length → q < (ix Ms (i : Int)).Final.length → ix fin ((PN (Ms.take i) + q : Nat) : Int) = ix (ix Ms (i : Int)).Final (q : Int)
theorem FinU.nil : FinU [] [] := ⟨rfl, fun i q h => by simp at h⟩
theorem FinU.val (h : FinU Ms fin) (hu : Uni k Ms gens) (hm : Mins k ds Ms) (hg : GV gens = true) (h1 : 1 ≤ k) (h6 : k ≤ 6) (h32 : PN Ms ≤ 32) {a : Nat} (ha : a < Ms.length) {w : Str} (hw : LW k w) :
  (PN (Ms.take a) : Int) < (vl gens w).length ∧ 0 ≤ ix (vl gens w) (PN (Ms.take a) : Int) ∧ ix (vl gens w) (PN (Ms.take a) : Int) < fin.length ∧ ix fin (ix (vl gens w) (PN (Ms.take a) : Int)) = acc (ix ds (a : Int)) w := by
 have hgl := hu.gl
 have hle := PN_le ha
 have M := hm.min a (by rw [← hm.len]; exact ha)
 have hpos := M.pos
 have hv := hu.vl_at hm hg h1 h6 h32 ha (q := 0) (by omega) hw
 have hok := vl_ok hg (w := w) (by rw [hgl]; exact hw)
 have hl0 := hu.len h1
 have hfl := h.len
 have Dm := M.da h1 h6 (by omega)
 have hin := rn_lw Dm M.le.symm hw (q := 0) (by omega) (by omega)
 simp only [Nat.add_zero] at hv
 rw [show ((0 : Nat) : Int) = 0 from rfl] at hv
 rw [hv]
 obtain ⟨q, eq⟩ := Int.eq_ofNat_of_zero_le hin.1
 rw [eq] at hin ⊢
 have := h.at_ a q ha (by omega)
 refine ⟨by omega, by omega, by omega, ?_⟩
 rw [show (PN (Ms.take a) : Int) + (q : Int) = ((PN (Ms.take a) + q : Nat) : Int) by omega, this, ← M.acc_ (by omega) hw, acc, M.st, eq]
structure SynF (k : Nat) (ds : List DFA) (s : Syntactic) : Prop where
 mon : Mon k (syJ ds k) s
 acc : Acc (Sg.acc (ix ds 0)) s
 n : s.Words.length ≤ 400
end
section
variable {d : DFA}
end
end Sg
namespace Sg
open Go
set_option linter.unusedVariables false
set_option linter.unusedSimpArgs false
theorem J3K {a b : List Str} {K : Bool → Prop} (h1 : a = b → K true) (h0 : a ≠ b → K false) : J1K a b K := by
 unfold J1K
 intro _ _
 split
 ·rename_i hl
  refine LoopWP.scan a.length (fun j => ix a (j : Int) = ix b (j : Int)) ?_
  intro k X hk hI hX
  show J2v a b K X k
  unfold J2v
  split
  ·refine ⟨by omega, by omega, by omega, by omega, ?_⟩
   split
   ·rename_i he; exact hX (by omega) he
   ·rename_i hne; exact h0 fun e => hne (by rw [e])
  ·exact h1 (J0b (by omega) fun j hj => hI j (by omega))
 ·rename_i hl; exact h0 fun e => hl (by rw [e])
structure ShS (s : Syntactic) : Prop where
 l1 : 1 ≤ s.Letters
 l6 : s.Letters ≤ 6
 sh : SH s.Table = true
 wl : s.Words.length = s.Table.length
 al : s.Accept.length = s.Table.length
 pl : s.Plus.length = s.Table.length
 il : (s.Images.length : Int) = s.Letters
 ib : inB s.Table.length s.Images = true
theorem ShS.im {s : Syntactic} (h : ShS s) {x : Nat} (hx : x < s.Images.length) : 0 ≤ ix s.Images (x : Int) ∧ ix s.Images (x : Int) < s.Table.length := J5G.1 h.ib x hx
def Vs (s : Syntactic) : Prop := ShS s ∧ SynD (autS s) s
theorem SynD.vs {d : DFA} {s : Syntactic} (D : Da d) (h : SynD d s) : Vs s := by
 have l1 := D.l1
 have l6 := D.l6
 have hv := (h.self D).2
 have hn := h.n
 obtain ⟨k, e, hs, _⟩ := h.k
 have m := hs.mon
 have hp := m.pos
 have hle := m.le
 exact ⟨⟨by omega, by omega, m.sh hn, m.tl.symm, hs.acc.al.trans m.tl.symm, m.pl.trans m.tl.symm, by rw [m.il]; exact m.le.symm, m.imB⟩, hv⟩
theorem law21_small_ok {d : DFA} {most : Int} {K : Bool → Prop} (h1 : Da d → d.Final.length ≤ most → d.Letters ≤ 2 → K true) (h0 : K false) : law21_small d most K := by
 unfold law21_small
 intro _
 split
 ·split
  ·refine J3X ?_
   split
   ·rename_i e; exact h1 (J2z.1 (daC0.1 e)) (by assumption) (by assumption)
   ·exact h0
  ·exact h0
 ·exact h0
end Sg
namespace Sg
open Go
set_option linter.unusedVariables false
set_option linter.unusedSimpArgs false
def abD : DFA := ⟨2, 0, [true, false, false], [[1, 2], [2, 0], [2, 2]]⟩
def abW : List Str := [[], [97], [98], [97, 97], [97, 98], [98, 97]]
def abF (w : Str) : Int × Int × Int := (rn abD 0 w, rn abD 1 w, rn abD 2 w)
instance (u v : Str) : Decidable (SL u v) := by unfold SL; infer_instance
theorem J7A : Da abD := J2z.1 (by decide +kernel)
theorem J6U (u v : Str) : abF (u ++ v) = (rn abD (abF u).1 v, rn abD (abF u).2.1 v, rn abD (abF u).2.2 v) := by
 simp only [abF, J0w]
theorem ab_in {w : Str} (hw : LW 2 w) {q : Int} (h0 : 0 ≤ q) (h1 : q < 3) : 0 ≤ rn abD q w ∧ rn abD q w < 3 := rn_lw J7A (k := 2) rfl hw h0 h1
theorem J54 {q : Int} (h0 : 0 ≤ q) (h1 : q < 3) : q = 0 ∨ q = 1 ∨ q = 2 := by omega
theorem J81 : Eqv 2 abF (syn (acc abD) 2) := fun u v hu hv => by
 rw [J10]
 constructor
 ·intro h x y hx hy
  have hx' := ab_in hx (q := 0) (by omega) (by omega)
  have e : rn abD (rn abD 0 x) u = rn abD (rn abD 0 x) v := by
   have h1 : rn abD 0 u = rn abD 0 v := congrArg (·.1) h
   have h2 : rn abD 1 u = rn abD 1 v := congrArg (·.2.1) h
   have h3 : rn abD 2 u = rn abD 2 v := congrArg (·.2.2) h
   rcases J54 hx'.1 hx'.2 with e | e | e <;> rw [e] <;> assumption
  show ix abD.Final (rn abD 0 (x ++ u ++ y)) = ix abD.Final (rn abD 0 (x ++ v ++ y))
  rw [J0w, J0w, J0w, J0w, e]
 ·intro h
  have tell : ∀ p q : Int, 0 ≤ p → p < 3 → 0 ≤ q → q < 3 → ix abD.Final p = ix abD.Final q → ix abD.Final (rn abD p [98]) = ix abD.Final (rn abD q [98]) → p = q := fun p q p0 p1 q0 q1 => by
   rcases J54 p0 p1 with rfl | rfl | rfl <;> rcases J54 q0 q1 with rfl | rfl | rfl <;> decide
  have lb : LW 2 [98] := LW.one.2 (by decide)
  have la : LW 2 [97] := LW.one.2 (by decide)
  have at_ : ∀ x : Str, LW 2 x → rn abD (rn abD 0 x) u = rn abD (rn abD 0 x) v := fun x hx => by
   have hx' := ab_in hx (q := 0) (by omega) (by omega)
   have hu' := ab_in hu hx'.1 hx'.2
   have hv' := ab_in hv hx'.1 hx'.2
   have k1 := h x [] hx (LW.nil _)
   have k2 := h x [98] hx lb
   change ix abD.Final (rn abD 0 (x ++ u ++ [])) = ix abD.Final (rn abD 0 (x ++ v ++ [])) at k1
   change ix abD.Final (rn abD 0 (x ++ u ++ [98])) = ix abD.Final (rn abD 0 (x ++ v ++ [98])) at k2
   rw [List.append_nil, List.append_nil, J0w, J0w] at k1
   rw [J0w, J0w, J0w, J0w] at k2
   exact tell _ _ hu'.1 hu'.2 hv'.1 hv'.2 k1 k2
  have e0 : rn abD 0 u = rn abD 0 v := at_ [] (LW.nil _)
  have e1 : rn abD 1 u = rn abD 1 v := at_ [97] la
  have e2 : rn abD 2 u = rn abD 2 v := at_ [98] lb
  show (rn abD 0 u, rn abD 1 u, rn abD 2 u) = (rn abD 0 v, rn abD 1 v, rn abD 2 v)
  rw [e0, e1, e2]
theorem J7h {v : Str} (h : LW 2 v) (hl : v.length ≤ 2) : v ∈ ([[], [97], [98], [97, 97], [97, 98], [98, 97], [98, 98]] : List Str) := by
  have let_ : ∀ b : UInt8, LW 2 [b] → b = 97 ∨ b = 98 := fun b hb => by
    obtain ⟨x, hx, rfl⟩ := LW.letter (by omega) hb
    rcases (by omega : x = 0 ∨ x = 1) with rfl | rfl
    · exact .inl rfl
    · exact .inr rfl
  match v, h, hl with
  | [], _, _ => simp
  | [a], h, _ => rcases let_ a h with rfl | rfl <;> decide
  | [a, b], h, _ =>
    obtain ⟨h1, h2⟩ := LW.app.1 (show LW 2 ([a] ++ [b]) from h)
    rcases let_ a h1 with rfl | rfl <;> rcases let_ b h2 with rfl | rfl <;> decide
  | a :: b :: c :: v, _, hl => simp at hl
theorem J7J {w : Str} (hw : w ∈ abW) : Lst 2 abF w := by
 have hlw : ∀ w ∈ abW, w.length ≤ 2 ∧ ∀ b ∈ w, 97 ≤ b.toNat ∧ b.toNat < 97 + 2 := by decide +kernel
 have key : ∀ w ∈ abW, ∀ v ∈ ([[], [97], [98], [97, 97], [97, 98], [98, 97], [98, 98]] : List Str), abF v = abF w → ¬ SL v w := by decide +kernel
 refine ⟨(hlw w hw).2, fun v hv he hs => ?_⟩
 refine key w hw v (J7h hv ?_) he hs
 have := (hlw w hw).1
 rcases hs with h | ⟨h, _⟩ <;> omega
theorem J8f {w : Str} : LW 2 w → ∃ u ∈ abW, abF u = abF w := by
  induction w using snocRec with
  | nil => exact fun _ => ⟨[], by decide, rfl⟩
  | snoc w b ih =>
    intro h
    obtain ⟨h1, h2⟩ := LW.app.1 h
    obtain ⟨u, hu, e⟩ := ih h1
    obtain ⟨x, hx, rfl⟩ := LW.letter (by omega) h2
    have key : ∀ u ∈ abW, ∀ x < 2, ∃ r ∈ abW, abF r = abF (u ++ [lt x]) := by decide +kernel
    obtain ⟨r, hr, er⟩ := key u hu x hx
    exact ⟨r, hr, by rw [er, J6U, J6U, e]⟩
theorem ab_CL : CL 2 (syn (acc abD) 2) abW (fun _ => True) := by
 refine CL.congrR J81 ⟨by decide +kernel, fun w => ⟨fun hw => ⟨J7J hw, trivial⟩, fun ⟨hw, _⟩ => ?_⟩⟩
 obtain ⟨u, hu, e⟩ := J8f hw.1
 have := (J7J hu).uniq hw e
 rw [← this]; exact hu
theorem law21_awake_ok {K : Bool → Prop} (h : K true) : law21_awake K := by
 unfold law21_awake law21_ab
 refine J2G (d := abD) (fun n => absurd J7A n) (fun _ h4 _ => absurd h4 (by decide)) fun D s hs => ?_
 obtain ⟨k, ek, o, _⟩ := hs.k
 obtain rfl : k = 2 := by
  have : (2 : Int) = k := ek
  omega
 have ew : s.Words = abW := o.mon.cl.uniq ab_CL
 have hl : s.Accept.length = 6 := by rw [o.acc.al, ew]; rfl
 have a4 : ix s.Accept (4 : Int) = true := by
  have := o.acc.ac 4 (by rw [ew]; decide)
  rw [ew] at this
  exact this.trans (by decide +kernel)
 have a1 : ix s.Accept (1 : Int) = false := by
  have := o.acc.ac 1 (by rw [ew]; decide)
  rw [ew] at this
  exact this.trans (by decide +kernel)
 rw [if_pos rfl]
 refine J3K (fun _ => ?_) fun n => absurd ew n
 rw [if_pos rfl]
 refine fun _ => ?_
 rw [if_pos (by omega)]
 refine ⟨by omega, by omega, ?_⟩
 rw [if_pos a4]
 refine ⟨by omega, by omega, ?_⟩
 rw [if_neg (by rw [a1]; decide)]
 exact h
end Sg
namespace Sg
open Go
set_option linter.unusedVariables false
set_option linter.unusedSimpArgs false
theorem SynD.le {d : DFA} {s : Syntactic} (h : SynD d s) : s.Letters = d.Letters := by
 obtain ⟨k, e, hs, _⟩ := h.k
 have e2 : s.Letters = k := hs.mon.le
 omega
theorem J2B {d : DFA} (D : Da d) (hf : d.Final.length ≤ 4) {K : Syntactic → Int → Prop} (h0 : ∀ s, SynD d s → K s 0) : J0u d K :=
 J2G (fun nD => absurd D nD) (fun _ h4 _ => by omega) fun _ s hs => h0 s hs
theorem CL.len {α : Type} {k : Nat} {ρ : Str → α} {W : List Str} (h : CL k ρ W (fun _ => True)) (hr : RC k ρ) : ∀ n i : Nat, i < n → i < W.length → (ix W (i : Int)).length ≤ i
  | 0, i, hn, _ => absurd hn (Nat.not_lt_zero _)
  | n + 1, i, hn, hi => by
    have hw := ((h.mem _).1 (J0j.2 ⟨i, hi, rfl⟩)).1
    by_cases h0 : ix W (i : Int) = []
    · rw [h0]; simp
    · obtain ⟨p, b, e⟩ := snocEx h0
      rw [e] at hw
      obtain ⟨j, hj, ej⟩ := J0j.1 ((h.mem p).2 ⟨hw.pre hr, trivial⟩)
      have hs : SL (ix W (j : Int)) (ix W (i : Int)) := by rw [ej, e]; exact .inl (by simp)
      have hji := J2A h.asc hj hi hs
      have ih := CL.len h hr n j (by omega) hj
      rw [e, List.length_append]
      rw [ej] at ih
      simp; omega
theorem SynD.len {d : DFA} {s : Syntactic} (h : SynD d s) {i : Int} (h0 : 0 ≤ i) (h1 : i < s.Words.length) : (ix s.Words i).length ≤ 400 := by
 obtain ⟨k, _, o, _⟩ := h.k
 obtain ⟨j, rfl⟩ := Int.eq_ofNat_of_zero_le h0
 have := o.mon.cl.len (J5f _ _) (j + 1) j (by omega) (by omega)
 have := h.n
 omega
end Sg
namespace Sg
open Go
set_option linter.unusedVariables false
set_option linter.unusedSimpArgs false
end Sg
namespace Sg
open Go
set_option linter.unusedVariables false
set_option linter.unusedSimpArgs false
def leqS (s : Syntactic) (x y : Int) : Prop := ∀ u w : Nat, u < s.Table.length → w < s.Table.length → ix s.Accept (ix (ix s.Table (ix (ix s.Table (u : Int)) x)) (w : Int)) = true → ix s.Accept (ix (ix s.Table (ix (ix s.Table (u : Int)) y)) (w : Int)) = true
theorem SynD.vt {d : DFA} {s : Syntactic} (D : Da d) (h : SynD d s) : VT s.Table = true := by
 have l6 := D.l6
 obtain ⟨k, e, o, _⟩ := h.k
 exact o.mon.vt h.n (by omega) (J5f _ _) (J67 _ _)
end Sg
namespace Sg
open Go
set_option linter.unusedVariables false
set_option linter.unusedSimpArgs false
section
variable {d : DFA} {s : Syntactic}
theorem J4M {k : Nat} {φ : Str → Bool} (o : SynOf k φ s) (hk : k < 159) {x y : Nat} (hx : x < s.Words.length) (hy : y < s.Words.length) : leqS s x y ↔ ∀ u w, LW k u → LW k w → φ (u ++ ix s.Words (x : Int) ++ w) = true → φ (u ++ ix s.Words (y : Int) ++ w) = true := by
 have m := o.mon
 have R := J5f φ k
 have L := J67 φ k
 have lx := m.cl.lw hx
 have ly := m.cl.lw hy
 have key : ∀ {z : Nat}, z < s.Words.length → ∀ {u w : Str}, LW k u → LW k w → ix s.Accept (ix (ix s.Table (ix (ix s.Table (vlS s u)) (z : Int))) (vlS s w)) = φ (u ++ ix s.Words (z : Int) ++ w) := fun {z} hz {u w} hu hw => by
  have lz := m.cl.lw hz
  have e1 := m.J31 hk R L hu lz
  rw [m.J0N hk R L hz] at e1
  rw [← e1, ← m.J31 hk R L (LW.app.2 ⟨hu, lz⟩) hw]
  exact o.J50 hk (LW.app.2 ⟨LW.app.2 ⟨hu, lz⟩, hw⟩)
 constructor
 ·intro h u w hu hw
  obtain ⟨a, ea, ha, _⟩ := m.val hk R L hu
  obtain ⟨b, eb, hb, _⟩ := m.val hk R L hw
  rw [← key hx hu hw, ← key hy hu hw, ea, eb]
  exact h a b (by rw [m.tl]; exact ha) (by rw [m.tl]; exact hb)
 ·intro h a b ha hb
  rw [m.tl] at ha hb
  have e1 := key hx (m.cl.lw ha) (m.cl.lw hb)
  have e2 := key hy (m.cl.lw ha) (m.cl.lw hb)
  rw [m.J0N hk R L ha, m.J0N hk R L hb] at e1 e2
  rw [e1, e2]
  exact h _ _ (m.cl.lw ha) (m.cl.lw hb)
theorem J70 {k : Nat} {φ : Str → Bool} (o : SynOf k φ s) (hk : k < 159) {x y : Nat} (hx : x < s.Words.length) (hy : y < s.Words.length) (h : leqS s x y) (h' : leqS s y x) : x = y := by
 have a := (J4M o hk hx hy).1 h
 have b := (J4M o hk hy hx).1 h'
 refine o.mon.cl.inj hx hy (J10.2 fun u w hu hw => ?_)
 rw [Bool.eq_iff_iff]
 exact ⟨a u w hu hw, b u w hu hw⟩
end
end Sg
namespace Sg
open Go
set_option linter.unusedVariables false
set_option linter.unusedSimpArgs false
end Sg
namespace Sg
open Go
set_option linter.unusedVariables false
set_option linter.unusedSimpArgs false
def comD (d : DFA) : DFA := ⟨d.Letters, d.Start, d.Final.map (!·), d.Next⟩
theorem J6K {l : List Bool} {i : Int} (h0 : 0 ≤ i) (h1 : i < l.length) : ix (l.map (!·)) i = !(ix l i) := J43 _ h0 h1
theorem J84 {d : DFA} (D : Da d) : Da (comD d) := by
 have e : (comD d).Final.length = d.Final.length := by simp [comD]
 exact ⟨D.l1, D.l6, by rw [e]; exact D.f1, by rw [e]; exact D.f2, by rw [e]; exact D.nx, D.s0, by rw [e]; exact D.s1, D.row, by rw [e]; exact D.el⟩
theorem J77 {d : DFA} (D : Da d) {k : Nat} (hk : (k : Int) = d.Letters) {w : Str} (hw : LW k w) : acc (comD d) w = !(acc d w) := by
 have h := rn_lw D hk hw (q := d.Start) D.s0 D.s1
 exact J6K h.1 h.2
theorem J3W {d : DFA} (D : Da d) {K : DFA → Prop} (h : K (comD d)) : J0R d K := by
 unfold J0R
 refine J0H ?_
 rw [if_pos (daC0.2 (J2z.2 D))]
 have f2 := D.f2
 have nx := D.nx
 have l6 := D.l6
 refine fun _ => LoopWP.to d.Final.length (fun s : Nat × List (List Int) × List Bool => s.1) (fun s => s.1 ≤ d.Final.length ∧ s.2.1 = d.Next.take s.1 ∧ s.2.2 = (d.Final.take s.1).map (!·)) ⟨Nat.zero_le _, by simp, by simp⟩ (fun s h => h.1) ?_
 rintro ⟨k, N, F⟩ X ⟨hk, hN, hF⟩ hX
 try dsimp only at hk hN hF ⊢
 subst hN hF
 unfold J2p
 have cl : ∀ {Y : List (List Int) → Prop}, k < d.Final.length → (Y (d.Next.take (k + 1))) → 0 ≤ (k : Int) ∧ (k : Int) < (d.Next.length : Int) ∧ (J04 (ix d.Next (k : Int)) fun r => (d.Next.take k).length + ([r]).length ≤ 1099511627776 ∧ Y (d.Next.take k ++ [r])) := fun hk hY => by
  have := D.row k (by omega)
  refine ⟨by omega, by omega, J0t (by omega) ⟨by simp; omega, ?_⟩⟩
  rw [← J3l (by omega)]; exact hY
 split
 ·rename_i hlt
  have hk' : k < d.Final.length := by omega
  refine ⟨by omega, hlt, ?_⟩
  by_cases hf : ix d.Final (k : Int) = true
  ·rw [if_pos hf]
   refine ⟨by simp; omega, cl (Y := fun N => X (k + 1, N, (d.Final.take k).map (!·) ++ [false])) hk' (hX (k + 1, _, _) ⟨by dsimp only; omega, rfl, ?_⟩ rfl)⟩
   dsimp only
   rw [J3l hk', List.map_append, List.map_singleton, hf]; rfl
  ·rw [if_neg hf]
   rw [Bool.not_eq_true] at hf
   refine ⟨by simp; omega, cl (Y := fun N => X (k + 1, N, (d.Final.take k).map (!·) ++ [true])) hk' (hX (k + 1, _, _) ⟨by dsimp only; omega, rfl, ?_⟩ rfl)⟩
   dsimp only
   rw [J3l hk', List.map_append, List.map_singleton, hf]; rfl
 ·have : k = d.Final.length := by omega
  subst this
  rw [List.take_length, ← nx, List.take_length]
  exact h
theorem SynD.com {d : DFA} (D : Da d) {s s' : Syntactic} (h : SynD d s) (h' : SynD (comD d) s') : s' = ⟨s.Letters, s.Table, s.Words, s.Images, s.Accept.map (!·), s.Plus⟩ := by
 obtain ⟨k, e, o, _⟩ := h.k
 obtain ⟨k', e', o', _⟩ := h'.k
 have l1 := D.l1
 have l6 := D.l6
 have : k' = k := by
  have : (comD d).Letters = d.Letters := rfl
  omega
 subst this
 have ac : ∀ w, LW k' w → acc (comD d) w = !(acc d w) := fun w hw => J77 D e.symm hw
 have eq : Eqv k' (syn (acc d) k') (syn (acc (comD d)) k') := fun u v hu hv => by
  rw [J10, J10]
  refine forall_congr' fun x => forall_congr' fun y => forall_congr' fun hx => forall_congr' fun hy => ?_
  rw [ac _ (LW.app.2 ⟨LW.app.2 ⟨hx, hu⟩, hy⟩), ac _ (LW.app.2 ⟨LW.app.2 ⟨hx, hv⟩, hy⟩)]
  cases acc d (x ++ u ++ y) <;> cases acc d (x ++ v ++ y) <;> simp
 have m := o.mon.congr (by omega) eq
 refine o'.uniq ⟨?_, ?_⟩
 ·exact ⟨m.cl, m.le, m.tl, m.rl, m.tb, m.il, m.im, m.pl, m.ps⟩
 ·refine ⟨by simp [o.acc.al], fun i hi => ?_⟩
  have hal := o.acc.al
  have hi : i < s.Words.length := hi
  show ix (s.Accept.map (!·)) (i : Int) = acc (comD d) (ix s.Words (i : Int))
  rw [J6K (by omega) (by omega), o.acc.ac i hi, ac _ (m.cl.lw hi)]
end Sg
namespace Sg
open Go
set_option linter.unusedVariables false
set_option linter.unusedSimpArgs false
theorem J4n {t : List (List Int)} (h : SH t = true) {K : Bool → Prop} (hK : K true) : J1s t K := by
 have T := SH.tb h
 have n1 := T.n1
 have n4 := T.n4
 unfold J1s
 refine fun _ => ?_
 rw [if_neg (by omega), if_neg (by omega)]
 refine LoopWP.scan t.length (fun _ => True) ?_
 intro k X hk _ hX
 show J1P t K X k
 unfold J1P
 split
 ·have hk : (k : Int) < t.length := by assumption
  have r := T.row k (by omega) hk
  refine ⟨by omega, by omega, fun _ => ?_⟩
  rw [if_pos (by omega)]
  refine LoopWP.scan (ix t (k : Int)).length (fun _ => True) ?_
  intro i Y hi _ hY
  show J1R t k X K Y i
  unfold J1R
  split
  ·have e := T.mu (x := (k : Int)) (y := (i : Int)) (by omega) hk (by omega) (by omega)
   unfold mu at e
   refine ⟨by omega, by omega, ?_⟩
   rw [if_neg (by omega), if_neg (by omega)]
   exact hY (by omega) trivial
  ·exact hX (by omega) trivial
 ·exact hK
theorem J6R {l : List Int} {n : Nat} (hd : l.Nodup) (h : ∀ x ∈ l, 0 ≤ x ∧ x < n) : l.length ≤ n := by
 apply Classical.byContradiction
 intro hc
 obtain ⟨a, b, hab, hb, e⟩ := pigeon n (fun m => ix l (m : Int)) fun m hm => h _ (J0j.2 ⟨m, by omega, rfl⟩)
 rw [ix_lt (by omega), ix_lt (by omega)] at e
 have := (List.getElem_inj hd).1 e
 omega
structure GN (t : List (List Int)) (els gens nx : List Int) (inn : List Bool) : Prop where
 il : inn.length = t.length
 nl : nx.length = t.length
 el : ∀ x ∈ els, 0 ≤ x ∧ x < t.length
 me : ∀ x : Nat, x < t.length → (ix inn (x : Int) = true ↔ (x : Int) ∈ els)
 nd : els.Nodup
 cl : ∀ x ∈ els, Clo t gens x
 gl : ∀ g ∈ gens, 0 ≤ g ∧ g < t.length
 nx : ∀ x : Nat, x < t.length → 0 ≤ ix nx (x : Int) ∧ ix nx (x : Int) ≤ gens.length
theorem GN.fit {t : List (List Int)} {els gens nx : List Int} {inn : List Bool} (h : GN t els gens nx inn) : els.length ≤ t.length := J6R h.nd h.el
theorem GN.add {t : List (List Int)} {els gens nx : List Int} {inn : List Bool} (h : GN t els gens nx inn) {y : Int} (h0 : 0 ≤ y) (h1 : y < t.length) (hn : ¬ ix inn y = true) (hc : Clo t gens y) : GN t (els ++ [y]) gens nx (st inn y true) := by
 have il := h.il
 obtain ⟨m, rfl⟩ := Int.eq_ofNat_of_zero_le h0
 refine ⟨by simp [il], h.nl, fun x hx => ?_, fun x hx => ?_, ?_, fun x hx => ?_, h.gl, h.nx⟩
 ·rcases List.mem_append.1 hx with hx | hx
  ·exact h.el x hx
  ·rw [List.mem_singleton.1 hx]; exact ⟨h0, h1⟩
 ·rw [ix_st _ (by omega) (by omega) (by omega), List.mem_append, List.mem_singleton]
  by_cases e : (x : Int) = m
  ·rw [if_pos e]; exact ⟨fun _ => .inr e, fun _ => rfl⟩
  ·rw [if_neg e, h.me x hx]; exact ⟨.inl, fun k => k.resolve_right e⟩
 ·rw [List.nodup_append]
  refine ⟨h.nd, by simp, fun a ha b hb => ?_⟩
  rw [List.mem_singleton.1 hb]
  rintro rfl
  exact hn ((h.me m (by omega)).2 ha)
 ·rcases List.mem_append.1 hx with hx | hx
  ·exact h.cl x hx
  ·rw [List.mem_singleton.1 hx]; exact hc
theorem GN.turn {t : List (List Int)} {els gens nx : List Int} {inn : List Bool} (h : GN t els gens nx inn) {y : Int} (h0 : 0 ≤ y) (h1 : y < t.length) (hl : ix nx y < gens.length) : GN t els gens (st nx y (ix nx y + 1)) inn := by
 have nl := h.nl
 obtain ⟨m, rfl⟩ := Int.eq_ofNat_of_zero_le h0
 refine ⟨h.il, by simp [nl], h.el, h.me, h.nd, h.cl, h.gl, fun x hx => ?_⟩
 rw [ix_st _ (by omega) (by omega) (by omega)]
 have a := h.nx x hx
 split
 ·have b := h.nx m (by omega); omega
 ·exact a
theorem GN.gen {t : List (List Int)} {els gens nx : List Int} {inn : List Bool} (h : GN t els gens nx inn) {g : Int} (g0 : 0 ≤ g) (g1 : g < t.length) : GN t els (gens ++ [g]) nx inn :=
 ⟨h.il, h.nl, h.el, h.me, h.nd, fun x hx => (h.cl x hx).mono fun y hy => List.mem_append.2 (.inl hy), fun x hx => by
  rcases List.mem_append.1 hx with hx | hx
  ·exact h.gl x hx
  ·rw [List.mem_singleton.1 hx]; exact ⟨g0, g1⟩, fun x hx => by have := h.nx x hx; simp; omega⟩
theorem J2C {t : List (List Int)} (ht : SH t = true) {k : Nat} {gens : List Int} (hgl : gens.length ≤ k) (hk : k < t.length) {K : List Int → Prop} {X1 : Nat → List Int → List Int → List Int → List Bool → Prop}
  {els nx : List Int} {inn : List Bool} (h : GN t els (gens ++ [(k : Int)]) nx inn) (hin : ∀ j, j ≤ k → ix inn (j : Int) = true)
  (hX : ∀ els' nx' inn', GN t els' (gens ++ [(k : Int)]) nx' inn' → (∀ j, j ≤ k → ix inn' (j : Int) = true) → X1 (k + 1) els' (gens ++ [(k : Int)]) nx' inn') :
  LoopWP (S := Nat × List Int × List Int × List Bool) (fun s X => J0Y t k gens X1 K (fun a b c d => X (a, b, c, d)) s.1 s.2.1 s.2.2.1 s.2.2.2) (0, els, nx, inn) := by
 have T := SH.tb ht
 have n4 := T.n4
 have hgll : (gens ++ [(k : Int)]).length = gens.length + 1 := by simp
 refine LoopWP.to t.length (fun s => s.1) (fun s => s.1 ≤ s.2.1.length ∧ s.1 ≤ t.length ∧ GN t s.2.1 (gens ++ [(k : Int)]) s.2.2.1 s.2.2.2 ∧ ∀ j, j ≤ k → ix s.2.2.2 (j : Int) = true) ⟨Nat.zero_le _, Nat.zero_le _, h, hin⟩ (fun s h => h.2.1) ?_
 rintro ⟨q, els, nx, inn⟩ X ⟨hq, hqn, hG, hI⟩ hXX
 try dsimp only at hq hqn hG hI ⊢
 unfold J0Y
 split
 ·rename_i hlt
  have hfit := hG.fit
  refine ⟨by omega, hlt, ?_⟩
  have he0 : ix els (q : Int) ∈ els := J0j.2 ⟨q, by omega, rfl⟩
  obtain ⟨e, he⟩ : ∃ e, ix els (q : Int) = e := ⟨_, rfl⟩
  rw [he] at he0
  have hee := hG.el e he0
  refine LoopWP.intro (fun s => els.length ≤ s.1.length ∧ e ∈ s.1 ∧ GN t s.1 (gens ++ [(k : Int)]) s.2.1 s.2.2 ∧ ∀ j, j ≤ k → ix s.2.2 (j : Int) = true) (fun s => (gens.length + 1) - (ix s.2.1 e).toNat) ⟨Nat.le_refl _, he0, hG, hI⟩ ?_
  rintro ⟨els2, nx, inn⟩ Y ⟨hq2, he0, hG, hI⟩ hY
  try dsimp only at hq2 he0 hG hI ⊢
  unfold J1V
  rw [he]
  obtain ⟨m, hm⟩ := Int.eq_ofNat_of_zero_le hee.1
  have hnx := hG.nx m (by omega)
  rw [← hm] at hnx
  have hnl := hG.nl
  have hil := hG.il
  have hfit := hG.fit
  have hrow := T.row e hee.1 hee.2
  refine ⟨hee.1, by omega, ?_⟩
  split
  ·rename_i hlt2
   have hgm : ix (gens ++ [(k : Int)]) (ix nx e) ∈ gens ++ [(k : Int)] := J0J hnx.1 hlt2
   have hgg := hG.gl _ hgm
   have hp := T.mu hee.1 hee.2 hgg.1 hgg.2
   have hclo : Clo t (gens ++ [(k : Int)]) (mu t e (ix (gens ++ [(k : Int)]) (ix nx e))) := (hG.cl e he0).mul (.gen hgm)
   unfold mu at hp hclo
   have hmeas : ix (st nx e (ix nx e + 1)) e = ix nx e + 1 := by rw [ix_st _ hee.1 (by omega) hee.1, if_pos rfl]
   refine ⟨hee.1, hee.2, hee.1, by omega, hnx.1, hlt2, by omega, by omega, by omega, by omega, ?_⟩
   split
   ·refine ⟨hee.1, by omega, ⟨by omega, by omega⟩, hee.1, by omega, hY (_, _, _) ⟨hq2, he0, hG.turn hee.1 hee.2 hlt2, hI⟩ ?_⟩
    dsimp only
    rw [hmeas]; omega
   ·rename_i hno
    have hG2 := hG.add hp.1 hp.2 hno hclo
    have hfit2 := hG2.fit
    refine ⟨by omega, by omega, by rw [List.length_append] at hfit2; simp at hfit2 ⊢; omega, hee.1, by omega, ⟨by omega, by omega⟩, hee.1, by omega, hY (_, _, _) ⟨by simp; omega, List.mem_append.2 (.inl he0), hG2.turn hee.1 hee.2 hlt2, fun j hj => ?_⟩ ?_⟩
    ·dsimp only
     rw [ix_st _ hp.1 (by omega) (by omega)]
     split
     ·rfl
     ·exact hI j hj
    ·dsimp only
     rw [hmeas]; omega
  ·refine ⟨⟨by omega, by omega⟩, hXX (q + 1, _, _, _) ⟨by dsimp only; omega, by dsimp only; omega, hG, hI⟩ rfl⟩
 ·exact hX _ _ _ hG hI
theorem J3h {t : List (List Int)} (ht : SH t = true) {K : List Int → Prop} (h : ∀ gens, gens.length ≤ t.length → (∀ g ∈ gens, 0 ≤ g ∧ g < (t.length : Int)) → (∀ x : Nat, x < t.length → Clo t gens x) → K gens) : J0v t K := by
 have T := SH.tb ht
 have n4 := T.n4
 unfold J0v
 refine fun _ => ⟨by omega, by omega, by omega, by omega, ?_⟩
 refine LoopWP.to t.length (fun s => s.1) (fun s => s.1 ≤ t.length ∧ s.2.2.1.length ≤ s.1 ∧ GN t s.2.1 s.2.2.1 s.2.2.2.1 s.2.2.2.2 ∧ ∀ j, j < s.1 → ix s.2.2.2.2 (j : Int) = true) ⟨Nat.zero_le _, Nat.zero_le _, ?_, fun j hj => absurd hj (Nat.not_lt_zero _)⟩ (fun s h => h.1) ?_
 ·refine ⟨by simp, by simp, by simp, fun x hx => ?_, by simp, by simp, by simp, fun x hx => ?_⟩
  ·dsimp only; rw [J0a _ _ hx]; simp
  ·dsimp only; rw [J0a _ _ hx]; simp
 rintro ⟨k, els, gens, nx, inn⟩ X ⟨hk, hgl, hG, hI⟩ hX
 try dsimp only at hk hgl hG hI ⊢
 unfold J1O
 have hil := hG.il
 split
 ·rename_i hlt
  have hk' : k < t.length := by omega
  refine ⟨by omega, by omega, ?_⟩
  split
  ·rename_i hi
   exact hX (k + 1, _, _, _, _) ⟨by dsimp only; omega, by dsimp only; omega, hG, upS hI hi⟩ rfl
  ·rename_i hno
   have hG2 := hG.gen (g := (k : Int)) (by omega) hlt
   have hG3 := hG2.add (y := (k : Int)) (by omega) hlt hno (.gen (by simp))
   have hfit := hG3.fit
   rw [List.length_append] at hfit
   refine ⟨by omega, by omega, by simp; omega, by simp at hfit ⊢; omega, ?_⟩
   refine J2C ht hgl hk' hG3 (fun j hj => ?_) fun els' nx' inn' h1 h2 => hX (k + 1, _, _, _, _) ⟨by dsimp only; omega, by simp; omega, h1, fun j hj => h2 j (by omega)⟩ rfl
   rw [ix_st _ (by omega) (by omega) (by omega)]
   by_cases e : j = k
   ·subst e; rw [if_pos rfl]
   ·rw [if_neg (by omega)]; exact hI j (by omega)
 ·refine h gens (by omega) hG.gl fun x hx => hG.cl _ ((hG.me x hx).1 (hI x (by omega)))
end Sg
namespace Sg
open Go
set_option linter.unusedVariables false
set_option linter.unusedSimpArgs false
def cod (im c : List Int) (x : Nat) : Int := (ix c (x : Int)) * (c.length : Int) + (ix c (ix im (x : Int)))
structure SPI (n : Nat) (im c : List Int) (R : Int) (x : Nat) (cnt : Int) (label mark nx : List Int) : Prop where
 ll : label.length = n * n
 ml : mark.length = n * n
 nl : nx.length = n
 le : ∀ v : Nat, v < n * n → ix mark (v : Int) ≤ R
 ex : ∃ m : List (Int × Int), NumI (cod im c) x (nx.take x) m ∧ cnt = m.length ∧ ∀ v : Nat, v < n * n → (ix mark (v : Int) = R ↔ mhas m (v : Int) = true) ∧ (mhas m (v : Int) = true → ix label (v : Int) = mgt m (v : Int))
theorem J8u {n : Nat} {im c : List Int} (cl : c.length = n) (cr : ∀ j : Nat, j < n → 0 ≤ ix c (j : Int) ∧ ix c (j : Int) < n) (ir : ∀ j : Nat, j < n → 0 ≤ ix im (j : Int) ∧ ix im (j : Int) < n) {x : Nat} (hx : x < n) :
  (0 ≤ ix c (x : Int) * (c.length : Int) ∧ ix c (x : Int) * (c.length : Int) ≤ (n : Int) * n) ∧ 0 ≤ cod im c x ∧ cod im c x < ((n * n : Nat) : Int) := by
 have a := cr x hx
 have i := ir x hx
 obtain ⟨y, ey⟩ := Int.eq_ofNat_of_zero_le i.1
 have b := cr y (by omega)
 rw [← ey] at b
 obtain ⟨u, eu⟩ := Int.eq_ofNat_of_zero_le a.1
 obtain ⟨v, ev⟩ := Int.eq_ofNat_of_zero_le b.1
 unfold cod
 rw [eu, ev, cl]
 have h1 : u * n + v < n * n := by
  have : (u + 1) * n ≤ n * n := Nat.mul_le_mul_right n (by omega)
  rw [Nat.add_mul] at this
  omega
 have h2 : ((u * n : Nat) : Int) = (u : Int) * (n : Int) := by simp
 have h3 : ((n * n : Nat) : Int) = (n : Int) * (n : Int) := by simp
 rw [← h2, ← h3]
 omega
theorem J6S {n x : Nat} {im c label mark nx : List Int} {cnt R : Int} (n4 : n ≤ 400) (cl : c.length = n) (il : im.length = n) (cr : ∀ j : Nat, j < n → 0 ≤ ix c (j : Int) ∧ ix c (j : Int) < n) (ir : ∀ j : Nat, j < n → 0 ≤ ix im (j : Int) ∧ ix im (j : Int) < n)
  (h : SPI n im c R x cnt label mark nx) (hx : x < n) {Y : Nat → Int → List Int → List Int → List Int → List Int → Prop} (hY : ∀ cnt' label' mark' nx', SPI n im c R (x + 1) cnt' label' mark' nx' → Y (x + 1) cnt' label' mark' c nx') :
  (0 ≤ (x : Int) ∧ (x : Int) < (c.length : Int) ∧ (I64 ((ix c (x : Int)) * (c.length : Int)) ∧ (0 ≤ (x : Int) ∧ (x : Int) < (im.length : Int) ∧ (0 ≤ (ix im (x : Int)) ∧ (ix im (x : Int)) < (c.length : Int) ∧ (I64 (cod im c x) ∧ (0 ≤ (cod im c x) ∧ (cod im c x) < (mark.length : Int) ∧ (if (ix mark (cod im c x)) = R then (0 ≤ (cod im c x) ∧ (cod im c x) < (label.length : Int) ∧ (0 ≤ (x : Int) ∧ (x : Int) < (nx.length : Int) ∧ (I64 ((x : Int) + (1 : Int)) ∧ (Y (x + 1) cnt label mark c (st nx (x : Int) (ix label (cod im c x))))))) else (0 ≤ (cod im c x) ∧ (cod im c x) < (mark.length : Int) ∧ (0 ≤ (cod im c x) ∧ (cod im c x) < (label.length : Int) ∧ (I64 (cnt + (1 : Int)) ∧ (0 ≤ (cod im c x) ∧ (cod im c x) < ((st label (cod im c x) cnt).length : Int) ∧ (0 ≤ (x : Int) ∧ (x : Int) < (nx.length : Int) ∧ (I64 ((x : Int) + (1 : Int)) ∧ (Y (x + 1) ((cnt + (1 : Int))) (st label (cod im c x) cnt) (st mark (cod im c x) R) c (st nx (x : Int) (ix (st label (cod im c x) cnt) (cod im c x))))))))))))))))) := by
 have hc := J8u cl cr ir hx
 have hi := ir x hx
 have ll := h.ll
 have ml := h.ml
 have nl := h.nl
 have hnn : (n : Int) * n ≤ 160000 := by
  have : n * n ≤ 400 * 400 := Nat.mul_le_mul n4 n4
  have h3 : ((n * n : Nat) : Int) = (n : Int) * (n : Int) := by simp
  omega
 have hnn2 : ((n * n : Nat) : Int) = (n : Int) * (n : Int) := by simp
 obtain ⟨m, hm, hcnt, hv⟩ := h.ex
 obtain ⟨v, ev⟩ := Int.eq_ofNat_of_zero_le hc.2.1
 have hvn : v < n * n := by omega
 have hvv := hv v hvn
 have tk : ∀ z : Int, (st nx (x : Int) z).take (x + 1) = nx.take x ++ [z] := fun z => by
  refine J0b (by simp; omega) fun j hj => ?_
  simp only [List.length_take, J05] at hj
  have e1 : ∀ (l : List Int) (k : Nat), j < k → ix (l.take k) (j : Int) = ix l (j : Int) := fun l k hk => by
   simp [J4k, List.getD_eq_getElem?_getD, List.getElem?_take, hk]
  rw [e1 _ _ (by omega), ix_st _ (by omega) (by omega) (by omega)]
  by_cases e : j = x
  ·subst e
   rw [if_pos rfl]
   have : (nx.take j).length = j := by simp; omega
   have e2 := @ixE (nx.take j) z
   rw [this] at e2
   exact e2.symm
  ·rw [if_neg (by omega), ixS (by simp; omega), e1 _ _ (by omega)]
 have hfit : m.length ≤ x := by
  have := hm.nmb
  apply Classical.byContradiction
  intro hc
  have hl : (nx.take x).length = x := by simp; omega
  obtain ⟨g, hg⟩ : ∃ g : Nat → Nat, ∀ a, a < m.length → g a < x ∧ ix (nx.take x) (g a : Int) = a := by
   have : ∀ a : Nat, ∃ q : Nat, a < m.length → q < x ∧ ix (nx.take x) (q : Int) = a := fun a => by
    by_cases ha : a < m.length
    ·obtain ⟨q, h1, h2⟩ := hm.nmb.on a ha
     exact ⟨q, fun _ => ⟨by omega, h2⟩⟩
    ·exact ⟨0, fun h => absurd h ha⟩
   exact Classical.axiomOfChoice this
  obtain ⟨a, b, hab, hb, e⟩ := pigeon x (fun a => (g a : Int)) fun a ha => ⟨by omega, by have := (hg a (by omega)).1; omega⟩
  have h1 := (hg a (by omega)).2
  have h2 := (hg b (by omega)).2
  rw [e] at h1
  omega
 refine ⟨by omega, by omega, ⟨by omega, by omega⟩, by omega, by omega, hi.1, by omega, ⟨by omega, by omega⟩, by omega, by omega, ?_⟩
 by_cases hR : ix mark (cod im c x) = R
 ·rw [if_pos hR]
  refine ⟨by omega, by omega, by omega, by omega, ⟨by omega, by omega⟩, hY _ _ _ _ ⟨ll, ml, by simp [nl], h.le, m, ?_, hcnt, hv⟩⟩
  rw [ev] at hR
  have hh := hvv.1.1 hR
  have := hm.old (by rw [ev]; exact hh)
  rw [tk, ev, hvv.2 hh]
  rw [ev] at this
  exact this
 ·rw [if_neg hR]
  refine ⟨by omega, by omega, by omega, by omega, ⟨by omega, by omega⟩, by omega, by simp; omega, by omega, by omega, ⟨by omega, by omega⟩, hY _ _ _ _ ⟨by simp [ll], by simp [ml], by simp [nl], fun w hw => ?_, mput m (v : Int) (m.length : Int), ?_, ?_, fun w hw => ?_⟩⟩
  ·rw [ix_st _ (by omega) (by omega) (by omega)]
   split
   ·exact Int.le_refl _
   ·exact h.le w hw
  ·rw [ev] at hR
   have hh : ¬ mhas m (cod im c x) = true := fun k => hR (hvv.1.2 (by rw [← ev]; exact k))
   have := hm.new hh
   rw [tk, ix_st _ (by omega) (by omega) (by omega), if_pos rfl, hcnt]
   rw [ev] at this
   exact this
  ·rw [ev] at hR
   rw [J4U, if_neg fun k => hR (hvv.1.2 k), hcnt]; simp
  ·rw [ix_st _ (by omega) (by omega) (by omega), ix_st _ (by omega) (by omega) (by omega), J2g, J2R, ev]
   by_cases e : (w : Int) = (v : Int)
   ·rw [if_pos e, if_pos e]
    simp [e, hcnt]
   ·rw [if_neg e, if_neg e]
    simp only [e, decide_false, Bool.false_or, if_false]
    exact hv w hw
end Sg
namespace Sg
open Go
set_option linter.unusedVariables false
set_option linter.unusedSimpArgs false
theorem SPI.start {n : Nat} {im c label mark nx : List Int} {R : Int} (ll : label.length = n * n) (ml : mark.length = n * n) (nl : nx.length = n) (le : ∀ v : Nat, v < n * n → ix mark (v : Int) < R) : SPI n im c R 0 0 label mark nx :=
 ⟨ll, ml, nl, fun v hv => by have := le v hv; omega, [], by simpa using NumI.start, rfl, fun v hv => ⟨⟨fun e => by have := le v hv; omega, fun h => by simp [mhas] at h⟩, fun h => by simp [mhas] at h⟩⟩
theorem J8m {n : Nat} {im c : List Int} (cl : c.length = n) (cr : ∀ j : Nat, j < n → 0 ≤ ix c (j : Int) ∧ ix c (j : Int) < n) (ir : ∀ j : Nat, j < n → 0 ≤ ix im (j : Int) ∧ ix im (j : Int) < n) {x y : Nat} (hx : x < n) (hy : y < n) (e : cod im c x = cod im c y) :
  ix c (x : Int) = ix c (y : Int) ∧ ix c (ix im (x : Int)) = ix c (ix im (y : Int)) := by
 have at_ : ∀ z : Nat, z < n → 0 ≤ ix c (ix im (z : Int)) ∧ ix c (ix im (z : Int)) < n := fun z hz => by
  have i := ir z hz
  obtain ⟨w, ew⟩ := Int.eq_ofNat_of_zero_le i.1
  rw [ew]
  exact cr w (by omega)
 have a := at_ x hx
 have b := at_ y hy
 unfold cod at e
 rw [cl] at e
 have h1 : (ix c (ix im (x : Int)) + (n : Int) * ix c (x : Int)) / n = ix c (x : Int) := by
  rw [Int.add_mul_ediv_left _ _ (by omega), Int.ediv_eq_zero_of_lt a.1 a.2]; omega
 have h2 : (ix c (ix im (y : Int)) + (n : Int) * ix c (y : Int)) / n = ix c (y : Int) := by
  rw [Int.add_mul_ediv_left _ _ (by omega), Int.ediv_eq_zero_of_lt b.1 b.2]; omega
 have e2 : ix c (ix im (x : Int)) + (n : Int) * ix c (x : Int) = ix c (ix im (y : Int)) + (n : Int) * ix c (y : Int) := by
  rw [Int.mul_comm (n : Int), Int.mul_comm (n : Int)]; omega
 have e3 : ix c (x : Int) = ix c (y : Int) := by rw [← h1, ← h2, e2]
 refine ⟨e3, ?_⟩
 rw [e3] at e2
 omega
structure SPO (n : Nat) (im c : List Int) (R : Int) (cnt : Int) (label mark nx : List Int) : Prop where
 ll : label.length = n * n
 ml : mark.length = n * n
 nl : nx.length = n
 le : ∀ v : Nat, v < n * n → ix mark (v : Int) ≤ R
 nm : ∃ k : Nat, cnt = k ∧ Nmb nx k
 fin : ∀ x y : Nat, x < n → y < n → ix nx (x : Int) = ix nx (y : Int) → ix c (x : Int) = ix c (y : Int) ∧ ix c (ix im (x : Int)) = ix c (ix im (y : Int))
theorem SPI.out {n : Nat} {im c label mark nx : List Int} {cnt R : Int} (cl : c.length = n) (cr : ∀ j : Nat, j < n → 0 ≤ ix c (j : Int) ∧ ix c (j : Int) < n) (ir : ∀ j : Nat, j < n → 0 ≤ ix im (j : Int) ∧ ix im (j : Int) < n)
  (h : SPI n im c R n cnt label mark nx) : SPO n im c R cnt label mark nx := by
 obtain ⟨m, hm, hc, _⟩ := h.ex
 have nl := h.nl
 have e : nx.take n = nx := List.take_of_length_le (by omega)
 rw [e] at hm
 exact ⟨h.ll, h.ml, nl, h.le, ⟨_, hc, hm.nmb⟩, fun x y hx hy he => J8m cl cr ir hx hy ((hm.eq hx hy).1 he)⟩
theorem J3a {n k2 : Nat} {R0 : Int} (n4 : n ≤ 400) {im c label mark nx : List Int} {X2 : Nat → Int → Int → List Int → List Int → List Int → List Int → List Int → Prop} {K : List Int → Prop}
  (cl : c.length = n) (il : im.length = n) (cr : ∀ j : Nat, j < n → 0 ≤ ix c (j : Int) ∧ ix c (j : Int) < n) (ir : ∀ j : Nat, j < n → 0 ≤ ix im (j : Int) ∧ ix im (j : Int) < n)
  (ll : label.length = n * n) (ml : mark.length = n * n) (nl : nx.length = n) (le : ∀ v : Nat, v < n * n → ix mark (v : Int) < R0 + 1 + 1)
  (h : ∀ cnt label' mark' nx', SPO n im c (R0 + 1 + 1) cnt label' mark' nx' → X2 (k2 + 1) cnt (R0 + 1 + 1) im label' mark' c nx') :
  LoopWP (S := Nat × Int × List Int × List Int × List Int × List Int) (fun s X => J1f k2 R0 X2 c im K (fun a b d e f g => X (a, b, d, e, f, g)) s.1 s.2.1 s.2.2.1 s.2.2.2.1 s.2.2.2.2.1 s.2.2.2.2.2) (0, (0 : Int), label, mark, c, nx) := by
 refine LoopWP.to n (fun s => s.1) (fun s => s.1 ≤ n ∧ s.2.2.2.2.1 = c ∧ SPI n im c (R0 + 1 + 1) s.1 s.2.1 s.2.2.1 s.2.2.2.1 s.2.2.2.2.2) ⟨Nat.zero_le _, rfl, .start ll ml nl le⟩ (fun s h => h.1) ?_
 rintro ⟨x, cnt, label, mark, c', nx⟩ X ⟨hx, hc', hI⟩ hX
 try dsimp only at hx hc' hI ⊢
 subst hc'
 unfold J1f
 split
 ·rename_i hlt
  exact J6S (Y := fun a b d e f g => X (a, b, d, e, f, g)) n4 cl il cr ir hI (by omega) fun _ _ _ _ h => hX (x + 1, _, _, _, _, _) ⟨by dsimp only; omega, rfl, h⟩ rfl
 ·have : x = n := by omega
  subst this
  exact h _ _ _ _ (hI.out cl cr ir)
structure CCc (n : Nat) (c : List Int) (cnt : Int) : Prop where
 cl : c.length = n
 nm : ∃ k : Nat, cnt = k ∧ Nmb c k
theorem CCc.rg {n : Nat} {c : List Int} {cnt : Int} (h : CCc n c cnt) : ∀ j : Nat, j < n → 0 ≤ ix c (j : Int) ∧ ix c (j : Int) < n := fun j hj => by
 obtain ⟨k, _, hn⟩ := h.nm
 have hcl := h.cl
 obtain ⟨a, e, ha⟩ := hn.rg j (by omega)
 have hk : k ≤ n := by
  apply Classical.byContradiction
  intro hc
  obtain ⟨g, hg⟩ : ∃ g : Nat → Nat, ∀ a, a < k → g a < n ∧ ix c (g a : Int) = a := by
   have : ∀ a : Nat, ∃ q : Nat, a < k → q < n ∧ ix c (q : Int) = a := fun a => by
    by_cases ha : a < k
    ·obtain ⟨q, h1, h2⟩ := hn.on a ha
     exact ⟨q, fun _ => ⟨by omega, h2⟩⟩
    ·exact ⟨0, fun h => absurd h ha⟩
   exact Classical.axiomOfChoice this
  obtain ⟨a, b, hab, hb, e⟩ := pigeon n (fun a => (g a : Int)) fun a ha => ⟨by omega, by have := (hg a (by omega)).1; omega⟩
  have h1 := (hg a (by omega)).2
  have h2 := (hg b (by omega)).2
  rw [e] at h1
  omega
 omega
theorem CCc.le {n : Nat} {c : List Int} {cnt : Int} (h : CCc n c cnt) : cnt ≤ n := by
 obtain ⟨k, e, hn⟩ := h.nm
 by_cases h0 : k = 0
 ·omega
 ·obtain ⟨q, h1, h2⟩ := hn.on (k - 1) (by omega)
  have := h.rg q (by rw [← h.cl]; exact h1)
  omega
def Stb (t : List (List Int)) (c0 c : List Int) (n : Nat) (g : Int) : Prop := ∀ x y : Nat, x < n → y < n → ix c (x : Int) = ix c (y : Int) → ix c0 (ix (ix t g) (x : Int)) = ix c0 (ix (ix t g) (y : Int)) ∧ ix c0 (ix (ix t (x : Int)) g) = ix c0 (ix (ix t (y : Int)) g)
structure GOc (t : List (List Int)) (n : Nat) (c : List Int) (g R : Int) (cnt : Int) (im label mark sp c' : List Int) : Prop where
 il : im.length = n
 ll : label.length = n * n
 ml : mark.length = n * n
 sl : sp.length = n
 le : ∀ v : Nat, v < n * n → ix mark (v : Int) ≤ R
 cc : CCc n c' cnt
 fin : ∀ x y : Nat, x < n → y < n → ix c' (x : Int) = ix c' (y : Int) → ix c (x : Int) = ix c (y : Int)
 stb : Stb t c c' n g
theorem J3d {t : List (List Int)} (ht : SH t = true) {n k2 : Nat} (hn : t.length = n) {gens : List Int} {R0 g : Int} (hg : ix gens (k2 : Int) = g) (g0 : 0 ≤ g) (g1 : g < n) (hR : 0 ≤ R0 ∧ R0 ≤ 1000000000)
  {im c0 c label mark sp : List Int} {cnt : Int} {X2 : Nat → Int → Int → List Int → List Int → List Int → List Int → List Int → Prop} {K : List Int → Prop}
  (hc : CCc n c cnt) (il : im.length = n) (ll : label.length = n * n) (ml : mark.length = n * n) (sl : sp.length = n) (le : ∀ v : Nat, v < n * n → ix mark (v : Int) ≤ R0 + 1)
  (h1 : ∀ x y : Nat, x < n → y < n → ix c (x : Int) = ix c (y : Int) → ix c0 (x : Int) = ix c0 (y : Int) ∧ ix c0 (ix (ix t g) (x : Int)) = ix c0 (ix (ix t g) (y : Int)))
  (h : ∀ cnt' im' label' mark' c', GOc t n c0 g (R0 + 1 + 1) cnt' im' label' mark' c c' → X2 (k2 + 1) cnt' (R0 + 1 + 1) im' label' mark' c c') :
  LoopWP (S := Nat × List Int) (fun s X => J0L t gens k2 R0 X2 label mark c sp K (fun a b => X (a, b)) s.1 s.2) (0, im) := by
 have T := SH.tb ht
 have n4 := T.n4
 rw [hn] at T
 have hcl := hc.cl
 refine LoopWP.fold n (fun x im => im.length = n ∧ ∀ j : Nat, j < x → ix im (j : Int) = ix (ix t (j : Int)) g) ⟨il, fun j hj => absurd hj (Nat.not_lt_zero _)⟩ ?_
 rintro x im X hx ⟨il, hI⟩ hX
 show J0L t gens k2 R0 X2 label mark c sp K _ x im
 unfold J0L
 rw [hg]
 split
 ·have hx' : (x : Int) < n := by omega
  have r := T.row (x : Int) (by omega) hx'
  refine ⟨by omega, by omega, g0, by omega, by omega, by omega, hX _ (by omega) ⟨by simp [il], upS (fun j hj => ?_) ?_⟩⟩
  ·rw [ix_st _ (by omega) (by omega) (by omega), if_neg (by omega)]; exact hI j hj
  ·rw [ix_st _ (by omega) (by omega) (by omega), if_pos rfl]
 ·have hxn : x = n := by omega
  subst hxn
  have ir : ∀ j : Nat, j < t.length → 0 ≤ ix im (j : Int) ∧ ix im (j : Int) < t.length := fun j hj => by
   rw [hI j (by omega)]
   have := T.mu (x := (j : Int)) (y := g) (by omega) (by omega) g0 g1
   unfold mu at this
   omega
  rw [hn] at ir
  refine ⟨⟨by omega, by omega⟩, J3a (by omega) hcl il hc.rg ir ll ml sl (fun v hv => by have := le v hv; omega) fun cnt' label' mark' c' ho => h _ _ _ _ _ ⟨il, ho.ll, ho.ml, hcl, ho.le, ⟨ho.nl, ho.nm⟩, fun a b ha hb e => (h1 a b ha hb (ho.fin a b ha hb e).1).1, fun a b ha hb e => ?_⟩⟩
  obtain ⟨e1, e2⟩ := ho.fin a b ha hb e
  refine ⟨(h1 a b ha hb e1).2, ?_⟩
  rw [hI a ha, hI b hb] at e2
  obtain ⟨u, eu⟩ := Int.eq_ofNat_of_zero_le (T.mu (x := (a : Int)) (y := g) (by omega) (by omega) g0 g1).1
  obtain ⟨w, ew⟩ := Int.eq_ofNat_of_zero_le (T.mu (x := (b : Int)) (y := g) (by omega) (by omega) g0 g1).1
  have hu := (T.mu (x := (a : Int)) (y := g) (by omega) (by omega) g0 g1).2
  have hw := (T.mu (x := (b : Int)) (y := g) (by omega) (by omega) g0 g1).2
  unfold mu at eu ew hu hw
  rw [eu, ew] at e2 ⊢
  exact (h1 u w (by omega) (by omega) e2).1
theorem J38 {t : List (List Int)} (ht : SH t = true) {n k2 : Nat} (hn : t.length = n) {gens : List Int} {R0 g : Int} (hg : ix gens (k2 : Int) = g) (g0 : 0 ≤ g) (g1 : g < n) (hR : 0 ≤ R0 ∧ R0 ≤ 1000000000)
  {im c label mark sp : List Int} {cnt : Int} {X2 : Nat → Int → Int → List Int → List Int → List Int → List Int → List Int → Prop} {K : List Int → Prop}
  (hc : CCc n c cnt) (il : im.length = n) (ll : label.length = n * n) (ml : mark.length = n * n) (sl : sp.length = n) (le : ∀ v : Nat, v < n * n → ix mark (v : Int) ≤ R0)
  (h : ∀ cnt' im' label' mark' sp' c', GOc t n c g (R0 + 1 + 1) cnt' im' label' mark' sp' c' → X2 (k2 + 1) cnt' (R0 + 1 + 1) im' label' mark' sp' c') :
  LoopWP (S := Nat × Int × List Int × List Int × List Int × List Int) (fun s X => J1i t gens k2 R0 im c X2 K (fun a b d e f g => X (a, b, d, e, f, g)) s.1 s.2.1 s.2.2.1 s.2.2.2.1 s.2.2.2.2.1 s.2.2.2.2.2) (0, (0 : Int), label, mark, sp, c) := by
 have T := SH.tb ht
 have n4 := T.n4
 rw [hn] at T
 have hcl := hc.cl
 have hrow := T.row g g0 g1
 have hIM : (ix t g).take im.length ++ im.drop (ix t g).length = ix t g := by
  rw [il, hrow, List.take_of_length_le (by omega), List.drop_of_length_le (by omega), List.append_nil]
 have ir : ∀ j : Nat, j < n → 0 ≤ ix (ix t g) (j : Int) ∧ ix (ix t g) (j : Int) < n := fun j hj => T.mu g0 g1 (by omega) (by omega)
 refine LoopWP.to n (fun s => s.1) (fun s => s.1 ≤ n ∧ s.2.2.2.2.2 = c ∧ SPI n (ix t g) c (R0 + 1) s.1 s.2.1 s.2.2.1 s.2.2.2.1 s.2.2.2.2.1) ⟨Nat.zero_le _, rfl, .start ll ml sl fun v hv => Int.lt_add_one_iff.2 (le v hv)⟩ (fun s h => h.1) ?_
 rintro ⟨x, cnt, label, mark, nx, c'⟩ X ⟨hx, hc', hI⟩ hX
 try dsimp only at hx hc' hI ⊢
 subst hc'
 unfold J1i
 rw [hg, hIM]
 split
 ·rename_i hlt
  exact J6S (Y := fun a b d e f g => X (a, b, d, e, g, f)) (by omega) hcl hrow hc.rg ir hI (by omega) fun _ _ _ _ h => hX (x + 1, _, _, _, _, _) ⟨by dsimp only; omega, rfl, h⟩ rfl
 ·have hxn : x = n := by omega
  subst hxn
  have ho := hI.out hcl hc.rg ir
  refine J3d (c0 := c') ht hn hg g0 g1 hR ⟨ho.nl, ho.nm⟩ hrow ho.ll ho.ml hcl ho.le ho.fin fun cnt' im' label' mark' c'' hG => h _ _ _ _ _ _ hG
structure GSc (t : List (List Int)) (n : Nat) (gens c0 : List Int) (k : Nat) (R cnt : Int) (im label mark sp c : List Int) : Prop where
 il : im.length = n
 ll : label.length = n * n
 ml : mark.length = n * n
 sl : sp.length = n
 le : ∀ v : Nat, v < n * n → ix mark (v : Int) ≤ R
 cc : CCc n c cnt
 fin : ∀ x y : Nat, x < n → y < n → ix c (x : Int) = ix c (y : Int) → ix c0 (x : Int) = ix c0 (y : Int)
 stb : ∀ h : Nat, h < k → Stb t c0 c n (ix gens (h : Int))
theorem J36 {t : List (List Int)} (ht : SH t = true) {n : Nat} (hn : t.length = n) {gens c0 : List Int} (gl : gens.length ≤ n) (gr : ∀ g ∈ gens, 0 ≤ g ∧ g < (n : Int)) {b r0 : Int} (h0 : 0 ≤ r0) (h9 : r0 + 800 ≤ 1000000000)
  {im c label mark sp : List Int} {cnt : Int} {X1 : Int → Int → Int → List Int → List Int → List Int → List Int → List Int → Prop} {K : List Int → Prop}
  (hG : GSc t n gens c0 0 r0 cnt im label mark sp c)
  (h : ∀ cnt' r' im' label' mark' sp' c', r0 ≤ r' → r' ≤ r0 + 800 → GSc t n gens c0 gens.length r' cnt' im' label' mark' sp' c' → X1 b cnt' r' im' label' mark' sp' c') :
  LoopWP (S := Nat × Int × Int × List Int × List Int × List Int × List Int × List Int) (fun s X => J1k t gens b X1 K (fun a b d e f g h i => X (a, b, d, e, f, g, h, i)) s.1 s.2.1 s.2.2.1 s.2.2.2.1 s.2.2.2.2.1 s.2.2.2.2.2.1 s.2.2.2.2.2.2.1 s.2.2.2.2.2.2.2) (0, cnt, r0, im, label, mark, sp, c) := by
 have T := SH.tb ht
 have n4 := T.n4
 rw [hn] at T
 refine LoopWP.to gens.length (fun s => s.1) (fun s => s.1 ≤ gens.length ∧ s.2.2.1 = r0 + 2 * (s.1 : Int) ∧ GSc t n gens c0 s.1 s.2.2.1 s.2.1 s.2.2.2.1 s.2.2.2.2.1 s.2.2.2.2.2.1 s.2.2.2.2.2.2.1 s.2.2.2.2.2.2.2) ⟨Nat.zero_le _, by simp, hG⟩ (fun s h => h.1) ?_
 rintro ⟨k, cnt, r, im, label, mark, sp, c⟩ X ⟨hk, hr, hG⟩ hX
 try dsimp only at hk hr hG ⊢
 unfold J1k
 split
 ·rename_i hlt
  have hgm := gr (ix gens (k : Int)) (J0J (by omega) hlt)
  refine ⟨by omega, hlt, hgm.1, by omega, ⟨by omega, by omega⟩, ?_⟩
  refine J38 ht hn rfl hgm.1 hgm.2 ⟨by omega, by omega⟩ hG.cc hG.il hG.ll hG.ml hG.sl hG.le fun cnt' im' label' mark' sp' c' hO => hX (k + 1, _, _, _, _, _, _, _) ⟨by dsimp only; omega, by dsimp only; omega, ⟨hO.il, hO.ll, hO.ml, hO.sl, hO.le, hO.cc, fun x y hx hy e => hG.fin x y hx hy (hO.fin x y hx hy e), fun q hq => ?_⟩⟩ rfl
  by_cases e : q = k
  ·subst e
   intro x y hx hy exy
   obtain ⟨e1, e2⟩ := hO.stb x y hx hy exy
   have in_ : ∀ {a b : Int}, 0 ≤ a ∧ a < n → 0 ≤ b ∧ b < n → ix c a = ix c b → ix c0 a = ix c0 b := fun {a b} ha hb e => by
    obtain ⟨u, rfl⟩ := Int.eq_ofNat_of_zero_le ha.1
    obtain ⟨w, rfl⟩ := Int.eq_ofNat_of_zero_le hb.1
    exact hG.fin u w (by omega) (by omega) e
   exact ⟨in_ (T.mu hgm.1 hgm.2 (by omega) (by omega)) (T.mu hgm.1 hgm.2 (by omega) (by omega)) e1, in_ (T.mu (by omega) (by omega) hgm.1 hgm.2) (T.mu (by omega) (by omega) hgm.1 hgm.2) e2⟩
  ·exact fun x y hx hy exy => hG.stb q (by omega) x y hx hy (hO.fin x y hx hy exy)
 ·have : k = gens.length := by omega
  subst this
  exact h _ _ _ _ _ _ _ (by omega) (by omega) hG
structure Sta (t : List (List Int)) (n : Nat) (gens p c : List Int) (cnt : Int) : Prop where
 cc : CCc n c cnt
 fin : ∀ x y : Nat, x < n → y < n → ix c (x : Int) = ix c (y : Int) → ix p (x : Int) = ix p (y : Int)
 stb : ∀ h : Nat, h < gens.length → Stb t c c n (ix gens (h : Int))
theorem J39 {t : List (List Int)} (ht : SH t = true) {n : Nat} (hn : t.length = n) {gens p : List Int} (gl : gens.length ≤ n) (gr : ∀ g ∈ gens, 0 ≤ g ∧ g < (n : Int)) {im c label mark sp : List Int} {cnt : Int} {K : List Int → Prop}
  (il : im.length = n) (ll : label.length = n * n) (ml : mark.length = n * n) (sl : sp.length = n) (le : ∀ v : Nat, v < n * n → ix mark (v : Int) ≤ 0) (cc : CCc n c cnt) (fin : ∀ x y : Nat, x < n → y < n → ix c (x : Int) = ix c (y : Int) → ix p (x : Int) = ix p (y : Int)) (hpos : 0 < cnt)
  (h : ∀ c' cnt', Sta t n gens p c' cnt' → K c') :
  LoopWP (S := Int × Int × Int × List Int × List Int × List Int × List Int × List Int) (fun s X => J1l t gens K (fun a b d e f g h i => X (a, b, d, e, f, g, h, i)) s.1 s.2.1 s.2.2.1 s.2.2.2.1 s.2.2.2.2.1 s.2.2.2.2.2.1 s.2.2.2.2.2.2.1 s.2.2.2.2.2.2.2) ((0 : Int), cnt, (0 : Int), im, label, mark, sp, c) := by
 have T := SH.tb ht
 have n4 := T.n4
 refine LoopWP.intro (fun s => 0 ≤ s.1 ∧ s.1 ≤ s.2.1 ∧ 0 ≤ s.2.2.1 ∧ s.2.2.1 ≤ 800 * s.1 ∧ GSc t n gens p 0 s.2.2.1 s.2.1 s.2.2.2.1 s.2.2.2.2.1 s.2.2.2.2.2.1 s.2.2.2.2.2.2.1 s.2.2.2.2.2.2.2 ∧ (s.1 = s.2.1 → Sta t n gens p s.2.2.2.2.2.2.2 s.2.1)) (fun s => n + 1 - s.1.toNat) ⟨by simp, by dsimp only; omega, by simp, by simp, ⟨il, ll, ml, sl, le, cc, fin, fun h hh => absurd hh (Nat.not_lt_zero _)⟩, fun e => by dsimp only at e; omega⟩ ?_
 rintro ⟨b, cnt, r, im, label, mark, sp, c⟩ X ⟨hb0, hb, hr0, hr, hG, hS⟩ hX
 try dsimp only at hb0 hb hr0 hr hG hS ⊢
 unfold J1l
 have hcn := hG.cc.le
 split
 ·rename_i e; exact h _ _ (hS e)
 ·rename_i hne
  refine fun _ => J36 (c0 := c) ht hn gl gr hr0 (by omega) ⟨hG.il, hG.ll, hG.ml, hG.sl, hG.le, hG.cc, fun x y _ _ e => e, fun q hq => absurd hq (Nat.not_lt_zero _)⟩ fun cnt' r' im' label' mark' sp' c' h1 h2 hO => ?_
  obtain ⟨k0, e0, nm0⟩ := hG.cc.nm
  obtain ⟨k1, e1, nm1⟩ := hO.cc.nm
  have l0 := hG.cc.cl
  have l1 := hO.cc.cl
  have fn := nm0.finer nm1 (by omega) fun x y hx hy e => hO.fin x y (by omega) (by omega) e
  refine hX (_, _, _, _, _, _, _, _) ⟨by dsimp only; omega, by dsimp only; omega, by dsimp only; omega, by dsimp only; omega, ⟨hO.il, hO.ll, hO.ml, hO.sl, hO.le, hO.cc, fun x y hx hy e => hG.fin x y hx hy (hO.fin x y hx hy e), fun q hq => absurd hq (Nat.not_lt_zero _)⟩, fun e => ?_⟩ (by dsimp only; omega)
  dsimp only at e
  have back := fn.2 (by omega)
  refine ⟨hO.cc, fun x y hx hy e => hG.fin x y hx hy (hO.fin x y hx hy e), fun q hq x y hx hy exy => ?_⟩
  have hgm := gr (ix gens (q : Int)) (J0J (by omega) (by omega))
  obtain ⟨s1, s2⟩ := hO.stb q hq x y hx hy exy
  rw [hn] at T
  have in_ : ∀ {a b : Int}, 0 ≤ a ∧ a < n → 0 ≤ b ∧ b < n → ix c a = ix c b → ix c' a = ix c' b := fun {a b} ha hb e => by
   obtain ⟨u, rfl⟩ := Int.eq_ofNat_of_zero_le ha.1
   obtain ⟨w, rfl⟩ := Int.eq_ofNat_of_zero_le hb.1
   exact back u w (by omega) (by omega) e
  exact ⟨in_ (T.mu hgm.1 hgm.2 (by omega) (by omega)) (T.mu hgm.1 hgm.2 (by omega) (by omega)) s1, in_ (T.mu (by omega) (by omega) hgm.1 hgm.2) (T.mu (by omega) (by omega) hgm.1 hgm.2) s2⟩
end Sg
namespace Sg
open Go
set_option linter.unusedVariables false
set_option linter.unusedSimpArgs false
theorem J20 {p : List Int} (hp : CanP p) (hl : p.length ≤ 4096) {K : Bool → Prop} (h : K true) : J0r p K := by
 unfold J0r
 intro _
 rw [if_neg (by omega)]
 refine LoopWP.foldR p.length (fun k (c : Nat) => c ≤ k ∧ ∀ v : Int, (0 ≤ v ∧ v < (c : Int)) ↔ ∃ j : Nat, j < k ∧ ix p (j : Int) = v) 0 (by omega) ⟨by omega, fun v => ⟨fun hh => by omega, fun ⟨j, hj, _⟩ => by omega⟩⟩ ?_
 rintro k c X hk ⟨hck, hI⟩ hX
 show J1c p K _ c k
 unfold J1c
 split
 ·have hkp : k < p.length := by omega
  obtain ⟨p0, p1⟩ := hp k hkp
  have hle : ix p (k : Int) ≤ (c : Int) := by
   by_cases hlt : (c : Int) < ix p (k : Int)
   ·have := (hI (c : Int)).2 (p1 _ (by omega) hlt); omega
   ·omega
  refine ⟨by omega, by omega, ?_⟩
  rw [if_neg (by omega), if_neg (by omega)]
  split
  ·rename_i he
   refine ⟨⟨by omega, by omega⟩, hX _ hkp ⟨by omega, fun v => ?_⟩⟩
   constructor
   ·intro hv
    by_cases hvc : v = (c : Int)
    ·exact ⟨k, by omega, by rw [he, hvc]⟩
    ·obtain ⟨j, hj, hh⟩ := (hI v).1 (by omega); exact ⟨j, by omega, hh⟩
   ·rintro ⟨j, hj, hh⟩
    by_cases hjk : j = k
    ·subst hjk; omega
    ·have := (hI v).2 ⟨j, by omega, hh⟩; omega
  ·rename_i he
   refine hX _ hkp ⟨by omega, fun v => ?_⟩
   rw [hI v]
   constructor
   ·rintro ⟨j, hj, hh⟩; exact ⟨j, by omega, hh⟩
   ·rintro ⟨j, hj, hh⟩
    by_cases hjk : j = k
    ·subst hjk
     exact (hI v).1 (by omega)
    ·exact ⟨j, by omega, hh⟩
 ·exact h
theorem CanP.nmb {p : List Int} (hp : CanP p) {c : Int} (h1 : ∀ j : Nat, j < p.length → ix p (j : Int) + 1 ≤ c) (h2 : c = 0 ∨ ∃ j : Nat, j < p.length ∧ ix p (j : Int) + 1 = c) : ∃ k : Nat, c = k ∧ Nmb p k := by
 have h0 : 0 ≤ c := by
  rcases h2 with h2 | ⟨j, hj, e⟩
  ·omega
  ·have := (hp j hj).1; omega
 obtain ⟨k, rfl⟩ := Int.eq_ofNat_of_zero_le h0
 refine ⟨k, rfl, fun q hq => ?_, fun a ha => ?_, fun q a hq ha => ?_⟩
 ·obtain ⟨a, ea⟩ := Int.eq_ofNat_of_zero_le (hp q hq).1
  exact ⟨a, ea, by have := h1 q hq; omega⟩
 ·rcases h2 with h2 | ⟨j, hj, e⟩
  ·omega
  ·by_cases e2 : ix p (j : Int) = a
   ·exact ⟨j, hj, e2⟩
   ·obtain ⟨i, hi, ei⟩ := (hp j hj).2 a (by omega) (by omega)
    exact ⟨i, by omega, ei⟩
 ·obtain ⟨i, hi, ei⟩ := (hp q hq).2 a (by omega) ha
  exact ⟨i, hi, ei⟩
theorem J3g {p : List Int} (hp : CanP p) (hl : p.length ≤ 400) {K : Int → Prop} (h : ∀ c, CCc p.length p c → (0 < p.length → 0 < c) → K c) : J0E p K := by
  unfold J0E
  refine J20 hp (by omega) ?_
  rw [if_pos rfl]
  refine fun _ => LoopWP.foldR p.length (fun k (c : Int) => (∀ j : Nat, j < k → ix p (j : Int) + 1 ≤ c) ∧ (c = 0 ∨ ∃ j : Nat, j < k ∧ ix p (j : Int) + 1 = c)) 0 (by omega) ⟨fun j hj => absurd hj (Nat.not_lt_zero _), .inl rfl⟩ ?_
  rintro k c X hk ⟨h1, h2⟩ hX
  show J18 p K _ c k
  unfold J18
  have h0 : 0 ≤ c := by
    rcases h2 with h2 | ⟨j, hj, e⟩
    · omega
    · have := (hp j (by omega)).1; omega
  split
  · have hkp : k < p.length := by omega
    have a := (hp k hkp).1
    have bound : ix p (k : Int) ≤ 400 := by
      have hle : ∀ m : Nat, ∀ j : Nat, j < m → j < p.length → ix p (j : Int) ≤ j := fun m => by
        induction m with
        | zero => intro j hj; exact absurd hj (Nat.not_lt_zero _)
        | succ m ih =>
          intro j hj hjl
          by_cases hc : ix p (j : Int) ≤ j
          · exact hc
          · obtain ⟨i, hi, ei⟩ := (hp j hjl).2 j (by omega) (by omega)
            have := ih i (by omega) (by omega)
            omega
      have := hle (k + 1) k (by omega) hkp
      omega
    refine ⟨by omega, by omega, ⟨by omega, by omega⟩, ?_⟩
    split
    · exact hX _ hkp ⟨fun j hj => by
        by_cases e : j = k
        · subst e; exact Int.le_refl _
        · have := h1 j (by omega); omega, .inr ⟨k, by omega, rfl⟩⟩
    · refine hX _ hkp ⟨upS h1 (by omega), ?_⟩
      rcases h2 with h2 | ⟨j, hj, e⟩
      · exact .inl h2
      · exact .inr ⟨j, by omega, e⟩
  · have : k = p.length := by omega
    subst this
    refine h c ⟨rfl, hp.nmb h1 h2⟩ fun hpos => ?_
    have := h1 0 hpos
    have := (hp 0 hpos).1
    omega
theorem J3U {t : List (List Int)} (ht : SH t = true) {p : List Int} (hp : CanP p) (hl : p.length = t.length) {K : List Int → Prop}
  (h : ∀ gens c cnt, (∀ g ∈ gens, 0 ≤ g ∧ g < (t.length : Int)) → (∀ x : Nat, x < t.length → Clo t gens x) → Sta t t.length gens p c cnt → K c) : J0T t p K := by
 have T := SH.tb ht
 have n1 := T.n1
 have n4 := T.n4
 have hnn : (t.length : Int) * t.length ≤ 160000 ∧ 0 ≤ (t.length : Int) * t.length := by
  have : t.length * t.length ≤ 400 * 400 := Nat.mul_le_mul n4 n4
  have h3 : ((t.length * t.length : Nat) : Int) = (t.length : Int) * (t.length : Int) := by simp
  omega
 have hnt : ((t.length : Int) * (t.length : Int)).toNat = t.length * t.length := by
  have h3 : ((t.length * t.length : Nat) : Int) = (t.length : Int) * (t.length : Int) := by simp
  rw [← h3]; exact Int.toNat_natCast _
 unfold J0T
 refine J4n ht ?_
 rw [if_pos rfl]
 refine fun _ _ => ?_
 rw [if_pos (by omega)]
 refine J20 hp (by omega) ?_
 rw [if_pos rfl]
 refine ⟨⟨by omega, by omega⟩, ⟨by omega, by omega⟩, J0t (by omega) ⟨by omega, by omega, by omega, by omega, by omega, by omega, J3g hp (by omega) fun c hc hpos => J3h ht fun gens gl gr gc => ⟨by omega, by omega, ?_⟩⟩⟩
 rw [hnt]
 rw [hl] at hc
 exact J39 ht rfl gl gr (by simp) (by simp) (by simp) (by simp) (fun v hv => by rw [J0a _ _ hv]; exact Int.le_refl _) hc (fun x y _ _ e => e) (hpos (by omega)) fun c' cnt' hS => h gens c' cnt' gr gc hS
end Sg
namespace Sg
open Go
set_option linter.unusedVariables false
set_option linter.unusedSimpArgs false
theorem J3C {t : List (List Int)} (hv : VT t = true) {set : List Bool} (hl : set.length = t.length) {K : List Int → Prop}
  (h : ∀ gens c cnt, (∀ x : Nat, x < t.length → Clo t gens x) → (∀ g ∈ gens, 0 ≤ g ∧ g < (t.length : Int)) → (∀ x y : Nat, x < t.length → y < t.length → ix c (x : Int) = ix c (y : Int) → ix set (x : Int) = ix set (y : Int)) → CCc t.length c cnt → (∀ k : Nat, k < gens.length → Stb t c c t.length (ix gens (k : Int))) → K c) : J0I t set K := by
 have T := SH.tb (VT.sh hv)
 have n4 := T.n4
 unfold J0I
 refine fun _ _ => ?_
 rw [if_pos (by omega)]
 refine J47 ?_
 rw [if_pos (vaC0.2 hv)]
 refine ⟨by omega, by omega, ?_⟩
 refine LoopWP.fold t.length (fun k l => l.length = t.length ∧ (∀ j : Nat, j < k → ix l (j : Int) = if ix set (j : Int) = true then 1 else 0) ∧ ∀ j : Nat, k ≤ j → j < t.length → ix l (j : Int) = 0) ⟨by simp, fun j hj => absurd hj (Nat.not_lt_zero _), fun j _ hj => J0a _ _ hj⟩ ?_
 rintro k l X hk ⟨ll, h1, h2⟩ hX
 show J16 t set K _ k l
 unfold J16
 split
 ·refine ⟨by omega, by omega, ?_⟩
  split
  ·rename_i hs
   refine ⟨by omega, by omega, hX _ (by omega) ⟨by simp [ll], upS (fun j hj => ?_) ?_, fun j hj hjl => ?_⟩⟩
   ·rw [ix_st _ (by omega) (by omega) (by omega), if_neg (by omega)]; exact h1 j hj
   ·rw [ix_st _ (by omega) (by omega) (by omega), if_pos rfl, if_pos hs]
   ·rw [ix_st _ (by omega) (by omega) (by omega), if_neg (by omega)]; exact h2 j (by omega) hjl
  ·rename_i hs
   exact hX _ (by omega) ⟨ll, upS h1 (by rw [h2 k (Nat.le_refl _) (by omega), if_neg hs]), fun j hj hjl => h2 j (by omega) hjl⟩
 ·have : k = t.length := by omega
  subst this
  refine J2E (by omega) fun q hq => J3U (VT.sh hv) hq.can (hq.len.trans ll) fun gens c cnt gr gc hS => h gens c cnt gc gr (fun x y hx hy e => ?_) hS.cc hS.stb
  have e1 := (hq.ker x y (by omega) (by omega)).1 (hS.fin x y hx hy e)
  rw [h1 x hx, h1 y hy] at e1
  by_cases a : ix set (x : Int) = true <;> by_cases b : ix set (y : Int) = true
  ·rw [a, b]
  ·rw [if_pos a, if_neg b] at e1; omega
  ·rw [if_neg a, if_pos b] at e1; omega
  ·rw [Bool.not_eq_true] at a b; rw [a, b]
theorem J7Y {t : List (List Int)} (hv : VT t = true) {gens c : List Int} (gr : ∀ g ∈ gens, 0 ≤ g ∧ g < (t.length : Int)) (hs : ∀ k : Nat, k < gens.length → Stb t c c t.length (ix gens (k : Int))) {z : Int} (hz : Clo t gens z) : Stb t c c t.length z := by
  have T := SH.tb (VT.sh hv)
  have A := VT.as hv
  induction hz with
  | gen hg =>
    obtain ⟨k, hk, rfl⟩ := J0j.1 hg
    exact hs k hk
  | @mul a b ha hb iha ihb =>
    have ra := ha.in_ T gr
    have rb := hb.in_ T gr
    intro x y hx hy e
    obtain ⟨l1, l2⟩ := ihb x y hx hy e
    obtain ⟨l3, l4⟩ := iha x y hx hy e
    have pbx := T.mu rb.1 rb.2 (y := (x : Int)) (by omega) (by omega)
    have pby := T.mu rb.1 rb.2 (y := (y : Int)) (by omega) (by omega)
    have pxa := T.mu (x := (x : Int)) (by omega) (by omega) ra.1 ra.2
    have pya := T.mu (x := (y : Int)) (by omega) (by omega) ra.1 ra.2
    have as1 : ∀ {u v w : Int}, 0 ≤ u ∧ u < t.length → 0 ≤ v ∧ v < t.length → 0 ≤ w ∧ w < t.length → ix (ix t (ix (ix t u) v)) w = ix (ix t u) (ix (ix t v) w) := fun hu hv hw => A.all hu hv hw
    unfold mu at pbx pby pxa pya
    have hxx : 0 ≤ (x : Int) ∧ (x : Int) < t.length := ⟨by omega, by omega⟩
    have hyy : 0 ≤ (y : Int) ∧ (y : Int) < t.length := ⟨by omega, by omega⟩
    constructor
    · show ix c (ix (ix t (ix (ix t a) b)) (x : Int)) = ix c (ix (ix t (ix (ix t a) b)) (y : Int))
      rw [as1 ra rb hxx, as1 ra rb hyy]
      obtain ⟨u, eu⟩ := Int.eq_ofNat_of_zero_le pbx.1
      obtain ⟨w, ew⟩ := Int.eq_ofNat_of_zero_le pby.1
      rw [eu, ew] at l1 ⊢
      exact (iha u w (by omega) (by omega) l1).1
    · show ix c (ix (ix t (x : Int)) (ix (ix t a) b)) = ix c (ix (ix t (y : Int)) (ix (ix t a) b))
      rw [← as1 hxx ra rb, ← as1 hyy ra rb]
      obtain ⟨u, eu⟩ := Int.eq_ofNat_of_zero_le pxa.1
      obtain ⟨w, ew⟩ := Int.eq_ofNat_of_zero_le pya.1
      rw [eu, ew] at l4 ⊢
      exact (ihb u w (by omega) (by omega) l4).2
theorem J7t (n : Nat) : Nmb (iota n) n := ⟨fun q hq => by
  rw [J0D] at hq
  exact ⟨q, J1A hq, hq⟩, fun a ha => ⟨a, by rw [J0D]; exact ha, J1A ha⟩, fun q a hq ha => by
  rw [J0D] at hq
  rw [J1A hq] at ha
  exact ⟨a, by omega, J1A (by omega)⟩⟩
theorem law21_SyntacticReduced_ok (a0 : DFA) : law21_SyntacticReduced a0 (fun b => b = true) := by
 unfold law21_SyntacticReduced
 refine law21_small_ok (fun D hf hl => ?_) (by rw [if_neg (by decide)]; exact law21_awake_ok rfl)
 rw [if_pos rfl]
 refine J2B D (by omega) fun s hs => J3W D (J2B (J84 D) (by simp [comD]; omega) fun s' hs' => ?_)
 have e := hs.com D hs'
 subst e
 have v := hs.vs D
 have hv := hs.vt D
 have T := SH.tb v.1.sh
 have n1 := T.n1
 have n4 := T.n4
 have hal := v.1.al
 have hwl := v.1.wl
 rw [if_pos rfl]
 refine fun _ => ?_
 split
 ·refine J2k ?_
  rw [if_pos (by simp)]; exact law21_awake_ok rfl
 rw [if_pos rfl]
 refine J2k ?_
 rw [if_pos (by simp)]
 refine J3K (fun _ => ?_) fun n => absurd rfl n
 rw [if_pos rfl]
 refine fun _ _ => ?_
 rw [if_pos (by simp)]
 refine LoopWP.scan s.Accept.length (fun _ => True) ?_
 intro k X hk _ hX
 show law21_SyntacticReduced_L1 s _ _ X k
 unfold law21_SyntacticReduced_L1
 split
 ·have hn : ix (s.Accept.map (!·)) (k : Int) = !(ix s.Accept (k : Int)) := J6K (by omega) (by omega)
  refine ⟨by omega, by omega, ?_⟩
  by_cases ha : ix s.Accept (k : Int) = true
  ·rw [if_pos ha]
   refine ⟨by omega, by simp; omega, ?_⟩
   rw [if_neg (by rw [hn, ha]; decide)]
   exact hX (by omega) trivial
  ·rw [if_neg ha]
   refine ⟨by omega, by simp; omega, ?_⟩
   rw [Bool.not_eq_true] at ha
   rw [if_pos (by rw [hn, ha]; rfl)]
   exact hX (by omega) trivial
 ·refine J3C hv hal fun gens c cnt gc gr hset hcc hst => J2n (by omega) (by omega) ?_
  obtain ⟨kk, ek, o, _⟩ := hs.k
  have l6 := D.l6
  have all : ∀ z : Nat, z < s.Table.length → Stb s.Table c c s.Table.length (z : Int) := fun z hz => J7Y hv gr hst (gc z hz)
  have le1 : ∀ x y : Nat, x < s.Table.length → y < s.Table.length → ix c (x : Int) = ix c (y : Int) → leqS s (x : Int) (y : Int) := fun x y hx hy e u w hu hw hacc => by
   have e1 := (all u hu x y hx hy e).1
   have px := T.mu (x := (u : Int)) (y := (x : Int)) (by omega) (by omega) (by omega) (by omega)
   have py := T.mu (x := (u : Int)) (y := (y : Int)) (by omega) (by omega) (by omega) (by omega)
   unfold mu at px py
   obtain ⟨p, ep⟩ := Int.eq_ofNat_of_zero_le px.1
   obtain ⟨q, eq⟩ := Int.eq_ofNat_of_zero_le py.1
   rw [ep, eq] at e1
   rw [ep] at hacc px
   rw [eq] at py ⊢
   have e2 := (all w hw p q (by omega) (by omega) e1).2
   have px2 := T.mu (x := (p : Int)) (y := (w : Int)) (by omega) (by omega) (by omega) (by omega)
   have py2 := T.mu (x := (q : Int)) (y := (w : Int)) (by omega) (by omega) (by omega) (by omega)
   unfold mu at px2 py2
   obtain ⟨p2, ep2⟩ := Int.eq_ofNat_of_zero_le px2.1
   obtain ⟨q2, eq2⟩ := Int.eq_ofNat_of_zero_le py2.1
   rw [ep2, eq2] at e2
   rw [ep2] at hacc
   rw [eq2, ← hset p2 q2 (by omega) (by omega) e2]
   exact hacc
  have one : ∀ x y : Nat, x < s.Table.length → y < s.Table.length → ix c (x : Int) = ix c (y : Int) → x = y := fun x y hx hy e =>
   J70 o (by omega) (by omega) (by omega) (le1 x y hx hy e) (le1 y x hy hx e.symm)
  obtain ⟨m, _, nm⟩ := hcc.nm
  have hcl := hcc.cl
  have ec : c = iota s.Table.length := nm.uniq (J7t _) (by rw [J0D]; exact hcl) (fun x y hx hy e => by rw [one x y (by omega) (by omega) e]) fun x y hx hy e => by
   rw [J0D] at hx hy
   rw [J1A hx, J1A hy] at e
   have : x = y := by omega
   rw [this]
  refine J3Q ?_
  rw [if_pos (by rw [ec]; simp), if_pos (by omega)]
  exact law21_awake_ok rfl
end Sg
