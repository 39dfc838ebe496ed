/- -/
import Derived.Test.YtlneebpmblkllaaZp
namespace Sg
open Go
set_option linter.unusedVariables false
set_option linter.unusedSimpArgs false
def rho (d : DFA) : Str → Int := fun w => rn d d.Start w
section
variable {d : DFA} {k i x : Nat} {W : List Str} {S : List Int}
theorem J7D (d : DFA) (k : Nat) : RC k (rho d) := rn_RC d k d.Start
structure XI (d : DFA) (k i x : Nat) (W : List Str) (S : List Int) : Prop where
 cl : CL k (rho d) W (fun w => SL w (ix W i ++ [lt x]))
 il : i < W.length
 sl : S.length = W.length
 st : ∀ j : Nat, j < W.length → ix S j = rho d (ix W j)
theorem J5x (D : Da d) (hk : (k : Int) = d.Letters) {w : Str} (hw : LW k w) : 0 ≤ rho d w ∧ rho d w < d.Final.length := rn_lw D hk hw D.s0 D.s1
theorem XI.lw (h : XI d k i x W S) {j : Nat} (hj : j < W.length) : LW k (ix W j) := h.cl.lw hj
theorem XI.in_ (h : XI d k i x W S) (D : Da d) (hk : (k : Int) = d.Letters) {j : Nat} (hj : j < W.length) : 0 ≤ ix S j ∧ ix S j < d.Final.length := by
 rw [h.st j hj]; exact J5x D hk (h.lw hj)
theorem XI.next_ (h : XI d k i x W S) (hx : x < 159) : ix (ix d.Next (ix S i)) (x : Int) = rho d (ix W i ++ [lt x]) := by
 rw [h.st i h.il]; exact (J2t d d.Start _ hx).symm
theorem CL.few {F : Str → Prop} (h : CL k (rho d) W F) (D : Da d) (hk : (k : Int) = d.Letters) : W.length ≤ d.Final.length := h.le fun w hw => J5x D hk hw
theorem XI.few (h : XI d k i x W S) (D : Da d) (hk : (k : Int) = d.Letters) : W.length ≤ d.Final.length := h.cl.few D hk
theorem XI.known (h : XI d k i x W S) (hk : k < 159) (hx : x < k) {j : Nat} (hj : j < W.length) (e : ix S j = rho d (ix W i ++ [lt x])) : XI d k i (x + 1) W S :=
 ⟨h.cl.known (by omega) (J0N (by omega) (by omega)) ((h.st j hj).symm.trans e), h.il, h.sl, h.st⟩
theorem XI.new (h : XI d k i x W S) (hk : k < 159) (hx : x < k) (hn : ∀ j : Nat, j < W.length → ix S j ≠ rho d (ix W i ++ [lt x])) : XI d k i (x + 1) (W ++ [ix W i ++ [lt x]]) (S ++ [rho d (ix W i ++ [lt x])]) := by
 have hi := h.il
 have hsl := h.sl
 refine ⟨?_, by simp; omega, by simp [hsl], fun j hj => ?_⟩
 ·rw [ixA hi]
  exact h.cl.new (by omega) (LW.app.2 ⟨h.lw hi, LW.lt hx hk⟩) fun w hw => by
   obtain ⟨j, hj, rfl⟩ := J0g.1 hw
   rw [← h.st j hj]
   exact hn j hj
 ·simp only [List.length_append, List.length_singleton] at hj
  by_cases hjW : j < W.length
  ·rw [ixA (by omega), ixA hjW]; exact h.st j hjW
  ·have : j = W.length := by omega
   rw [ixL' (by omega), ixL' this]
theorem XI.go (h : XI d k i k W S) (hk : k < 159) (hd : i + 1 < W.length) : XI d k (i + 1) 0 W S := ⟨h.cl.next (J7D d k) hk hd, hd, h.sl, h.st⟩
theorem XI.all (h : XI d k i k W S) (hk : k < 159) (hd : i + 1 = W.length) : CL k (rho d) W (fun _ => True) := h.cl.all (J7D d k) hk hd
theorem XI.start : XI d k 0 0 [[]] [d.Start] := by
 refine ⟨CL.start, by simp, rfl, fun j hj => ?_⟩
 have : j = 0 := by simpa using hj
 subst this
 rfl
structure YI (d : DFA) (k i : Nat) (W : List Str) (S : List Int) : Prop where
 il : i ≤ W.length
 sl : S.length = W.length
 st : ∀ j : Nat, j < W.length → ix S j = rho d (ix W j)
 at_ : i < W.length → XI d k i 0 W S
 al : i = W.length → CL k (rho d) W (fun _ => True)
 few : W.length ≤ d.Final.length
theorem YI.start (D : Da d) : YI d k 0 [[]] [d.Start] := ⟨by simp, rfl, (XI.start (d := d) (k := k)).st, fun _ => XI.start, fun h => by simp at h, by have := D.f1; simpa using this⟩
theorem XI.yi (h : XI d k i k W S) (hk : k < 159) (D : Da d) (hkl : (k : Int) = d.Letters) : YI d k (i + 1) W S :=
 ⟨h.il, h.sl, h.st, fun hd => h.go hk hd, fun hd => h.all hk hd, h.few D hkl⟩
structure RowsOk (d : DFA) (k i : Nat) (W : List Str) (Nx : List (List Int)) (Fn : List Bool) : Prop where
 nl : Nx.length = i
 fl : Fn.length = i
 fin : ∀ a : Nat, a < i → ix Fn a = acc d (ix W a)
 row : ∀ a : Nat, a < i → (ix Nx a).length = k
 nx : ∀ a x : Nat, a < i → x < k → ∃ j : Nat, ix (ix Nx a) x = j ∧ j < W.length ∧ rho d (ix W j) = rho d (ix W a ++ [lt x])
variable {Nx : List (List Int)} {Fn : List Bool} {row : List Int}
theorem RowsOk.start : RowsOk d k 0 W [] [] := ⟨rfl, rfl, fun a h => by omega, fun a h => by omega, fun a x h => by omega⟩
def RowI (d : DFA) (k i x : Nat) (W : List Str) (row : List Int) : Prop := ∀ y : Nat, y < x → ∃ j : Nat, ix row y = j ∧ j < W.length ∧ rho d (ix W j) = rho d (ix W i ++ [lt y])
theorem RowI.up (h : RowI d k i x W row) (hi : i < W.length) (c : Str) : RowI d k i x (W ++ [c]) row := fun y hy => by
 obtain ⟨j, e, hj, r⟩ := h y hy
 exact ⟨j, e, by simp; omega, by rw [ixA hj, ixA hi]; exact r⟩
theorem RowsOk.up (h : RowsOk d k i W Nx Fn) (hi : i ≤ W.length) (c : Str) : RowsOk d k i (W ++ [c]) Nx Fn := by
 refine ⟨h.nl, h.fl, fun a ha => ?_, h.row, fun a x ha hx => ?_⟩
 ·rw [ixA (by omega)]; exact h.fin a ha
 ·obtain ⟨j, e, hj, r⟩ := h.nx a x ha hx
  exact ⟨j, e, by simp; omega, by rw [ixA hj, ixA (by omega)]; exact r⟩
theorem RowsOk.push (h : RowsOk d k i W Nx Fn) (hl : row.length = k) (hr : RowI d k i k W row) : RowsOk d k (i + 1) W (Nx ++ [row]) (Fn ++ [acc d (ix W i)]) := by
 have hn := h.nl
 have hf := h.fl
 refine ⟨by simp [hn], by simp [hf], fun a ha => ?_, fun a ha => ?_, fun a x ha hx => ?_⟩
 ·by_cases hai : a = i
  ·subst hai; rw [ixL' (by omega)]
  ·rw [ixA (by omega)]; exact h.fin a (by omega)
 ·by_cases hai : a = i
  ·subst hai; rw [ixL' (by omega)]; exact hl
  ·rw [ixA (by omega)]; exact h.row a (by omega)
 ·by_cases hai : a = i
  ·subst hai; rw [ixL' (by omega)]; exact hr x hx
  ·rw [ixA (by omega)]; exact h.nx a x (by omega) hx
theorem RowsOk.can (h : RowsOk d k W.length W Nx Fn) (c : CL k (rho d) W (fun _ => True)) {l : Int} (hl : l = k) : Can k (rho d) (acc d) ⟨l, 0, Fn, Nx⟩ W :=
 ⟨c, hl, rfl, h.fl, h.nl, h.fin, h.row, h.nx⟩
structure Nms (S : List Int) (m : List (Int × Int)) : Prop where
 has : ∀ q, mhas m q = true ↔ ∃ j : Nat, j < S.length ∧ ix S j = q
 get : ∀ j : Nat, j < S.length → ∃ j' : Nat, mgt m (ix S j) = j' ∧ j' < S.length ∧ ix S j' = ix S j
variable {m : List (Int × Int)}
theorem Nms.start (q : Int) : Nms [q] (mput [] q 0) := by
 refine ⟨fun a => ?_, fun j hj => ?_⟩
 ·simp only [mput, mhas, Bool.or_false, decide_eq_true_eq]
  constructor
  ·rintro rfl; exact ⟨0, by simp, rfl⟩
  ·rintro ⟨j, hj, rfl⟩
   have : j = 0 := by simpa using hj
   subst this; rfl
 ·have : j = 0 := by simpa using hj
  subst this
  exact ⟨0, by simp [mput, mgt, ix], by simp, rfl⟩
theorem Nms.new (h : Nms S m) {q : Int} (hn : ¬ mhas m q = true) : Nms (S ++ [q]) (mput m q (S.length : Int)) := by
 refine ⟨fun a => ?_, fun j hj => ?_⟩
 ·rw [J2I]
  simp only [Bool.or_eq_true, decide_eq_true_eq, h.has]
  constructor
  ·rintro (rfl | ⟨j, hj, e⟩)
   ·exact ⟨S.length, by simp, ixL⟩
   ·exact ⟨j, by simp; omega, by rw [ixA hj]; exact e⟩
  ·rintro ⟨j, hj, e⟩
   simp only [List.length_append, List.length_singleton] at hj
   by_cases hjS : j < S.length
   ·rw [ixA hjS] at e; exact .inr ⟨j, hjS, e⟩
   ·rw [ixL' (by omega)] at e; exact .inl e.symm
 ·simp only [List.length_append, List.length_singleton] at hj
  rw [J3O]
  by_cases hjS : j < S.length
  ·rw [ixA hjS, if_neg (fun e => hn ((h.has q).2 ⟨j, hjS, e⟩))]
   obtain ⟨j', e1, h1, h2⟩ := h.get j hjS
   exact ⟨j', e1, by simp; omega, by rw [ixA h1]; exact h2⟩
  ·have e : j = S.length := by omega
   subst e
   rw [ixL, if_pos rfl]
   exact ⟨S.length, rfl, by simp, ixL⟩
def PlaceI (n c : Nat) (pl : List Int) : Prop := pl.length = n ∧ ∀ q : Nat, q < n → -1 ≤ ix pl q ∧ ix pl q < c
theorem PlaceI.set {n c : Nat} {pl : List Int} (h : PlaceI n c pl) {q v : Int} (h0 : 0 ≤ q) (h1 : q < n) (hv0 : -1 ≤ v) (hv1 : v < c) : PlaceI n c (Sg.st pl q v) := by
 refine ⟨by simp [h.1], fun p hp => ?_⟩
 rw [ix_st _ h0 (by rw [h.1]; exact h1) (by omega)]
 split
 ·exact ⟨hv0, hv1⟩
 ·exact h.2 p hp
end
section
variable {d : DFA} {k : Nat}
theorem J5o {Nx : List (List Int)} {Fn : List Bool} {S : List Int} {K : DFA → List Int → Prop} {pl : List Int} (hS : ∀ j : Nat, j < S.length → 0 ≤ ix S j ∧ ix S j < d.Final.length) (hp : PlaceI d.Final.length S.length pl)
  (h : ∀ pl, PlaceI d.Final.length S.length pl → K ⟨d.Letters, 0, Fn, Nx⟩ pl) : LoopWP (S := Nat × List Int) (fun s X => J3C d Nx Fn S K (fun a b => X (a, b)) s.1 s.2) (0, pl) := by
 refine LoopWP.to S.length (fun s => s.1) (fun s => s.1 ≤ S.length ∧ PlaceI d.Final.length S.length s.2) ⟨Nat.zero_le _, hp⟩ (fun s h => h.1) ?_
 rintro ⟨a, pl⟩ X ⟨ha, hpl⟩ hX
 try dsimp only at ha hpl ⊢
 unfold J3C
 split
 ·rename_i hlt
  have := hS a (by omega)
  have hl := hpl.1
  exact ⟨by omega, hlt, this.1, by omega, hX (a + 1, _) ⟨by dsimp only; omega, hpl.set this.1 this.2 (by omega) (by omega)⟩ rfl⟩
 ·exact h pl hpl
theorem J5g {Nx : List (List Int)} {Fn : List Bool} {S : List Int} {K : DFA → List Int → Prop} (hd : d.Final.length ≤ 512) (hS : ∀ j : Nat, j < S.length → 0 ≤ ix S j ∧ ix S j < d.Final.length)
  (h : ∀ pl, PlaceI d.Final.length S.length pl → K ⟨d.Letters, 0, Fn, Nx⟩ pl) : LoopWP (S := Nat × List Int) (fun s X => J3D d Nx Fn S K (fun a b => X (a, b)) s.1 s.2) (0, List.replicate d.Final.length (0 : Int)) := by
 refine LoopWP.to d.Final.length (fun s => s.1) (fun s => s.1 ≤ d.Final.length ∧ s.2.length = d.Final.length ∧ ∀ q : Nat, q < s.1 → ix s.2 q = -1) ⟨Nat.zero_le _, by simp, fun q hq => by simp at hq⟩ (fun s h => h.1) ?_
 rintro ⟨a, pl⟩ X ⟨ha, hl, hpl⟩ hX
 try dsimp only at ha hl hpl ⊢
 unfold J3D
 rw [List.length_replicate]
 split
 ·rename_i hlt
  refine ⟨by omega, by omega, ⟨by omega, by omega⟩, hX (a + 1, _) ⟨by dsimp only; omega, by simp [hl], fun q hq => ?_⟩ rfl⟩
  dsimp only at hq ⊢
  rw [ix_st _ (by omega) (by omega) (by omega)]
  split
  ·rfl
  ·exact hpl q (by omega)
 ·exact J5o hS ⟨hl, fun q hq => by rw [hpl q (by omega)]; omega⟩ h
theorem J4U (D : Da d) (hk : (k : Int) = d.Letters) {K : DFA → List Int → Prop} (h : ∀ t pl W, Can k (rho d) (acc d) t W → PlaceI d.Final.length W.length pl → K t pl) : J3l d K := by
 have h1 := D.l1
 have h6 := D.l6
 have hk9 : k < 159 := by omega
 have f2 := D.f2
 have hnx := D.nx
 unfold J3l
 refine J12 ?_
 rw [if_pos (daC0.2 (J26.2 D))]
 refine ⟨by simp, ?_⟩
 refine LoopWP.to d.Final.length (fun s => s.1) (fun s => ∃ W, YI d k s.1 W s.2.2.2.1 ∧ RowsOk d k s.1 W s.2.1 s.2.2.1 ∧ Nms s.2.2.2.1 s.2.2.2.2) ⟨[[]], YI.start D, RowsOk.start, Nms.start _⟩ (fun s ⟨W, hy, _⟩ => Nat.le_trans hy.il hy.few) ?_
 rintro ⟨i, Nx, Fn, S, m⟩ X ⟨W, hy, hr, hm⟩ hX
 try dsimp only at hy hr hm ⊢
 have hsl := hy.sl
 have hfew := hy.few
 unfold J59
 split
 ·rename_i hlt
  have hi : i < W.length := by omega
  refine ⟨by omega, hlt, by omega, by omega, ?_⟩
  have hkn : d.Letters.toNat = k := by omega
  refine LoopWP.to k (fun s => s.1) (fun s => s.1 ≤ k ∧ s.2.1.length = k ∧ ∃ V, XI d k i s.1 V s.2.2.1 ∧ RowsOk d k i V Nx Fn ∧ RowI d k i s.1 V s.2.1 ∧ Nms s.2.2.1 s.2.2.2 ∧ ∀ j : Nat, j < W.length → j < V.length ∧ ix s.2.2.1 j = ix S j) ⟨Nat.zero_le _, by simp [hkn], W, hy.at_ hi, hr, fun y hy => by simp at hy, hm, fun j hj => ⟨hj, rfl⟩⟩ (fun s h => h.1) ?_
  rintro ⟨x, row, S2, m2⟩ X2 ⟨hx, hrl, V, hxi, hrv, hri, hm2, hpre⟩ hX2
  try dsimp only at hx hrl hxi hrv hri hm2 hpre ⊢
  have hV := hxi.few D hk
  have hiV := hxi.il
  have hsV := hxi.sl
  have eS : ix S (i : Int) = rho d (ix W i) := hy.st i hi
  have hSin := (hy.at_ hi).in_ D hk hi
  have eW : rho d (ix W i) = rho d (ix V i) := by
   have e1 := hxi.st i hiV
   rw [← eS, ← e1]
   exact (hpre i hi).2.symm
  unfold J55
  rw [List.length_replicate, hkn]
  split
  ·rename_i hxk
   have hxk' : x < k := by omega
   have hat := D.at_ (q := ix S i) (x := x) hSin.1 hSin.2 (by omega) (by omega)
   have enx : ix (ix d.Next (ix S i)) (x : Int) = rho d (ix V i ++ [lt x]) := by
    rw [← hxi.next_ (by omega), hxi.st i hiV, eS, eW]
   rw [enx]
   refine ⟨hSin.1, by omega, by omega, by omega, ?_⟩
   split
   ·rename_i hmh
    obtain ⟨j, hj, ej⟩ := (hm2.has _).1 hmh
    obtain ⟨j', e1, hj', e2⟩ := hm2.get j hj
    rw [ej] at e1 e2
    refine ⟨by omega, by omega, ⟨by omega, by omega⟩, hX2 (x + 1, _) ⟨by dsimp only; omega, by simp [hrl], V, hxi.known hk9 hxk' (j := j) (by omega) ej, hrv, fun y hy => ?_, hm2, hpre⟩ rfl⟩
    dsimp only
    rw [e1, ix_st _ (by omega) (by omega) (by omega)]
    by_cases hyx : y = x
    ·subst hyx
     rw [if_pos rfl]
     exact ⟨j', rfl, by omega, (hxi.st j' (by omega)).symm.trans e2⟩
    ·rw [if_neg (by omega)]
     exact hri y (by omega)
   ·rename_i hmh
    have hn : ∀ j : Nat, j < V.length → ix S2 j ≠ rho d (ix V i ++ [lt x]) := fun j hj e => hmh ((hm2.has _).2 ⟨j, by omega, e⟩)
    have hnew := hxi.new hk9 hxk' hn
    refine ⟨by simp; omega, by omega, by omega, ⟨by omega, by omega⟩, hX2 (x + 1, _) ⟨by dsimp only; omega, by simp [hrl], _, hnew, hrv.up (by omega) _, fun y hy => ?_, hm2.new hmh, fun j hj => ⟨by have := (hpre j hj).1; simp; omega, by dsimp only; have := hpre j hj; rw [ixA (by omega)]; exact this.2⟩⟩ rfl⟩
    dsimp only
    rw [ix_st _ (by omega) (by omega) (by omega)]
    by_cases hyx : y = x
    ·subst hyx
     rw [if_pos rfl]
     exact ⟨S2.length, rfl, by simp; omega, by rw [ixL' hsV, ixA hiV]⟩
    ·rw [if_neg (by omega)]
     exact hri.up hiV _ y (by omega)
  ·rename_i hxk
   have hxk' : x = k := by omega
   subst hxk'
   have hyi := hxi.yi hk9 D hk
   rw [if_neg (by omega)]
   have hfin : ix d.Final (ix S i) = acc d (ix V i) := by rw [eS, eW]; rfl
   have hn := hrv.nl
   have hf := hrv.fl
   rw [hfin]
   exact ⟨by simp; omega, hSin.1, hSin.2, by simp; omega, ⟨by omega, by omega⟩, hX (i + 1, _) ⟨V, hyi, hrv.push hrl hri, hm2⟩ rfl⟩
 ·rename_i hlt
  have hi : i = W.length := by have := hy.il; omega
  subst hi
  have c := hr.can (hy.al rfl) (l := d.Letters) hk.symm
  have hS : ∀ j : Nat, j < S.length → 0 ≤ ix S j ∧ ix S j < d.Final.length := fun j hj => by
   rw [hy.st j (by omega)]; exact J5x D hk (c.cl.lw (by omega))
  have key := J5g (d := d) (Nx := Nx) (Fn := Fn) (S := S) (K := K) (by omega) hS fun pl hpl => h _ pl W c (by rw [hsl] at hpl; exact hpl)
  exact ⟨fun _ => ⟨by omega, by omega, key⟩, fun _ => ⟨by omega, by omega, key⟩⟩
end
end Sg
namespace Sg
open Go
set_option linter.unusedVariables false
set_option linter.unusedSimpArgs false
theorem J5r {x : Nat} (hx : x < 31) : byt [IntKind.u8.wrap ((97 : Int) + (x : Int))] = [lt x] := by
 have e : IntKind.u8.wrap ((97 : Int) + (x : Int)) = ((97 + x : Nat) : Int) := by rw [IntKind.wrap_u8]; omega
 rw [e]; rfl
section
variable {d : DFA} {k i x : Nat} {W : List Str} {S : List Int}
def MetI (n : Nat) (S : List Int) (met : List Bool) : Prop := met.length = n ∧ ∀ q : Nat, q < n → (ix met q = true ↔ ∃ j : Nat, j < S.length ∧ ix S j = q)
theorem MetI.set {n : Nat} {met : List Bool} (h : MetI n S met) {q : Int} (h0 : 0 ≤ q) (h1 : q < n) : MetI n (S ++ [q]) (Sg.st met q true) := by
 obtain ⟨q, rfl⟩ := Int.eq_ofNat_of_zero_le h0
 refine ⟨by simp [h.1], fun p hp => ?_⟩
 rw [ix_st _ (by omega) (by rw [h.1]; omega) (by omega)]
 by_cases hpq : p = q
 ·subst hpq
  rw [if_pos rfl]
  exact ⟨fun _ => ⟨S.length, by simp, ixL⟩, fun _ => rfl⟩
 ·rw [if_neg (by omega), h.2 p hp]
  constructor
  ·rintro ⟨j, hj, e⟩; exact ⟨j, by simp; omega, by rw [ixA hj]; exact e⟩
  ·rintro ⟨j, hj, e⟩
   simp only [List.length_append, List.length_singleton] at hj
   by_cases hjS : j < S.length
   ·rw [ixA hjS] at e; exact ⟨j, hjS, e⟩
   ·rw [ixL' (by omega)] at e; omega
theorem XI.wl (h : XI d k i x W S) : ∀ w ∈ W, w.length ≤ W.length := by
  have key : ∀ j : Nat, j < W.length → (ix W j).length ≤ j := by
    intro j
    induction j using Nat.strongRecOn with
    | _ j ih =>
      intro hj
      by_cases h0 : ix W j = []
      · rw [h0]; simp
      · obtain ⟨p, b, e⟩ := snocEx h0
        have hm := (h.cl.mem _).1 (J0g.2 ⟨j, hj, rfl⟩)
        have hpl : SL p (ix W j) := by rw [e]; exact .inl (by simp)
        have hp : p ∈ W := (h.cl.mem p).2 ⟨(by rw [e] at hm; exact hm.1.pre (J7D d k)), hpl.trans hm.2⟩
        obtain ⟨a, ha, ea⟩ := J0g.1 hp
        have haj : a < j := J2x h.cl.asc ha hj (by rw [ea]; exact hpl)
        have := ih a haj ha
        rw [ea] at this
        rw [e]; simp; omega
  intro w hw
  obtain ⟨j, hj, rfl⟩ := J0g.1 hw
  have := key j hj
  omega
theorem J4W (D : Da d) (hk : (k : Int) = d.Letters) {K : List Int → List Str → Prop} (h : ∀ S W, CL k (rho d) W (fun _ => True) → S.length = W.length → (∀ j : Nat, j < W.length → ix S j = rho d (ix W j)) → K S W) : J1A d K := by
 have h1 := D.l1
 have h6 := D.l6
 have hk9 : k < 159 := by omega
 have f2 := D.f2
 have hnx := D.nx
 have s0 := D.s0
 have s1 := D.s1
 unfold J1A
 refine fun _ => ⟨by omega, by omega, s0, by simpa using s1, ?_⟩
 refine LoopWP.to d.Final.length (fun s => s.1) (fun s => YI d k s.1 s.2.2.1 s.2.2.2 ∧ MetI d.Final.length s.2.2.2 s.2.1) ⟨YI.start D, ?_⟩ (fun s hy => Nat.le_trans hy.1.il hy.1.few) ?_
 ·have : MetI d.Final.length [] (List.replicate d.Final.length false) := ⟨by simp, fun q hq => by rw [J0j _ _ hq]; simp⟩
  have := this.set s0 s1
  simpa using this
 rintro ⟨i, met, W, S⟩ X ⟨hy, hm⟩ hX
 try dsimp only at hy hm ⊢
 have hsl := hy.sl
 have hfew := hy.few
 unfold J33
 split
 ·rename_i hlt
  have hi : i < W.length := by omega
  refine LoopWP.to k (fun s => s.1) (fun s => s.1 ≤ k ∧ XI d k i s.1 s.2.2.1 s.2.2.2 ∧ MetI d.Final.length s.2.2.2 s.2.1) ⟨Nat.zero_le _, hy.at_ hi, hm⟩ (fun s h => h.1) ?_
  rintro ⟨x, met2, V, S2⟩ X2 ⟨hx, hxi, hm2⟩ hX2
  try dsimp only at hx hxi hm2 ⊢
  have hV := hxi.few D hk
  have hiV := hxi.il
  have hsV := hxi.sl
  have hSin := hxi.in_ D hk hiV
  unfold J35
  split
  ·rename_i hxk
   have hxk' : x < k := by omega
   have hat := D.at_ (q := ix S2 i) (x := x) hSin.1 hSin.2 (by omega) (by omega)
   have enx := hxi.next_ (x := x) (by omega)
   rw [enx] at hat ⊢
   have hml := hm2.1
   obtain ⟨q, eq⟩ := Int.eq_ofNat_of_zero_le hat.2.1
   refine ⟨by omega, by omega, hSin.1, by omega, by omega, by omega, hat.2.1, by omega, ?_⟩
   split
   ·rename_i hmt
    rw [eq] at hmt
    obtain ⟨j, hj, ej⟩ := (hm2.2 q (by omega)).1 hmt
    exact ⟨⟨by omega, by omega⟩, hX2 (x + 1, _) ⟨by dsimp only; omega, hxi.known hk9 hxk' (j := j) (by omega) (by rw [ej, eq]), hm2⟩ rfl⟩
   ·rename_i hmt
    rw [eq] at hmt
    have hn : ∀ j : Nat, j < V.length → ix S2 j ≠ rho d (ix V i ++ [lt x]) := fun j hj e => hmt ((hm2.2 q (by omega)).2 ⟨j, by omega, by rw [e, eq]⟩)
    have hnew := hxi.new hk9 hxk' hn
    have hwl := hxi.wl (ix V i) (J0N (by omega) (by omega))
    rw [J5r (by omega)]
    refine ⟨hat.2.1, by omega, by omega, by omega, ⟨by omega, by omega⟩, by simp; omega, by simp; omega, by simp; omega, ⟨by omega, by omega⟩, hX2 (x + 1, _) ⟨by dsimp only; omega, hnew, hm2.set hat.2.1 hat.2.2⟩ rfl⟩
  ·rename_i hxk
   have hxk' : x = k := by omega
   subst hxk'
   exact ⟨⟨by omega, by omega⟩, hX (i + 1, _) ⟨hxi.yi hk9 D hk, hm2⟩ rfl⟩
 ·rename_i hlt
  have hi : i = W.length := by have := hy.il; omega
  exact h S W (hy.al hi) hy.sl hy.st
def PlaceS (n : Nat) (S : List Int) (c : Nat) (pl : List Int) : Prop := PlaceI n S.length pl ∧ ∀ j : Nat, j < c → ix pl (ix S j) = j
theorem J4G (D : Da d) (hk : (k : Int) = d.Letters) {pl : List Int} {K : DFA → List Int → Prop} (c : CL k (rho d) W (fun _ => True)) (hsl : S.length = W.length) (hst : ∀ j : Nat, j < W.length → ix S j = rho d (ix W j)) (hp : PlaceS d.Final.length S S.length pl)
  (h : ∀ t, Can k (rho d) (acc d) t W → K t pl) : LoopWP (S := Nat × List (List Int) × List Bool) (fun s X => J2M d S pl K (fun a b c => X (a, b, c)) s.1 s.2.1 s.2.2) (0, [], []) := by
 have h1 := D.l1
 have h6 := D.l6
 have hk9 : k < 159 := by omega
 have f2 := D.f2
 have hnx := D.nx
 have hfew := c.few D hk
 have hpl := hp.1.1
 refine LoopWP.to W.length (fun s => s.1) (fun s => s.1 ≤ W.length ∧ RowsOk d k s.1 W s.2.1 s.2.2) ⟨Nat.zero_le _, RowsOk.start⟩ (fun s h => h.1) ?_
 rintro ⟨i, Nx, Fn⟩ X ⟨hi, hr⟩ hX
 try dsimp only at hi hr ⊢
 unfold J2M
 split
 ·rename_i hlt
  have hiW : i < W.length := by omega
  have eS := hst i hiW
  have hSin : 0 ≤ ix S i ∧ ix S i < d.Final.length := by rw [eS]; exact J5x D hk (c.lw hiW)
  refine ⟨by omega, hlt, hSin.1, by omega, fun _ => ?_⟩
  have hrow := (D.at_ (q := ix S i) (x := 0) hSin.1 hSin.2 (by omega) (by omega)).1
  refine LoopWP.to k (fun s => s.1) (fun s => s.1 ≤ k ∧ s.2.length = s.1 ∧ RowI d k i s.1 W s.2) ⟨Nat.zero_le _, rfl, fun y hy => by simp at hy⟩ (fun s h => h.1) ?_
  rintro ⟨x, row⟩ X2 ⟨hx, hrl, hri⟩ hX2
  try dsimp only at hx hrl hri ⊢
  unfold J4c
  split
  ·rename_i hxk
   have hxk' : x < k := by omega
   have hat := D.at_ (q := ix S i) (x := x) hSin.1 hSin.2 (by omega) (by omega)
   have enx : ix (ix d.Next (ix S i)) (x : Int) = rho d (ix W i ++ [lt x]) := by rw [eS]; exact (J2t d d.Start _ (by omega)).symm
   obtain ⟨j, hj, ej⟩ := c.place (LW.app.2 ⟨c.lw hiW, LW.lt hxk' hk9⟩)
   have epl : ix pl (ix (ix d.Next (ix S i)) (x : Int)) = j := by
    rw [enx, ← ej, ← hst j hj]
    exact hp.2 j (by omega)
   refine ⟨by omega, hxk, hat.2.1, by omega, by simp; omega, hX2 (x + 1, _) ⟨by dsimp only; omega, by simp [hrl], fun y hy => ?_⟩ rfl⟩
   dsimp only at hy ⊢
   by_cases hyx : y = x
   ·subst hyx
    rw [ixL' (by omega), epl]
    exact ⟨j, rfl, hj, ej⟩
   ·rw [ixA (by omega)]
    exact hri y (by omega)
  ·rename_i hxk
   have hxk' : x = k := by omega
   subst hxk'
   have hn := hr.nl
   have hf := hr.fl
   have hfin : ix d.Final (ix S i) = acc d (ix W i) := by rw [eS]; rfl
   rw [hfin]
   exact ⟨hSin.1, hSin.2, by simp; omega, by simp; omega, hX (i + 1, _) ⟨by dsimp only; omega, hr.push hrl hri⟩ rfl⟩
 ·rename_i hlt
  have : i = W.length := by omega
  subst this
  exact h _ (hr.can c hk.symm)
theorem J5V (D : Da d) (hk : (k : Int) = d.Letters) {K : DFA → List Int → Prop} (h : ∀ t pl W, Can k (rho d) (acc d) t W → K t pl) : J2z d K := by
 have f2 := D.f2
 unfold J2z
 refine J4W D hk fun S W c hsl hst => ?_
 have hfew := c.few D hk
 have hS : ∀ j : Nat, j < S.length → 0 ≤ ix S j ∧ ix S j < d.Final.length := fun j hj => by rw [hst j (by omega)]; exact J5x D hk (c.lw (by omega))
 refine fun _ => ⟨by omega, by omega, ?_⟩
 refine LoopWP.to d.Final.length (fun s => s.1) (fun s => s.1 ≤ d.Final.length ∧ s.2.length = d.Final.length ∧ ∀ q : Nat, q < s.1 → ix s.2 q = -1) ⟨Nat.zero_le _, by simp, fun q hq => by simp at hq⟩ (fun s h => h.1) ?_
 rintro ⟨a, pl⟩ X ⟨ha, hl, hpl⟩ hX
 try dsimp only at ha hl hpl ⊢
 unfold J4b
 rw [List.length_replicate]
 split
 ·rename_i hlt
  refine ⟨by omega, by omega, ⟨by omega, by omega⟩, hX (a + 1, _) ⟨by dsimp only; omega, by simp [hl], fun q hq => ?_⟩ rfl⟩
  dsimp only at hq ⊢
  rw [ix_st _ (by omega) (by omega) (by omega)]
  split
  ·rfl
  ·exact hpl q (by omega)
 ·refine fun _ => ?_
  refine LoopWP.to S.length (fun s => s.1) (fun s => s.1 ≤ S.length ∧ PlaceS d.Final.length S s.1 s.2) ⟨Nat.zero_le _, ⟨hl, fun q hq => by rw [hpl q (by omega)]; omega⟩, fun j hj => by simp at hj⟩ (fun s h => h.1) ?_
  rintro ⟨b, pl2⟩ X2 ⟨hb, hps⟩ hX2
  try dsimp only at hb hps ⊢
  unfold J4d
  split
  ·rename_i hlt
   have hq := hS b (by omega)
   have hl2 := hps.1.1
   refine ⟨by omega, hlt, hq.1, by omega, hX2 (b + 1, _) ⟨by dsimp only; omega, hps.1.set hq.1 hq.2 (by omega) (by omega), fun j hj => ?_⟩ rfl⟩
   dsimp only at hj ⊢
   have hqj := hS j (by omega)
   rw [ix_st _ hq.1 (by omega) hqj.1]
   by_cases hjb : j = b
   ·subst hjb; rw [if_pos rfl]
   ·rw [if_neg]
    ·exact hps.2 j (by omega)
    ·intro e
     rw [hst j (by omega), hst b (by omega)] at e
     exact hjb (c.inj (by omega) (by omega) e)
  ·rename_i hlt
   have : b = S.length := by omega
   subst this
   exact J4G D hk c hsl hst hps fun t ht => h t pl2 W ht
end
end Sg
namespace Sg
open Go
set_option linter.unusedVariables false
set_option linter.unusedSimpArgs false
section
variable {d : DFA} {k : Nat}
structure ClsI (d : DFA) (k : Nat) (p : List Int) (c : Nat) : Prop where
 len : p.length = d.Final.length
 nmb : Nmb p c
 fin : FinK d p
 hol : Holds k d p
structure ClsOk (d : DFA) (k : Nat) (p : List Int) : Prop where
 len : p.length = d.Final.length
 nmb : ∃ c, Nmb p c
 kp : Keeps k d p
 hol : Holds k d p
theorem ClsI.rg {p : List Int} {c : Nat} (h : ClsI d k p c) {q : Int} (h0 : 0 ≤ q) (h1 : q < d.Final.length) : 0 ≤ ix p q ∧ ix p q < c := by
 obtain ⟨q, rfl⟩ := Int.eq_ofNat_of_zero_le h0
 obtain ⟨a, e, ha⟩ := h.nmb.rg q (by rw [h.len]; omega)
 omega
def keyC (d : DFA) (k : Nat) (p : List Int) (q : Nat) : AN 7 := toAN 7 (ix p q :: ((List.range k).map fun (x : Nat) => ix p (ix (ix d.Next q) (x : Int))) ++ List.replicate (6 - k) 0)
theorem J75 {p : List Int} {q : Nat} (h6 : k ≤ 6) : (ix p q :: ((List.range k).map fun (x : Nat) => ix p (ix (ix d.Next q) (x : Int))) ++ List.replicate (6 - k) 0).length = 7 := by
 simp; omega
theorem J8T (h6 : k ≤ 6) {p : List Int} {q q' : Nat} : keyC d k p q = keyC d k p q' ↔ ix p q = ix p q' ∧ ∀ x : Nat, x < k → ix p (ix (ix d.Next q) x) = ix p (ix (ix d.Next q') x) := by
 constructor
 ·intro h
  have e := J85 (J75 h6) (J75 h6) h
  simp only [List.cons_append, List.cons.injEq] at e
  refine ⟨e.1, fun x hx => ?_⟩
  have e2 := congrArg (fun l : List Int => l[x]?) e.2
  simpa [List.getElem?_append, hx] using e2
 ·rintro ⟨h1, h2⟩
  unfold keyC
  rw [h1]
  congr 3
  apply List.map_congr_left
  intro x hx
  exact h2 x (by simpa using hx)
theorem J6a {p r : List Int} {m : List (AN 7 × Int)} (h6 : k ≤ 6) (hl : p.length = d.Final.length) (h : NumI (keyC d k p) d.Final.length r m) : SplitBy k d p r := fun q q' hq hq' => by
 rw [h.eq (by omega) (by omega)]
 exact J8T h6
theorem J89 {l : List Int} {x : Nat} {v : Int} (hl : l.length = 7) (hx : x < 6) {p : List Int} {q : Nat} (h : l = ix p q :: ((List.range x).map fun (x : Nat) => ix p (ix (ix d.Next q) (x : Int))) ++ List.replicate (6 - x) 0) (hv : v = ix p (ix (ix d.Next q) (x : Int))) :
    st l ((1 : Int) + (x : Int)) v = ix p q :: ((List.range (x + 1)).map fun (x : Nat) => ix p (ix (ix d.Next q) (x : Int))) ++ List.replicate (6 - (x + 1)) 0 := by
  apply List.ext_getElem?
  intro j
  have e : ((1 : Int) + (x : Int)).toNat = x + 1 := by omega
  rw [st, e, List.getElem?_set]
  by_cases hj : x + 1 = j
  · subst hj
    rw [if_pos rfl, if_pos (by omega), hv]
    simp [List.getElem?_append]
  · rw [if_neg hj, h]
    cases j with
    | zero => simp
    | succ j =>
      simp only [List.cons_append, List.getElem?_cons_succ, List.getElem?_append, List.length_map, List.length_range]
      by_cases h1 : j < x
      · rw [if_pos h1, if_pos (by omega)]; simp [h1, show j < x + 1 by omega]
      · rw [if_neg h1, if_neg (by omega)]
        simp only [List.getElem?_replicate]
        by_cases h2 : j < 6
        · rw [if_pos (by omega), if_pos (by omega)]
        · rw [if_neg (by omega), if_neg (by omega)]
theorem J2V (D : Da d) (hk : (k : Int) = d.Letters) {p : List Int} {c : Nat} (hp : ClsI d k p c) {q : Nat} (hq : q < d.Final.length) {r : List Int} {m : List (AN 7 × Int)} (hrl : r.length = d.Final.length) (hn : NumI (keyC d k p) q (r.take q) m) {X : Nat → List Int → List (AN 7 × Int) → Prop} {K : List Int → Prop}
  (h : ∀ r m, r.length = d.Final.length → NumI (keyC d k p) (q + 1) (r.take (q + 1)) m → X (q + 1) r m) :
  LoopWP (S := Nat × List Int) (fun s Y => J0V d p q r m X K (fun a b => Y (a, b)) s.1 s.2) (0, [ix p q, 0, 0, 0, 0, 0, 0]) := by
 have h1 := D.l1
 have h6 := D.l6
 have hnx := D.nx
 have hrow := D.row q (by omega)
 refine LoopWP.to k (fun s => s.1) (fun s => s.1 ≤ k ∧ s.2.length = 7 ∧ s.2 = ix p q :: ((List.range s.1).map fun (x : Nat) => ix p (ix (ix d.Next q) (x : Int))) ++ List.replicate (6 - s.1) 0) ⟨Nat.zero_le _, rfl, rfl⟩ (fun s h => h.1) ?_
 rintro ⟨x, l⟩ Y ⟨hx, hl, hI⟩ hY
 try dsimp only at hx hl hI ⊢
 unfold J0V
 split
 ·rename_i hlt
  have hxk : x < k := by omega
  have hat := D.at_ (q := q) (x := x) (by omega) (by omega) (by omega) (by omega)
  have hpl := hp.len
  exact ⟨by omega, hlt, ⟨by omega, by omega⟩, hat.2.1, by omega, hl, by omega, by omega, hY (x + 1, _) ⟨by dsimp only; omega, by simp [hl], J89 hl (by omega) hI rfl⟩ rfl⟩
 ·rename_i hlt
  have hxk : x = k := by omega
  subst hxk
  have ek : toAN 7 l = keyC d x p q := by rw [hI]; rfl
  rw [ek]
  refine ⟨hl, ?_⟩
  have tk : ∀ v : Int, (st r (q : Int) v).take (q + 1) = r.take q ++ [v] := fun v => J6r (by omega)
  split
  ·rename_i hm
   exact ⟨by omega, by omega, h _ _ (by simp [hrl]) (by rw [tk]; exact hn.old hm)⟩
  ·rename_i hm
   exact ⟨hl, by omega, by omega, h _ _ (by simp [hrl]) (by rw [tk]; exact hn.new hm)⟩
theorem J1m (D : Da d) (hk : (k : Int) = d.Letters) {K : List Int → Prop} (h : ∀ p, ClsOk d k p → K p) {p : List Int} {c : Nat} (hp : ClsI d k p c) :
  LoopWP (S := List Int × Int) (fun s X => J0T d K (fun a b => X (a, b)) s.1 s.2) (p, (c : Int)) := by
 have h1 := D.l1
 have h6 := D.l6
 have f2 := D.f2
 have hnx := D.nx
 refine LoopWP.intro (fun s => ∃ c : Nat, s.2 = (c : Int) ∧ ClsI d k s.1 c) (fun s => d.Final.length - s.2.toNat) ⟨c, rfl, hp⟩ ?_
 rintro ⟨p, c'⟩ X ⟨c, hc, hp⟩ hX
 try dsimp only at hc hp ⊢
 subst hc
 have hpl := hp.len
 have hcn := hp.nmb.le
 unfold J0T
 refine fun _ => ⟨by omega, by omega, fun _ => ?_⟩
 refine LoopWP.to d.Final.length (fun s => s.1) (fun s => s.1 ≤ d.Final.length ∧ s.2.1.length = d.Final.length ∧ NumI (keyC d k p) s.1 (s.2.1.take s.1) s.2.2) ⟨Nat.zero_le _, by simp [hpl], NumI.start⟩ (fun s h => h.1) ?_
 rintro ⟨q, r, m⟩ X2 ⟨hq, hrl, hn⟩ hX2
 try dsimp only at hq hrl hn ⊢
 unfold J1W
 split
 ·rename_i hlt
  have hq' : q < d.Final.length := by omega
  exact ⟨by omega, hlt, by omega, by omega, rfl, fun _ => J2V D hk hp hq' hrl hn fun r m h1 h2 => hX2 (q + 1, r, m) ⟨hq', h1, h2⟩ rfl⟩
 ·rename_i hlt
  have : q = d.Final.length := by omega
  subst this
  rw [List.take_of_length_le (by omega)] at hn
  have hs := J6a (by omega) hpl hn
  have hpr : p.length = r.length := by omega
  have hfin := hs.fin hpr hp.fin
  have hhol := hs.holds hpr D hk hpl hp.hol
  split
  ·rename_i e
   have e : m.length = c := by omega
   exact h r ⟨hrl, ⟨_, hn.nmb⟩, hs.keeps hpr D hk hpl hp.fin hp.nmb (by rw [← e]; exact hn.nmb), hhol⟩
  ·rename_i e
   have := hp.nmb.finer hn.nmb hpr (hs.fin2 hpr)
   have hmn := hn.nmb.le
   exact hX (r, (m.length : Int)) ⟨m.length, rfl, hrl, hn.nmb, hfin, hhol⟩ (by dsimp only; omega)
theorem J6k (D : Da d) {p : List Int} {c : Nat} (hl : p.length = d.Final.length) (hp : ∀ q : Nat, q < d.Final.length → ix p q = if ix d.Final q = ix d.Final 0 then 0 else 1) (hc : c = if (∃ q : Nat, q < d.Final.length ∧ ix d.Final q ≠ ix d.Final 0) then 2 else 1) : ClsI d k p c := by
 have f1 := D.f1
 have h00 : ix p ((0 : Nat) : Int) = 0 := by rw [hp 0 (by omega)]; exact if_pos rfl
 have hfin : FinK d p := fun q q' hq hq' e => by
  rw [hp q (by omega), hp q' (by omega)] at e
  by_cases h1 : ix d.Final q = ix d.Final 0 <;> by_cases h2 : ix d.Final q' = ix d.Final 0
  ·rw [h1, h2]
  ·rw [if_pos h1, if_neg h2] at e; omega
  ·rw [if_neg h1, if_pos h2] at e; omega
  ·revert h1 h2
   cases ix d.Final (q : Int) <;> cases ix d.Final (q' : Int) <;> cases ix d.Final 0 <;> simp
 refine ⟨hl, ⟨fun q hq => ?_, fun a ha => ?_, fun q a hq ha => ?_⟩, hfin, fun q q' hq hq' e => ?_⟩
 ·rw [hp q (by omega)]
  split
  ·exact ⟨0, rfl, by rw [hc]; split <;> omega⟩
  ·rename_i hne
   exact ⟨1, rfl, by rw [hc, if_pos ⟨q, by omega, hne⟩]; omega⟩
 ·by_cases ha0 : a = 0
  ·subst ha0; exact ⟨0, by omega, h00⟩
  ·by_cases hx : ∃ q : Nat, q < d.Final.length ∧ ix d.Final q ≠ ix d.Final 0
   ·rw [if_pos hx] at hc
    obtain ⟨q, h1, h2⟩ := hx
    refine ⟨q, by omega, ?_⟩
    rw [hp q h1, if_neg h2]; omega
   ·rw [if_neg hx] at hc; omega
 ·rw [hp q (by omega)] at ha
  split at ha
  ·omega
  ·rename_i hne
   have h0q : 0 < q := by
    rcases Nat.eq_zero_or_pos q with h0 | h0
    ·subst h0; exact absurd rfl hne
    ·exact h0
   have ha0 : a = 0 := by omega
   subst ha0
   exact ⟨0, h0q, h00⟩
 ·have := congrFun e ⟨[], LW.nil k⟩
  simp only [beh, J7H] at this
  rw [hp q (by omega), hp q' (by omega), this]
theorem J3J (D : Da d) (hk : (k : Int) = d.Letters) {K : List Int → Prop} (h : ∀ p, ClsOk d k p → K p) : J0z d K := by
 have f1 := D.f1
 have f2 := D.f2
 unfold J0z
 refine J12 ?_
 rw [if_pos (daC0.2 (J26.2 D))]
 refine fun _ => ⟨by omega, by omega, ?_⟩
 refine LoopWP.to d.Final.length (fun s => s.2.1) (fun s => s.2.1 ≤ d.Final.length ∧ s.2.2.length = d.Final.length ∧ (∀ q : Nat, q < d.Final.length → ix s.2.2 q = if q < s.2.1 ∧ ix d.Final q ≠ ix d.Final 0 then 1 else 0) ∧ s.1 = (if (∃ q : Nat, q < s.2.1 ∧ ix d.Final q ≠ ix d.Final 0) then 2 else 1 : Int)) ⟨Nat.zero_le _, by simp, fun q hq => ?_, ?_⟩ (fun s h => h.1) ?_
 ·rw [J0j _ _ hq]; simp
 ·rw [if_neg]; rintro ⟨q, hq, _⟩; simp at hq
 rintro ⟨c, a, p⟩ X ⟨ha, hl, hp, hc⟩ hX
 try dsimp only at ha hl hp hc ⊢
 unfold J29
 split
 ·rename_i hlt
  have halt : a < d.Final.length := by omega
  have old : ix d.Final a = ix d.Final 0 → X (c, a + 1, p) := fun e => hX (c, a + 1, p) ⟨halt, hl, fun q hq => by
   rw [hp q hq]
   by_cases hqa : q = a
   ·subst hqa; rw [if_neg (by simp [e]), if_neg (by simp [e])]
   ·by_cases hq2 : q < a ∧ ix d.Final q ≠ ix d.Final 0
    ·rw [if_pos hq2, if_pos ⟨by dsimp only; omega, hq2.2⟩]
    ·rw [if_neg hq2, if_neg (fun hh => hq2 ⟨by have := hh.1; dsimp only at this; omega, hh.2⟩)], by
   dsimp only
   rw [hc]
   by_cases hx : ∃ q : Nat, q < a ∧ ix d.Final q ≠ ix d.Final 0
   ·rw [if_pos hx, if_pos (by obtain ⟨q, h1, h2⟩ := hx; exact ⟨q, by omega, h2⟩)]
   ·rw [if_neg hx, if_neg (by
     rintro ⟨q, h1, h2⟩
     by_cases hqa : q = a
     ·subst hqa; exact h2 e
     ·exact hx ⟨q, by omega, h2⟩)]⟩ rfl
  have new : ix d.Final a ≠ ix d.Final 0 → X (2, a + 1, st p (a : Int) 1) := fun e => hX (2, a + 1, _) ⟨halt, by simp [hl], fun q hq => by
   dsimp only
   rw [ix_st _ (by omega) (by omega) (by omega)]
   by_cases hqa : q = a
   ·subst hqa; rw [if_pos rfl, if_pos ⟨by omega, e⟩]
   ·rw [if_neg (by omega), hp q hq]
    by_cases hq2 : q < a ∧ ix d.Final q ≠ ix d.Final 0
    ·rw [if_pos hq2, if_pos ⟨by omega, hq2.2⟩]
    ·rw [if_neg hq2, if_neg (fun hh => hq2 ⟨by omega, hh.2⟩)], by
   dsimp only
   rw [if_pos ⟨a, by omega, e⟩]⟩ rfl
  refine ⟨by omega, by omega, ?_⟩
  split
  ·rename_i ht
   refine ⟨by omega, by omega, ?_⟩
   split
   ·rename_i h0; exact old (by rw [ht, h0])
   ·rename_i h0; exact ⟨by omega, by omega, new (by rw [ht]; exact fun hh => h0 hh.symm)⟩
  ·rename_i ht
   refine ⟨by omega, by omega, ?_⟩
   split
   ·rename_i h0; exact ⟨by omega, by omega, new (by rw [h0]; exact ht)⟩
   ·rename_i h0; exact old (by rw [Bool.eq_false_iff.2 ht, Bool.eq_false_iff.2 h0])
 ·rename_i hlt
  have hae : a = d.Final.length := by omega
  subst hae
  have hp' : ∀ q : Nat, q < d.Final.length → ix p q = if ix d.Final q = ix d.Final 0 then 0 else 1 := fun q hq => by
   rw [hp q hq]
   by_cases e : ix d.Final q = ix d.Final 0
   ·rw [if_pos e, if_neg (fun hh => hh.2 e)]
   ·rw [if_neg e, if_pos ⟨hq, e⟩]
  by_cases hx : ∃ q : Nat, q < d.Final.length ∧ ix d.Final q ≠ ix d.Final 0
  ·rw [if_pos hx] at hc
   subst hc
   exact J1m D hk h (c := 2) (J6k D hl hp' (by rw [if_pos hx]))
  ·rw [if_neg hx] at hc
   subst hc
   exact J1m D hk h (c := 1) (J6k D hl hp' (by rw [if_neg hx]))
end
theorem J39 {l : List Int} {K : List Int → Prop} (hl : l.length ≤ 1000000000) (h : ∀ r m, NumI (fun j => ix l (j : Int)) l.length r m → K r) : J0Y l K := by
 unfold J0Y
 refine fun _ => ⟨by omega, by omega, ?_⟩
 refine LoopWP.to l.length (fun s => s.1) (fun s => s.1 ≤ l.length ∧ s.2.1.length = l.length ∧ NumI (fun j => ix l (j : Int)) s.1 (s.2.1.take s.1) s.2.2) ⟨Nat.zero_le _, by simp, NumI.start⟩ (fun s h => h.1) ?_
 rintro ⟨q, r, m⟩ X ⟨hq, hrl, hn⟩ hX
 try dsimp only at hq hrl hn ⊢
 unfold J32
 split
 ·rename_i hlt
  have tk : ∀ v : Int, (st r (q : Int) v).take (q + 1) = r.take q ++ [v] := fun v => J6r (by omega)
  refine ⟨by omega, hlt, ?_⟩
  split
  ·rename_i hm
   exact ⟨by omega, by omega, hX (q + 1, _) ⟨by dsimp only; omega, by simp [hrl], by dsimp only; rw [tk]; exact hn.old hm⟩ rfl⟩
  ·rename_i hm
   exact ⟨by omega, by omega, hX (q + 1, _) ⟨by dsimp only; omega, by simp [hrl], by dsimp only; rw [tk]; exact hn.new hm⟩ rfl⟩
 ·have : q = l.length := by omega
  subst this
  rw [List.take_of_length_le (by omega)] at hn
  exact h r m hn
theorem J60 {p q : List Int} {n : Nat} {K : List Int → Prop} (hn : n ≤ 512) (hp : p.length = n) (hq : q.length = n) (bp : ∀ j : Nat, j < n → 0 ≤ ix p j ∧ ix p j < 512) (bq : ∀ j : Nat, j < n → 0 ≤ ix q j ∧ ix q j < n)
  (h : ∀ r c, r.length = n → Nmb r c → (∀ i j : Nat, i < n → j < n → (ix r i = ix r j ↔ ix p i = ix p j ∧ ix q i = ix q j)) → K r) : J2B p q K := by
 unfold J2B
 refine fun _ => ⟨by omega, by omega, ?_⟩
 refine LoopWP.to n (fun s => s.1) (fun s => s.1 ≤ n ∧ s.2.length = n ∧ ∀ j : Nat, j < s.1 → ix s.2 j = ix p j * (n + 1 : Int) + ix q j) ⟨Nat.zero_le _, by simp [hp], fun j hj => by simp at hj⟩ (fun s h => h.1) ?_
 rintro ⟨a, o⟩ X ⟨ha, hol, hI⟩ hX
 try dsimp only at ha hol hI ⊢
 unfold J45
 split
 ·rename_i hlt
  have hb := bp a (by omega)
  have hb2 := bq a (by omega)
  have hmul : 0 ≤ ix p (a : Int) * (n + 1 : Int) ∧ ix p (a : Int) * (n + 1 : Int) ≤ 512 * 513 :=
   ⟨Int.mul_nonneg hb.1 (by omega), Int.mul_le_mul (by omega) (by omega) (by omega) (by omega)⟩
  have ep : ((p.length : Int) + 1) = (n : Int) + 1 := by omega
  rw [ep]
  refine ⟨by omega, hlt, ⟨by omega, by omega⟩, ⟨by omega, by omega⟩, by omega, by omega, ⟨by omega, by omega⟩, by omega, by omega, hX (a + 1, _) ⟨by dsimp only; omega, by simp [hol], fun j hj => ?_⟩ rfl⟩
  dsimp only at hj ⊢
  rw [ix_st _ (by omega) (by omega) (by omega)]
  by_cases hja : j = a
  ·subst hja; rw [if_pos rfl]
  ·rw [if_neg (by omega)]; exact hI j (by omega)
 ·have : a = n := by omega
  subst this
  refine J39 (by omega) fun r m hr => ?_
  rw [hol] at hr
  refine h r _ hr.len hr.nmb fun i j hi hj => ?_
  rw [hr.eq hi hj, hI i hi, hI j hj]
  have b1 := bq i hi
  have b2 := bq j hj
  constructor
  ·intro e
   have e1 : ix p (i : Int) = ix p (j : Int) := by
    rcases Int.lt_trichotomy (ix p (i : Int)) (ix p (j : Int)) with hlt | heq | hlt
    ·have := Int.mul_le_mul_of_nonneg_right (show ix p (i : Int) + 1 ≤ ix p (j : Int) by omega) (show (0 : Int) ≤ (a : Int) + 1 by omega)
     rw [Int.add_mul] at this
     omega
    ·exact heq
    ·have := Int.mul_le_mul_of_nonneg_right (show ix p (j : Int) + 1 ≤ ix p (i : Int) by omega) (show (0 : Int) ≤ (a : Int) + 1 by omega)
     rw [Int.add_mul] at this
     omega
   rw [e1] at e
   exact ⟨e1, by omega⟩
  ·rintro ⟨e1, e2⟩; rw [e1, e2]
section
variable {d : DFA} {k : Nat}
structure PartX (d : DFA) (p : List Int) (x : Nat) (r : List Int) : Prop where
 len : r.length = d.Final.length
 nmb : ∃ c, Nmb r c
 eq : ∀ i j : Nat, i < d.Final.length → j < d.Final.length → (ix r i = ix r j ↔ ix p i = ix p j ∧ ∀ y : Nat, y < x → ix p (ix (ix d.Next i) y) = ix p (ix (ix d.Next j) y))
theorem J3F (D : Da d) (hk : (k : Int) = d.Letters) {p r : List Int} {c x : Nat} (hp : ClsI d k p c) (hr : PartX d p x r) (hx : x < k) {X : List Int → Nat → Prop} {K : List Int → Prop} (h : ∀ r, PartX d p (x + 1) r → X r (x + 1)) :
  LoopWP (S := Nat × List Int) (fun s Y => J1G d p r x X K (fun a b => Y (a, b)) s.1 s.2) (0, []) := by
 have h1 := D.l1
 have h6 := D.l6
 have f2 := D.f2
 have hnx := D.nx
 have hpl := hp.len
 have hcn := hp.nmb.le
 refine LoopWP.to d.Final.length (fun s => s.1) (fun s => s.1 ≤ d.Final.length ∧ s.2.length = s.1 ∧ ∀ q : Nat, q < s.1 → ix s.2 q = ix p (ix (ix d.Next q) (x : Int))) ⟨Nat.zero_le _, rfl, fun j hj => by simp at hj⟩ (fun s h => h.1) ?_
 rintro ⟨a, o⟩ Y ⟨ha, hol, hI⟩ hY
 try dsimp only at ha hol hI ⊢
 unfold J1G
 split
 ·rename_i hlt
  have hat := D.at_ (q := a) (x := x) (by omega) (by omega) (by omega) (by omega)
  refine ⟨by omega, by omega, by omega, by omega, hat.2.1, by omega, by simp; omega, hY (a + 1, _) ⟨by dsimp only; omega, by simp [hol], fun q hq => ?_⟩ rfl⟩
  dsimp only at hq ⊢
  by_cases hqa : q = a
  ·subst hqa; rw [ixL' (by omega)]
  ·rw [ixA (by omega)]; exact hI q (by omega)
 ·have : a = d.Final.length := by omega
  subst this
  obtain ⟨c2, hc2⟩ := hr.nmb
  have hrl := hr.len
  have hc2n := hc2.le
  refine J60 (n := d.Final.length) f2 hr.len hol (fun j hj => ?_) (fun j hj => ?_) fun r2 c3 h1 h2 h3 => ⟨⟨by omega, by omega⟩, h r2 ⟨h1, ⟨c3, h2⟩, fun i j hi hj => ?_⟩⟩
  ·obtain ⟨b, e, hb⟩ := hc2.rg j (by omega)
   omega
  ·rw [hI j hj]
   have hat := D.at_ (q := j) (x := x) (by omega) (by omega) (by omega) (by omega)
   have := hp.rg hat.2.1 hat.2.2
   omega
  ·rw [h3 i j hi hj, hr.eq i j hi hj, hI i hi, hI j hj]
   constructor
   ·rintro ⟨⟨e1, e2⟩, e3⟩
    refine ⟨e1, fun y hy => ?_⟩
    by_cases hyx : y = x
    ·subst hyx; exact e3
    ·exact e2 y (by omega)
   ·rintro ⟨e1, e2⟩
    exact ⟨⟨e1, fun y hy => e2 y (by omega)⟩, e2 x (by omega)⟩
theorem J3B (D : Da d) (hk : (k : Int) = d.Letters) {K : List Int → Prop} (h : ∀ p, ClsOk d k p → K p) {p : List Int} {c : Nat} (hp : ClsI d k p c) :
  LoopWP (S := List Int) (fun s X => J1H d K X s) p := by
 classical
 have h1 := D.l1
 have h6 := D.l6
 have f2 := D.f2
 refine LoopWP.intro (fun s => ∃ c : Nat, ClsI d k s c) (fun s => d.Final.length - (if hx : ∃ c, Nmb s c then Classical.choose hx else 0)) ⟨c, hp⟩ ?_
 rintro p X ⟨c, hp⟩ hX
 have cu : ∀ {s : List Int} {c : Nat}, Nmb s c → (if hx : ∃ c, Nmb s c then Classical.choose hx else 0) = c := fun {s c} hs => by
  have hx : ∃ c, Nmb s c := ⟨c, hs⟩
  rw [dif_pos hx]
  have hs2 := Classical.choose_spec hx
  have e1 := hs.finer hs2 rfl (fun _ _ _ _ e => e)
  have e2 := hs2.finer hs rfl (fun _ _ _ _ e => e)
  omega
 unfold J1H
 refine LoopWP.to k (fun s => s.2) (fun s => s.2 ≤ k ∧ PartX d p s.2 s.1) ⟨Nat.zero_le _, hp.len, ⟨c, hp.nmb⟩, fun i j hi hj => by simp⟩ (fun s h => h.1) ?_
 rintro ⟨r, x⟩ X2 ⟨hx, hr⟩ hX2
 try dsimp only at hx hr ⊢
 unfold J2S
 split
 ·rename_i hlt
  exact fun _ => J3F D hk hp hr (by omega) fun r hr => hX2 (r, x + 1) ⟨by dsimp only; omega, hr⟩ rfl
 ·rename_i hlt
  have : x = k := by omega
  subst this
  have hs : SplitBy x d p r := fun q q' hq hq' => hr.eq q q' (by rw [← hp.len]; exact hq) (by rw [← hp.len]; exact hq')
  have hpr : p.length = r.length := by rw [hp.len, hr.len]
  refine J1P ?_
  split
  ·rename_i e
   have e : r = p := by simpa using e
   subst e
   exact h r ⟨hp.len, ⟨c, hp.nmb⟩, hs.keeps' hp.fin, hp.hol⟩
  ·rename_i e
   have e : r ≠ p := by simpa using e
   obtain ⟨c2, hc2⟩ := hr.nmb
   have := hs.more hpr hp.nmb hc2 e
   have hcn := hc2.le
   have hrl := hr.len
   refine hX r ⟨c2, hr.len, hc2, hs.fin hpr hp.fin, hs.holds hpr D hk hp.len hp.hol⟩ ?_
   rw [cu hp.nmb, cu hc2]
   omega
theorem J4M (D : Da d) (hk : (k : Int) = d.Letters) {K : List Int → Prop} (h : ∀ p, ClsOk d k p → K p) : J1f d K := by
 have f1 := D.f1
 have f2 := D.f2
 unfold J1f
 refine fun _ => ⟨by omega, by omega, ?_⟩
 refine LoopWP.to d.Final.length (fun s => s.1) (fun s => s.1 ≤ d.Final.length ∧ s.2.length = d.Final.length ∧ ∀ q : Nat, q < d.Final.length → ix s.2 q = if q < s.1 ∧ ix d.Final q = true then 1 else 0) ⟨Nat.zero_le _, by simp, fun q hq => ?_⟩ (fun s h => h.1) ?_
 ·rw [J0j _ _ hq]; simp
 rintro ⟨a, p⟩ X ⟨ha, hl, hp⟩ hX
 try dsimp only at ha hl hp ⊢
 unfold J2Q
 rw [List.length_replicate]
 split
 ·rename_i hlt
  refine ⟨by omega, by omega, ?_⟩
  split
  ·rename_i ht
   refine ⟨by omega, by omega, ⟨by omega, by omega⟩, hX (a + 1, _) ⟨by dsimp only; omega, by simp [hl], fun q hq => ?_⟩ rfl⟩
   dsimp only
   rw [ix_st _ (by omega) (by omega) (by omega)]
   by_cases hqa : q = a
   ·subst hqa; rw [if_pos rfl, if_pos ⟨by omega, ht⟩]
   ·rw [if_neg (by omega), hp q hq]
    by_cases hq2 : q < a ∧ ix d.Final q = true
    ·rw [if_pos hq2, if_pos ⟨by omega, hq2.2⟩]
    ·rw [if_neg hq2, if_neg (fun hh => hq2 ⟨by omega, hh.2⟩)]
  ·rename_i ht
   refine ⟨⟨by omega, by omega⟩, hX (a + 1, _) ⟨by dsimp only; omega, hl, fun q hq => ?_⟩ rfl⟩
   dsimp only
   rw [hp q hq]
   by_cases hqa : q = a
   ·subst hqa; rw [if_neg (fun hh => ht hh.2), if_neg (fun hh => ht hh.2)]
   ·by_cases hq2 : q < a ∧ ix d.Final q = true
    ·rw [if_pos hq2, if_pos ⟨by omega, hq2.2⟩]
    ·rw [if_neg hq2, if_neg (fun hh => hq2 ⟨by omega, hh.2⟩)]
 ·have : a = d.Final.length := by omega
  subst this
  refine J39 (by omega) fun r m hr => ?_
  rw [hl] at hr
  have e : ∀ i j : Nat, i < d.Final.length → j < d.Final.length → (ix r i = ix r j ↔ ix d.Final i = ix d.Final j) := fun i j hi hj => by
   rw [hr.eq hi hj, hp i hi, hp j hj]
   cases h1 : ix d.Final (i : Int) <;> cases h2 : ix d.Final (j : Int) <;> simp [hi, hj]
  exact J3B D hk h (c := m.length) ⟨hr.len, hr.nmb, fun q q' hq hq' he => (e q q' (by rw [← hr.len]; exact hq) (by rw [← hr.len]; exact hq')).1 he, fun q q' hq hq' he => by
   have := congrFun he ⟨[], LW.nil k⟩
   simp only [beh, J7H] at this
   exact (e q q' (by rw [← hr.len]; exact hq) (by rw [← hr.len]; exact hq')).2 this⟩
end
end Sg
namespace Sg
open Go
set_option linter.unusedVariables false
set_option linter.unusedSimpArgs false
section
variable {d : DFA} {k : Nat} {p : List Int}
structure QuoI (d : DFA) (k : Nat) (p : List Int) (q : Nat) (Nx : List (List Int)) (Fn : List Bool) : Prop where
 nl : Nx.length = Fn.length
 rg : ∀ j : Nat, j < q → ix p j < Fn.length
 on : ∀ a : Nat, a < Fn.length → ∃ j : Nat, j < q ∧ ix p j = a ∧ ix Fn a = ix d.Final j ∧ (ix Nx a).length = k ∧ ∀ x : Nat, x < k → ix (ix Nx a) x = ix p (ix (ix d.Next j) x)
variable {q : Nat} {Nx : List (List Int)} {Fn : List Bool} {row : List Int}
theorem QuoI.start : QuoI d k p 0 [] [] := ⟨rfl, fun j h => by omega, fun a h => by simp at h⟩
theorem QuoI.skip (h : QuoI d k p q Nx Fn) (hq : ix p q < Fn.length) : QuoI d k p (q + 1) Nx Fn :=
 ⟨h.nl, fun j hj => by
  by_cases e : j = q
  ·subst e; exact hq
  ·exact h.rg j (by omega), fun a ha => by
  obtain ⟨j, h1, h2⟩ := h.on a ha
  exact ⟨j, by omega, h2⟩⟩
theorem QuoI.next (h : QuoI d k p q Nx Fn) {c : Nat} (hp : Nmb p c) (hq : q < p.length) (hn : ¬ ix p q < Fn.length) : ix p q = Fn.length := by
 obtain ⟨a, ea, ha⟩ := hp.rg q hq
 rcases Nat.lt_or_ge Fn.length a with hlt | hge
 ·obtain ⟨j, hj, e⟩ := hp.fst q Fn.length hq (by omega)
  have := h.rg j hj
  omega
 ·omega
theorem QuoI.push (h : QuoI d k p q Nx Fn) (e : ix p q = Fn.length) (hl : row.length = k) (hr : ∀ x : Nat, x < k → ix row x = ix p (ix (ix d.Next q) x)) : QuoI d k p (q + 1) (Nx ++ [row]) (Fn ++ [ix d.Final q]) := by
 have hn := h.nl
 refine ⟨by simp [hn], fun j hj => ?_, fun a ha => ?_⟩
 ·by_cases hjq : j = q
  ·subst hjq; rw [e]; simp; omega
  ·have := h.rg j (by omega); simp; omega
 ·simp only [List.length_append, List.length_singleton] at ha
  by_cases haF : a < Fn.length
  ·obtain ⟨j, h1, h2, h3, h4, h5⟩ := h.on a haF
   refine ⟨j, by omega, h2, by rw [ixA haF]; exact h3, by rw [ixA (by omega)]; exact h4, fun x hx => by rw [ixA (by omega)]; exact h5 x hx⟩
  ·have : a = Fn.length := by omega
   subst this
   exact ⟨q, by omega, e, by rw [ixL], by rw [ixL' (by omega)]; exact hl, fun x hx => by rw [ixL' (by omega)]; exact hr x hx⟩
theorem QuoI.quo (h : QuoI d k p p.length Nx Fn) {c : Nat} (hp : Nmb p c) {l s : Int} (hl : l = k) (hs : s = ix p d.Start) : Quo k d p ⟨l, s, Fn, Nx⟩ :=
 ⟨hl, hs, h.nl, fun q hq => by
  obtain ⟨a, e, ha⟩ := hp.rg q hq
  have := h.rg q hq
  exact ⟨a, e, by show a < Fn.length; omega⟩, fun a ha => by
  obtain ⟨j, h1, h2⟩ := h.on a ha
  exact ⟨j, h1, h2⟩⟩
theorem QuoI.few (h : QuoI d k p q Nx Fn) (hq : q ≤ p.length) : Fn.length ≤ p.length := by
 apply Classical.byContradiction
 intro hc
 have rep : ∀ a : Nat, ∃ j : Nat, a < Fn.length → j < q ∧ ix p j = a := fun a => by
  by_cases ha : a < Fn.length
  ·obtain ⟨j, h1, h2, _⟩ := h.on a ha; exact ⟨j, fun _ => ⟨h1, h2⟩⟩
  ·exact ⟨0, fun h => absurd h ha⟩
 obtain ⟨f, hf⟩ := Classical.axiomOfChoice rep
 obtain ⟨a, b, h1, h2, e⟩ := pigeon p.length (fun m => (f m : Int)) fun m hm => by have := (hf m (by omega)).1; omega
 have ea := (hf a (by omega)).2
 have eb := (hf b (by omega)).2
 have : f a = f b := by have e : (f a : Int) = (f b : Int) := e; omega
 rw [this] at ea
 omega
theorem J5A {Q m : DFA} {W : List Str} (D : Da d) (hk : (k : Int) = d.Letters) (hc : ClsOk d k p) (hQ : Quo k d p Q) (c : Can k (rho Q) (acc Q) m W) : Can k (nero d k) (acc d) m W :=
 hQ.can hc.kp hc.hol D hk hc.len c
theorem J6I {t m : DFA} {V W : List Str} (D : Da d) (hk : (k : Int) = d.Letters) (c : Can k (rho d) (acc d) t V) (h : Can k (nero t k) (acc t) m W) : Can k (nero d k) (acc d) m W :=
 Can.trim D hk (by have := D.l6; omega) c h
end
section
variable {d : DFA} {k : Nat}
theorem J9c (D : Da d) (hk : (k : Int) = d.Letters) {t : DFA} {W : List Str} (c : Can k (rho d) (acc d) t W) : Da t :=
 c.da (by have := D.l1; omega) (by have := D.l6; omega) (by have := c.cl.few D hk; have := D.f2; omega)
theorem J3G (D : Da d) (hk : (k : Int) = d.Letters) {K : DFA → List Int → Prop} (h : ∀ m W s, Can k (nero d k) (acc d) m W → K m s) : J0y d K := by
 have h1 := D.l1
 have h6 := D.l6
 have f2 := D.f2
 unfold J0y
 refine J4U D hk fun t pl V ct hpl => ?_
 have Dt := J9c D hk ct
 have hkt : (k : Int) = t.Letters := ct.le.symm
 have f2t := Dt.f2
 have nxt := Dt.nx
 refine J3J Dt hkt fun p hp => ?_
 obtain ⟨c, hpc⟩ := hp.nmb
 have hplen := hp.len
 have hVf : V.length = t.Final.length := ct.fl.symm
 refine fun _ => ?_
 refine LoopWP.to p.length (fun s => s.1) (fun s => s.1 ≤ p.length ∧ QuoI t k p s.1 s.2.1 s.2.2) ⟨Nat.zero_le _, QuoI.start⟩ (fun s h => h.1) ?_
 rintro ⟨q, Nx, Fn⟩ X ⟨hq, hI⟩ hX
 try dsimp only at hq hI ⊢
 have hfew := hI.few hq
 have hnl := hI.nl
 unfold J28
 split
 ·rename_i hlt
  have hq' : q < p.length := by omega
  refine ⟨by omega, hlt, ?_⟩
  split
  ·rename_i hc2
   exact hX (q + 1, _) ⟨by dsimp only; omega, hI.skip hc2⟩ rfl
  ·rename_i hc2
   have e := hI.next hpc hq' hc2
   have hrow := Dt.row q (by omega)
   refine ⟨by omega, by omega, by omega, by omega, fun _ => ?_⟩
   have hkn : d.Letters.toNat = k := by omega
   refine LoopWP.to k (fun s => s.1) (fun s => s.1 ≤ k ∧ s.2.length = k ∧ ∀ x : Nat, x < s.1 → ix s.2 x = ix p (ix (ix t.Next q) x)) ⟨Nat.zero_le _, by simp [hkn], fun x hx => by simp at hx⟩ (fun s h => h.1) ?_
   rintro ⟨x, row⟩ X2 ⟨hx, hrl, hri⟩ hX2
   try dsimp only at hx hrl hri ⊢
   unfold J1Z
   split
   ·rename_i hxk
    have hat := Dt.at_ (q := q) (x := x) (by omega) (by omega) (by omega) (by omega)
    refine ⟨by omega, hxk, hat.2.1, by omega, by omega, by omega, hX2 (x + 1, _) ⟨by dsimp only; omega, by simp [hrl], fun y hy => ?_⟩ rfl⟩
    dsimp only at hy ⊢
    rw [ix_st _ (by omega) (by omega) (by omega)]
    by_cases hyx : y = x
    ·subst hyx; rw [if_pos rfl]
    ·rw [if_neg (by omega)]; exact hri y (by omega)
   ·rename_i hxk
    have : x = k := by omega
    subst this
    exact ⟨by omega, by omega, by simp; omega, by simp; omega, hX (q + 1, _) ⟨by dsimp only; omega, hI.push e hrl hri⟩ rfl⟩
 ·rename_i hlt
  have : q = p.length := by omega
  subst this
  have s0 : t.Start = 0 := ct.st
  have hp0 : ix p t.Start = 0 := by
   rw [s0]
   obtain ⟨a, ea, ha⟩ := hpc.rg 0 (by have := Dt.f1; omega)
   rcases Nat.eq_zero_or_pos a with h0 | h0
   ·subst h0; exact ea
   ·obtain ⟨j, hj, _⟩ := hpc.fst 0 0 (by have := Dt.f1; omega) (by omega)
    omega
  have hQ : Quo k t p ⟨d.Letters, 0, Fn, Nx⟩ := hI.quo hpc (by omega) hp0.symm
  have DQ := hQ.da Dt hkt hplen (by show Fn.length ≤ 512; omega)
  refine J4U DQ hk fun m pm W cm hpm => ?_
  have hmin := J6I D hk ct (J5A Dt hkt hp hQ cm)
  have hWF := cm.cl.few DQ hk
  have hpll := hpl.1
  refine fun _ => ⟨by omega, by omega, ?_⟩
  refine LoopWP.to pl.length (fun s => s.1) (fun s => s.1 ≤ pl.length ∧ s.2.length = pl.length) ⟨Nat.zero_le _, by simp⟩ (fun s h => h.1) ?_
  rintro ⟨b, o⟩ X2 ⟨hb, hol⟩ hX2
  try dsimp only at hb hol ⊢
  unfold J2d
  split
  ·rename_i hlt2
   refine ⟨by omega, hlt2, by omega, by omega, ?_⟩
   split
   ·rename_i h0
    have hb2 := hpl.2 b (by omega)
    obtain ⟨a, ea, ha⟩ := hQ.rg (ix pl b).toNat (by omega)
    have e1 : (((ix pl (b : Int)).toNat : Nat) : Int) = ix pl b := by omega
    rw [e1] at ea
    have hpm1 := hpm.1
    rw [ea]
    have ha : a < Fn.length := ha
    have hpm1 : pm.length = Fn.length := hpm1
    exact ⟨h0, by omega, by omega, by omega, by omega, by simp; omega, hX2 (b + 1, _) ⟨by dsimp only; omega, by simp [hol]⟩ rfl⟩
   ·exact hX2 (b + 1, _) ⟨by dsimp only; omega, by simp [hol]⟩ rfl
  ·exact h m W o hmin
theorem J3M (D : Da d) (hk : (k : Int) = d.Letters) {K : DFA → Prop} (h : ∀ m W, Can k (nero d k) (acc d) m W → K m) : J0A d K := by
 unfold J0A
 refine J12 ?_
 rw [if_pos (daC0.2 (J26.2 D))]
 exact J3G D hk fun m W s c => h m W c
theorem J4C (D : Da d) (hk : (k : Int) = d.Letters) {K : DFA → Prop} (h : ∀ m W, Can k (nero d k) (acc d) m W → K m) : J1g d K := by
 have h1 := D.l1
 have h6 := D.l6
 have f2 := D.f2
 have nxt := D.nx
 have s0 := D.s0
 have s1 := D.s1
 unfold J1g
 refine J4M D hk fun p hp => ?_
 obtain ⟨c, hpc⟩ := hp.nmb
 have hplen := hp.len
 refine ⟨s0, by omega, fun _ => ?_⟩
 refine LoopWP.to p.length (fun s => s.2.1) (fun s => s.2.1 ≤ p.length ∧ QuoI d k p s.2.1 s.2.2.1 s.2.2.2 ∧ s.1 = s.2.2.2.length) ⟨Nat.zero_le _, QuoI.start, rfl⟩ (fun s h => h.1) ?_
 rintro ⟨n, q, Nx, Fn⟩ X ⟨hq, hI, hn⟩ hX
 try dsimp only at hq hI hn ⊢
 subst hn
 have hfew := hI.few hq
 have hnl := hI.nl
 unfold J2T
 split
 ·rename_i hlt
  have hq' : q < p.length := by omega
  refine ⟨by omega, hlt, ?_⟩
  split
  ·rename_i e
   have hrow := D.row q (by omega)
   refine ⟨⟨by omega, by omega⟩, by omega, by omega, fun _ => ?_⟩
   refine LoopWP.to k (fun s => s.1) (fun s => s.1 ≤ k ∧ s.2.length = s.1 ∧ ∀ x : Nat, x < s.1 → ix s.2 x = ix p (ix (ix d.Next q) x)) ⟨Nat.zero_le _, rfl, fun x hx => by simp at hx⟩ (fun s h => h.1) ?_
   rintro ⟨x, row⟩ X2 ⟨hx, hrl, hri⟩ hX2
   try dsimp only at hx hrl hri ⊢
   unfold J2O
   split
   ·rename_i hxk
    have hat := D.at_ (q := q) (x := x) (by omega) (by omega) (by omega) (by omega)
    refine ⟨by omega, hxk, hat.2.1, by omega, by simp; omega, hX2 (x + 1, _) ⟨by dsimp only; omega, by simp [hrl], fun y hy => ?_⟩ rfl⟩
    dsimp only at hy ⊢
    by_cases hyx : y = x
    ·subst hyx; rw [ixL' (by omega)]
    ·rw [ixA (by omega)]; exact hri y (by omega)
   ·rename_i hxk
    have : x = k := by omega
    subst this
    exact ⟨by omega, by omega, by simp; omega, by simp; omega, hX (Fn.length + 1, q + 1, _) ⟨by dsimp only; omega, hI.push e hrl hri, by simp⟩ rfl⟩
  ·rename_i e
   have hc2 : ix p q < Fn.length := by
    apply Classical.byContradiction
    intro hc2
    exact e (hI.next hpc hq' hc2)
   exact hX (Fn.length, q + 1, _) ⟨by dsimp only; omega, hI.skip hc2, rfl⟩ rfl
 ·rename_i hlt
  have : q = p.length := by omega
  subst this
  have hQ : Quo k d p ⟨d.Letters, ix p d.Start, Fn, Nx⟩ := hI.quo hpc (by omega) rfl
  have DQ := hQ.da D hk hplen (by show Fn.length ≤ 512; omega)
  exact J5V DQ hk fun m pm W cm => h m W (J5A D hk hp hQ cm)
end
end Sg
namespace Sg
open Go
set_option linter.unusedVariables false
set_option linter.unusedSimpArgs false
def MinOf (k : Nat) (d M : DFA) : Prop := ∃ W, Can k (nero d k) (acc d) M W
section
variable {k : Nat} {d M : DFA}
theorem J8e (d : DFA) (k : Nat) : Sat k (nero d k) (acc d) := fun u v _ _ h => by
 have := J4a.1 h [] (LW.nil k)
 simpa [acc] using this
theorem MinOf.uniq {M' : DFA} (h : MinOf k d M) (h' : MinOf k d M') : M = M' := by
 obtain ⟨W, c⟩ := h
 obtain ⟨W', c'⟩ := h'
 exact (c.uniq c').1
theorem MinOf.acc_ (h : MinOf k d M) (hk : k < 159) {w : Str} (hw : LW k w) : acc M w = acc d w := by
 obtain ⟨W, c⟩ := h
 exact c.acc (J52 d k) hk (J8e d k) hw
theorem MinOf.st (h : MinOf k d M) : M.Start = 0 := let ⟨_, c⟩ := h; c.st
theorem MinOf.le (h : MinOf k d M) : M.Letters = k := let ⟨_, c⟩ := h; c.le
theorem MinOf.pos (h : MinOf k d M) : 1 ≤ M.Final.length := by
 obtain ⟨W, c⟩ := h
 have := c.cl.zero.2
 rw [c.fl]; omega
theorem MinOf.da (h : MinOf k d M) (h1 : 1 ≤ k) (h6 : k ≤ 6) (hn : M.Final.length ≤ 512) : Da M := by
 obtain ⟨W, c⟩ := h
 exact c.da h1 h6 (by rw [← c.fl]; exact hn)
theorem MinOf.J3x (h : MinOf k d M) (hk : k < 159) {u v : Str} (hu : LW k u) (hv : LW k v) : (∀ q : Nat, q < M.Final.length → rn M q u = rn M q v) ↔ syn (acc d) k u = syn (acc d) k v := by
 have hacc : ∀ w, LW k w → ix M.Final (rn M 0 w) = acc d w := fun w hw => by
  have := h.acc_ hk hw
  rw [← this, acc, h.st]
 obtain ⟨W, c⟩ := h
 rw [Sg.J3x]
 constructor
 ·intro e x y hx hy
  rw [← hacc _ (LW.app.2 ⟨LW.app.2 ⟨hx, hu⟩, hy⟩), ← hacc _ (LW.app.2 ⟨LW.app.2 ⟨hx, hv⟩, hy⟩), J0B, J0B, J0B, J0B]
  obtain ⟨j, e1, hj, _⟩ := c.run (J52 d k) hk hx
  rw [e1, e j (by rw [c.fl]; exact hj)]
 ·intro e q hq
  have hq : q < W.length := by rw [← c.fl]; exact hq
  have lq := c.cl.lw hq
  obtain ⟨j, e1, hj, r1⟩ := c.run (J52 d k) hk lq
  have : j = q := c.cl.inj hj hq r1
  subst this
  obtain ⟨a, ea, ha, ra⟩ := c.run (J52 d k) hk (LW.app.2 ⟨lq, hu⟩)
  obtain ⟨b, eb, hb, rb⟩ := c.run (J52 d k) hk (LW.app.2 ⟨lq, hv⟩)
  have hab : a = b := c.cl.inj ha hb (by
   rw [ra, rb, J4a]
   intro w hw
   exact e _ w lq hw)
  rw [J0B, e1] at ea eb
  rw [ea, eb, hab]
end
def PN (Ms : List DFA) : Nat := (Ms.map fun M => M.Final.length).sum
theorem J81 : PN [] = 0 := rfl
theorem J6M (Ms : List DFA) (M : DFA) : PN (Ms ++ [M]) = PN Ms + M.Final.length := by simp [PN]
theorem J94 (a b : List DFA) : PN (a ++ b) = PN a + PN b := by simp [PN]
theorem J7Y {Ms : List DFA} {i : Nat} (hi : i < Ms.length) : PN (Ms.take (i + 1)) = PN (Ms.take i) + (ix Ms (i : Int)).Final.length := by rw [J2E hi, J6M]
theorem PN_le {Ms : List DFA} {i : Nat} (hi : i < Ms.length) : PN (Ms.take i) + (ix Ms (i : Int)).Final.length ≤ PN Ms := by
 have h1 : Ms = Ms.take (i + 1) ++ Ms.drop (i + 1) := (List.take_append_drop _ _).symm
 have h2 : PN Ms = PN (Ms.take (i + 1)) + PN (Ms.drop (i + 1)) := (congrArg PN h1).trans (J94 _ _)
 rw [h2, J7Y hi]; omega
theorem J76 : ∀ {Ms : List DFA} {p : Nat}, p < PN Ms → ∃ i q, i < Ms.length ∧ q < (ix Ms (i : Int)).Final.length ∧ p = PN (Ms.take i) + q := by
  intro Ms p h
  have key : ∀ i, i ≤ Ms.length → p < PN (Ms.take i) → ∃ i q, i < Ms.length ∧ q < (ix Ms (i : Int)).Final.length ∧ p = PN (Ms.take i) + q := by
    intro i
    induction i with
    | zero => intro _ h; simp [PN] at h
    | succ i ih =>
      intro hi hp
      by_cases hlt : p < PN (Ms.take i)
      · exact ih (by omega) hlt
      · rw [J7Y (by omega)] at hp
        exact ⟨i, p - PN (Ms.take i), by omega, by omega, by omega⟩
  exact key Ms.length (Nat.le_refl _) (by rw [List.take_length]; exact h)
structure Uni (k : Nat) (Ms : List DFA) (gens : List (List Int)) : Prop where
 gl : gens.length = k
 cl : ∀ x : Nat, x < k → (ix gens x).length = PN Ms
 at_ : ∀ i q x : Nat, i < Ms.length → q < (ix Ms (i : Int)).Final.length → x < k → ix (ix gens (x : Int)) ((PN (Ms.take i) + q : Nat) : Int) = (PN (Ms.take i) : Int) + ix (ix (ix Ms (i : Int)).Next (q : Int)) (x : Int)
structure Mins (k : Nat) (ds Ms : List DFA) : Prop where
 len : Ms.length = ds.length
 min : ∀ i : Nat, i < ds.length → MinOf k (ix ds (i : Int)) (ix Ms (i : Int))
def syJ (ds : List DFA) (k : Nat) (w : Str) : Nat → {u : Str // LW k u} × {u : Str // LW k u} → Bool := fun i => if i < ds.length then syn (acc (ix ds (i : Int))) k w else fun _ => false
theorem J7I {ds : List DFA} {k : Nat} {u v : Str} : syJ ds k u = syJ ds k v ↔ ∀ i : Nat, i < ds.length → syn (acc (ix ds (i : Int))) k u = syn (acc (ix ds (i : Int))) k v := by
 constructor
 ·intro h i hi
  have := congrFun h i
  simpa [syJ, hi] using this
 ·intro h
  funext i
  by_cases hi : i < ds.length
  ·simp only [syJ, hi, if_true]; exact h i hi
  ·simp only [syJ, hi, if_false]
theorem J6A (d : DFA) (k : Nat) : Eqv k (syJ [d] k) (syn (acc d) k) := fun u v hu hv => by
 rw [J7I]
 constructor
 ·intro h; exact h 0 (by simp)
 ·intro h i hi
  have : i = 0 := by simpa using hi
  subst this
  exact h
section
variable {k : Nat} {ds Ms : List DFA} {gens : List (List Int)}
theorem Uni.GV_ (h : Uni k Ms gens) (hm : Mins k ds Ms) (h1 : 1 ≤ k) (h6 : k ≤ 6) (hd : 1 ≤ ds.length) (h32 : PN Ms ≤ 32) : GV gens = true := by
 have hgl := h.gl
 have hml := hm.len
 have e0 := h.cl 0 (by omega)
 rw [show ((0 : Nat) : Int) = 0 from rfl] at e0
 have hpos : 1 ≤ PN Ms := by
  have := PN_le (Ms := Ms) (i := 0) (by omega)
  have := (hm.min 0 (by omega)).pos
  omega
 refine J0f.2 ⟨by omega, by omega, fun x hx => ⟨J1y.2 ⟨?_, ?_, fun p hp => ?_⟩, ?_⟩⟩
 ·rw [h.cl x (by omega)]; exact hpos
 ·rw [h.cl x (by omega)]; exact h32
 ·rw [h.cl x (by omega)] at hp ⊢
  obtain ⟨i, q, hi, hq, rfl⟩ := J76 hp
  rw [h.at_ i q x hi hq (by omega)]
  have hle := PN_le hi
  have M := hm.min i (by omega)
  have Dm := M.da h1 h6 (by omega)
  have := (Dm.at_ (q := q) (x := x) (by omega) (by omega) (by omega) (by rw [M.le]; omega)).2
  omega
 ·rw [h.cl x (by omega), e0]
theorem Uni.len (h : Uni k Ms gens) (h1 : 1 ≤ k) : (ix gens 0).length = PN Ms := h.cl 0 (by omega)
theorem Uni.vl_at (h : Uni k Ms gens) (hm : Mins k ds Ms) (hg : GV gens = true) (h1 : 1 ≤ k) (h6 : k ≤ 6) (h32 : PN Ms ≤ 32) {i q : Nat} (hi : i < Ms.length) (hq : q < (ix Ms (i : Int)).Final.length) {w : Str} :
    LW k w → ix (vl gens w) ((PN (Ms.take i) + q : Nat) : Int) = (PN (Ms.take i) : Int) + rn (ix Ms (i : Int)) q w := by
  have hgl := h.gl
  have hml := hm.len
  have hle := PN_le hi
  have M := hm.min i (by omega)
  have Dm := M.da h1 h6 (by omega)
  have hkl : (k : Int) = (ix Ms (i : Int)).Letters := M.le.symm
  have hl0 := h.len h1
  induction w using snocRec with
  | nil =>
    intro _
    rw [J6V, J3w (by omega), J7H]
    omega
  | snoc w b ih =>
    intro hw
    obtain ⟨hw1, hw2⟩ := LW.app.1 hw
    obtain ⟨x, hx, rfl⟩ := LW.letter (by omega) hw2
    have hok := vl_ok hg (w := w) (by rw [hgl]; exact hw1)
    have e1 : ((lt x).toNat : Int) - 97 = x := by rw [J08 (by omega)]; omega
    rw [J1T, e1, J1O (by omega) (by rw [hok.2]; omega), ih hw1, J2t _ _ _ (by omega)]
    have hin := rn_lw Dm hkl hw1 (q := q) (by omega) (by omega)
    obtain ⟨p, ep⟩ := Int.eq_ofNat_of_zero_le hin.1
    rw [ep] at hin ⊢
    have := h.at_ i p x hi (by omega) hx
    rw [← this]
    congr 1
theorem Uni.eqv (h : Uni k Ms gens) (hm : Mins k ds Ms) (hg : GV gens = true) (h1 : 1 ≤ k) (h6 : k ≤ 6) (h32 : PN Ms ≤ 32) : Eqv k (vl gens) (syJ ds k) := fun u v hu hv => by
 have hgl := h.gl
 have hml := hm.len
 have hl0 := h.len h1
 have hu' := vl_ok hg (w := u) (by rw [hgl]; exact hu)
 have hv' := vl_ok hg (w := v) (by rw [hgl]; exact hv)
 rw [J7I]
 constructor
 ·intro e i hi
  refine ((hm.min i hi).J3x (by omega) hu hv).1 fun q hq => ?_
  have a := h.vl_at hm hg h1 h6 h32 (i := i) (by omega) hq hu
  have b := h.vl_at hm hg h1 h6 h32 (i := i) (by omega) hq hv
  rw [e] at a
  omega
 ·intro e
  refine J0e (by rw [hu'.2, hv'.2]) fun p hp => ?_
  rw [hu'.2, hl0] at hp
  obtain ⟨i, q, hi, hq, rfl⟩ := J76 hp
  rw [h.vl_at hm hg h1 h6 h32 hi hq hu, h.vl_at hm hg h1 h6 h32 hi hq hv, ((hm.min i (by omega)).J3x (by omega) hu hv).2 (e i (by omega)) q hq]
end
section
variable {gens : List (List Int)} {r : run}
theorem Fin.CL_ (hg : GV gens = true) (h : Fin gens true r) : CL gens.length (vl gens) r.words (fun _ => True) := by
 have hr := h.1.rlT hg
 refine ⟨hr.asc, fun w => ?_⟩
 rw [hr.mem]
 constructor
 ·rintro ⟨⟨⟨h1, _⟩, h2⟩, _⟩
  exact ⟨⟨h1, fun v hv => h2 v ⟨hv, .inl rfl⟩⟩, trivial⟩
 ·rintro ⟨⟨h1, h2⟩, _⟩
  exact ⟨⟨⟨h1, .inl rfl⟩, fun v hv => h2 v hv.1⟩, trivial⟩
theorem Fin.w0 (hg : GV gens = true) (h : Fin gens true r) : ix r.words 0 = [] ∧ 0 < r.words.length := (h.CL_ hg).zero
theorem Fin.from_ (hg : GV gens = true) (h : Fin gens true r) {i : Nat} (hi : i < r.words.length) (h0 : 0 < i) :
  ∃ p x : Nat, p < i ∧ ix r.Enum.Prefix i = (p : Int) ∧ x < gens.length ∧ ix r.words i = ix r.words p ++ [lt x] ∧ ix r.Enum.Last i = (x : Int) := by
 have hk6 := (J0f.1 hg).2.1
 have hz := h.w0 hg
 have asc := (h.CL_ hg).asc
 have hne : ix r.words i ≠ [] := fun e => by
  have := J3g asc hi hz.2 (by rw [e]; exact hz.1.symm)
  omega
 rcases h.1.si.at_ i hi with ⟨h1, _⟩ | ⟨p, b, h1, h2, h3, h4⟩
 ·exact absurd h1 hne
 ·have hw := ((h.CL_ hg).mem _).1 (J0g.2 ⟨i, hi, rfl⟩)
  have hw := hw.1.1
  rw [h1] at hw
  obtain ⟨x, hx, rfl⟩ := LW.letter (by omega) (LW.app.1 hw).2
  rw [J08 (by omega)] at h2
  rcases h3 with ⟨_, e2, _⟩ | ⟨_, e2, e3, e4⟩
  ·cases e2
  ·obtain ⟨q, hq⟩ := Int.eq_ofNat_of_zero_le e2
   rw [hq] at e2 e3 e4
   refine ⟨q, x, ?_, hq, hx, by rw [h1, e4], by omega⟩
   refine J2x asc (by omega) hi ?_
   rw [e4, h1]
   exact .inl (by simp)
theorem Fin.el (h : Fin gens true r) : r.Enum.Elems.length = r.words.length := h.1.si.elen
theorem J78 {k : Nat} {α : Type} {ρ : Str → α} {W : List Str} (c : CL k ρ W (fun _ => True)) {i : Nat} (hi : i < W.length) (h0 : 0 < i) : ∃ w, LW k w ∧ w ≠ [] ∧ ρ w = ρ (ix W i) :=
 ⟨ix W i, c.lw hi, fun e => by
  have hz := c.zero
  have := J3g c.asc hi hz.2 (by rw [e]; exact hz.1.symm)
  omega, rfl⟩
theorem J8B {k : Nat} (hg : GV gens = true) (hk : gens.length = k) (h : Fin gens true r) {l : Int} {T : List (List Int)} {im : List Int} {A P : List Bool} (hl : l = k)
  (t1 : T.length = r.words.length) (t2 : ∀ i : Nat, i < r.words.length → (ix T i).length = r.words.length)
  (t3 : ∀ i j : Nat, i < r.words.length → j < r.words.length → ∃ m : Nat, ix (ix T i) j = m ∧ m < r.words.length ∧ vl gens (ix r.words m) = vl gens (ix r.words i ++ ix r.words j))
  (i1 : im.length = k) (i2 : ∀ x : Nat, x < k → ∃ m : Nat, ix im x = m ∧ m < r.words.length ∧ vl gens (ix r.words m) = vl gens [lt x])
  (p1 : P.length = r.words.length) (p2 : ∀ i : Nat, 0 < i → i < r.words.length → ix P i = true) (p3 : ix P 0 = true ↔ ∃ w, LW k w ∧ w ≠ [] ∧ vl gens w = vl gens []) : Mon k (vl gens) ⟨l, T, r.words, im, A, P⟩ := by
 have c := h.CL_ hg
 rw [hk] at c
 refine ⟨c, hl, t1, t2, t3, i1, i2, p1, fun i hi => ?_⟩
 rcases Nat.eq_zero_or_pos i with h0 | h0
 ·subst h0
  have hz := c.zero
  show ix P 0 = true ↔ _
  rw [p3]
  show _ ↔ ∃ w, LW k w ∧ w ≠ [] ∧ vl gens w = vl gens (ix r.words ((0 : Nat) : Int))
  rw [show ((0 : Nat) : Int) = 0 from rfl, hz.1]
 ·exact ⟨fun _ => J78 c hi h0, fun _ => p2 i h0 hi⟩
end
end Sg
namespace Sg
open Go
set_option linter.unusedVariables false
set_option linter.unusedSimpArgs false
theorem slices_Contains_ok' {s : List Int} {v : Int} {K : Bool → Prop} (h : K (decide (v ∈ s))) : J0m s v K := by
 unfold J0m J0Q
 refine fun _ => LoopWP.scan s.length (fun j => ix s j ≠ v) ?_
 intro j X hj hI hX
 unfold J1S
 split
 ·rename_i hlt
  refine ⟨by omega, hlt, ?_⟩
  split
  ·rename_i e
   dsimp only
   rw [if_pos (by omega)]
   have : v ∈ s := by rw [e]; exact J0N (by omega) hlt
   rw [decide_eq_true this] at h
   exact h
  ·rename_i e
   exact hX (by omega) (fun h2 => e h2.symm)
 ·dsimp only
  rw [if_neg (by decide)]
  have : v ∉ s := fun hm => by
   obtain ⟨i, hi, e⟩ := J0g.1 hm
   exact hI i (by omega) e
  rw [decide_eq_false this] at h
  exact h
section
variable {gens : List (List Int)} {r : run}
def CellI (gens : List (List Int)) (r : run) (a j : Nat) (v : Int) : Prop := ∃ m : Nat, v = m ∧ m < r.words.length ∧ vl gens (ix r.words m) = vl gens (ix r.words a ++ ix r.words j)
def TabI (gens : List (List Int)) (r : run) (i : Nat) (T : List (List Int)) : Prop := T.length = r.words.length ∧ ∀ a : Nat, a < i → (ix T a).length = r.words.length ∧ ∀ j : Nat, j < r.words.length → CellI gens r a j (ix (ix T a) j)
def RowT (gens : List (List Int)) (r : run) (i j : Nat) (T : List (List Int)) : Prop := TabI gens r i T ∧ (ix T i).length = r.words.length ∧ ∀ y : Nat, y < j → CellI gens r i y (ix (ix T i) y)
theorem RowT.all {i : Nat} {T : List (List Int)} (h : RowT gens r i r.words.length T) : TabI gens r (i + 1) T :=
 ⟨h.1.1, fun a ha => by
  by_cases e : a = i
  ·subst e; exact h.2
  ·exact h.1.2 a (by omega)⟩
theorem RowT.start {i : Nat} {T : List (List Int)} (hg : GV gens = true) (hF : Fin gens true r) (h : TabI gens r i T) (hi : i < r.words.length) :
  RowT gens r i 1 (st (st T (i : Int) (List.replicate r.Enum.Elems.length (0 : Int))) (i : Int) (st (ix (st T (i : Int) (List.replicate r.Enum.Elems.length (0 : Int))) (i : Int)) (0 : Int) (i : Int))) := by
 have hl := h.1
 have hel := hF.el
 have hz := hF.w0 hg
 refine ⟨⟨by simp [hl], fun a ha => ?_⟩, ?_, fun y hy => ?_⟩
 ·rw [ix_st _ (by omega) (by simp; omega) (by omega), if_neg (by omega), ix_st _ (by omega) (by omega) (by omega), if_neg (by omega)]
  exact h.2 a ha
 ·rw [ix_st _ (by omega) (by simp; omega) (by omega), if_pos rfl, ix_st _ (by omega) (by omega) (by omega), if_pos rfl]
  simp [hel]
 ·have : y = 0 := by omega
  subst this
  have e : ix (st T (i : Int) (List.replicate r.Enum.Elems.length (0 : Int))) (i : Int) = List.replicate r.Enum.Elems.length (0 : Int) := by rw [ix_st _ (by omega) (by omega) (by omega), if_pos rfl]
  rw [ix_st _ (by omega) (by simp; omega) (by omega), if_pos rfl, e, ix_st _ (by omega) (by simp; omega) (by omega), if_pos (by omega)]
  exact ⟨i, rfl, hi, by rw [show ((0 : Nat) : Int) = 0 from rfl, hz.1, List.append_nil]⟩
theorem RowT.look {i j : Nat} {T : List (List Int)} (hg : GV gens = true) (hF : Fin gens true r) (h : RowT gens r i j T) (hi : i < r.words.length) (hj : j < r.words.length) (h0 : 0 < j) :
  0 ≤ ix r.Enum.Prefix j ∧ ix r.Enum.Prefix j < r.words.length ∧ 0 ≤ ix (ix T i) (ix r.Enum.Prefix j) ∧ ix (ix T i) (ix r.Enum.Prefix j) < r.Enum.Right.length ∧ 0 ≤ ix r.Enum.Last j ∧ ix r.Enum.Last j < (ix r.Enum.Right (ix (ix T i) (ix r.Enum.Prefix j))).length ∧ CellI gens r i j (ix (ix r.Enum.Right (ix (ix T i) (ix r.Enum.Prefix j))) (ix r.Enum.Last j)) := by
 obtain ⟨p, x, hp, e1, hx, e2, e3⟩ := hF.from_ hg hj h0
 obtain ⟨m, em, hm, rm⟩ := h.2.2 p hp
 rw [e1, em, e3]
 obtain ⟨r1, r2, r3, r4, r5⟩ := hF.1.J5I (q := (m : Int)) (x := x) (by omega) (by omega) hx rm
 obtain ⟨v, ev⟩ := Int.eq_ofNat_of_zero_le r3
 refine ⟨by omega, by omega, by omega, r1, by omega, by omega, v, ev, by omega, ?_⟩
 rw [ev] at r5
 rw [r5, e2, List.append_assoc]
theorem RowT.step {i j : Nat} {T : List (List Int)} {v : Int} (h : RowT gens r i j T) (hi : i < r.words.length) (hj : j < r.words.length) (hv : CellI gens r i j v) : RowT gens r i (j + 1) (st T (i : Int) (st (ix T (i : Int)) (j : Int) v)) := by
 have hl := h.1.1
 have hr := h.2.1
 refine ⟨⟨by simp [hl], fun a ha => ?_⟩, ?_, fun y hy => ?_⟩
 ·rw [ix_st _ (by omega) (by omega) (by omega), if_neg (by omega)]; exact h.1.2 a ha
 ·rw [ix_st _ (by omega) (by omega) (by omega), if_pos rfl]; simp [hr]
 ·rw [ix_st _ (by omega) (by omega) (by omega), if_pos rfl, ix_st _ (by omega) (by omega) (by omega)]
  by_cases e : y = j
  ·subst e; rw [if_pos rfl]; exact hv
  ·rw [if_neg (by omega)]; exact h.2.2 y (by omega)
structure PlI (gens : List (List Int)) (r : run) (i : Nat) (pl : List Bool) : Prop where
 len : pl.length = r.words.length
 pos : ∀ j : Nat, 0 < j → j < r.words.length → ix pl j = true
 zer : ix pl 0 = true ↔ ∃ a x : Nat, a < i ∧ x < gens.length ∧ ix (ix r.Enum.Right a) x = 0
theorem PlI.step {i : Nat} {pl : List Bool} (hF : Fin gens true r) (h : PlI gens r i pl) (hi : i < r.words.length) {b : Bool} (hb : b = (ix pl 0 || decide ((0 : Int) ∈ ix r.Enum.Right (i : Int)))) : PlI gens r (i + 1) (st pl (0 : Int) b) := by
 have hl := h.len
 refine ⟨by simp [hl], fun j h0 hj => ?_, ?_⟩
 ·rw [ix_st _ (by omega) (by omega) (by omega), if_neg (by omega)]; exact h.pos j h0 hj
 ·rw [ix_st _ (by omega) (by omega) (by omega), if_pos rfl, hb]
  simp only [Bool.or_eq_true, decide_eq_true_eq, h.zer]
  have hrow := (hF.1.rt.2 i hi).1
  constructor
  ·rintro (⟨a, x, h1, h2, h3⟩ | hm)
   ·exact ⟨a, x, by omega, h2, h3⟩
   ·obtain ⟨x, hx, e⟩ := J0g.1 hm
    exact ⟨i, x, by omega, by omega, e⟩
  ·rintro ⟨a, x, h1, h2, h3⟩
   by_cases e : a = i
   ·subst e
    refine .inr ?_
    rw [← h3]
    exact J0N (by omega) (by omega)
   ·exact .inl ⟨a, x, by omega, h2, h3⟩
theorem PlI.all {pl : List Bool} (hg : GV gens = true) (hF : Fin gens true r) (h : PlI gens r r.words.length pl) : ix pl 0 = true ↔ ∃ w, LW gens.length w ∧ w ≠ [] ∧ vl gens w = vl gens [] := by
 have hk6 := (J0f.1 hg).2.1
 have c := hF.CL_ hg
 have hz := c.zero
 rw [h.zer]
 constructor
 ·rintro ⟨a, x, ha, hx, e⟩
  obtain ⟨_, _, _, _, r5⟩ := hF.1.J5I (q := (a : Int)) (x := x) (w := ix r.words a) (by omega) (by omega) hx rfl
  rw [e, hz.1] at r5
  exact ⟨ix r.words a ++ [lt x], LW.app.2 ⟨c.lw ha, LW.lt hx (by omega)⟩, by simp, r5.symm⟩
 ·rintro ⟨w, hw, hne, e⟩
  obtain ⟨p, b, rfl⟩ := snocEx hne
  obtain ⟨hp, hb⟩ := LW.app.1 hw
  obtain ⟨x, hx, rfl⟩ := LW.letter (by omega) hb
  obtain ⟨a, ha, ea⟩ := c.place hp
  obtain ⟨_, _, r3, r4, r5⟩ := hF.1.J5I (q := (a : Int)) (x := x) (w := p) (by omega) (by omega) hx ea
  refine ⟨a, x, ha, hx, ?_⟩
  obtain ⟨v, ev⟩ := Int.eq_ofNat_of_zero_le r3
  rw [ev] at r4 r5 ⊢
  have : v = 0 := c.inj (by omega) hz.2 (by rw [r5, e, show ((0 : Nat) : Int) = 0 from rfl, hz.1])
  omega
def WdI (r : run) (i : Nat) (w : List Str) : Prop := w.length = r.words.length ∧ ∀ j : Nat, j < i → ix w j = ix r.words j
theorem WdI.step {i : Nat} {w : List Str} (h : WdI r i w) (hi : i < r.words.length) {u : Str} (hu : u = ix r.words i) : WdI r (i + 1) (st w (i : Int) u) := by
 have hl := h.1
 refine ⟨by simp [hl], fun j hj => ?_⟩
 rw [ix_st _ (by omega) (by omega) (by omega)]
 by_cases e : j = i
 ·subst e; rw [if_pos rfl]; exact hu
 ·rw [if_neg (by omega)]; exact h.2 j (by omega)
def LsI (P : List part) (r : run) (L : List (List Bool)) (a : Nat) : Prop := (ix L (a : Int)).length = r.words.length ∧ ∀ i : Nat, i < r.words.length → ix (ix L (a : Int)) i = ix (ix P (a : Int)).final (ix (ix r.Enum.Elems i) (ix P (a : Int)).start - (ix P (a : Int)).shift)
def PtI (P : List part) (r : run) : Prop := ∀ a i : Nat, a < P.length → i < r.words.length → 0 ≤ (ix P (a : Int)).start ∧ (ix P (a : Int)).start < (ix r.Enum.Elems i).length ∧ I64 (ix (ix r.Enum.Elems i) (ix P (a : Int)).start - (ix P (a : Int)).shift) ∧ 0 ≤ ix (ix r.Enum.Elems i) (ix P (a : Int)).start - (ix P (a : Int)).shift ∧ ix (ix r.Enum.Elems i) (ix P (a : Int)).start - (ix P (a : Int)).shift < (ix P (a : Int)).final.length
section
variable {M : DFA} {im : List Int} {K : Syntactic → Int → Prop}
theorem J6v (hg : GV gens = true) (hF : Fin gens true r) {i : Nat} {pl : List Bool} {T : List (List Int)} {X : Nat → List Bool → List (List Int) → Prop} (hi : i < r.words.length) (hT : RowT gens r i 1 T) (h : ∀ T, TabI gens r (i + 1) T → X (i + 1) (st pl (0 : Int) true) T) :
  LoopWP (S := Nat × List (List Int)) (fun s Y => J2c r.Enum i pl X K (fun a b => Y (a, b)) s.1 s.2) (1, T) := by
 have hel := hF.el
 have hpl := hF.1.si.pl
 have hll := hF.1.si.ll
 refine LoopWP.to r.words.length (fun s => s.1) (fun s => 1 ≤ s.1 ∧ s.1 ≤ r.words.length ∧ RowT gens r i s.1 s.2) ⟨Nat.le_refl _, by show 1 ≤ r.words.length; omega, hT⟩ (fun s h => h.2.1) ?_
 rintro ⟨j, T⟩ Y ⟨h1, hj, hT⟩ hY
 try dsimp only at h1 hj hT ⊢
 unfold J2c
 have hTl := hT.1.1
 have hrl := hT.2.1
 split
 ·rename_i hlt
  have hj' : j < r.words.length := by omega
  obtain ⟨a1, a2, a3, a4, a5, a6, a7⟩ := hT.look hg hF hi hj' (by omega)
  exact ⟨by omega, by omega, by omega, by omega, by omega, by omega, a1, by omega, a3, a4, by omega, by omega, a5, a6, by omega, by omega, hY (j + 1, _) ⟨by dsimp only; omega, hj', hT.step hi hj' a7⟩ rfl⟩
 ·have : j = r.words.length := by omega
  subst this
  exact h T hT.all
theorem J6L (hg : GV gens = true) (hF : Fin gens true r) {i : Nat} {pl : List Bool} {b : Bool} {T : List (List Int)} {X : Nat → List Bool → List (List Int) → Prop} (hi : i < r.words.length) (hT : RowT gens r i 1 T) (h : ∀ T, TabI gens r (i + 1) T → X (i + 1) (st pl (0 : Int) b) T) :
  LoopWP (S := Nat × List (List Int)) (fun s Y => J1Y r.Enum i pl X b K (fun a b => Y (a, b)) s.1 s.2) (1, T) := by
 have hel := hF.el
 have hpl := hF.1.si.pl
 have hll := hF.1.si.ll
 refine LoopWP.to r.words.length (fun s => s.1) (fun s => 1 ≤ s.1 ∧ s.1 ≤ r.words.length ∧ RowT gens r i s.1 s.2) ⟨Nat.le_refl _, by show 1 ≤ r.words.length; omega, hT⟩ (fun s h => h.2.1) ?_
 rintro ⟨j, T⟩ Y ⟨h1, hj, hT⟩ hY
 try dsimp only at h1 hj hT ⊢
 unfold J1Y
 have hTl := hT.1.1
 have hrl := hT.2.1
 split
 ·rename_i hlt
  have hj' : j < r.words.length := by omega
  obtain ⟨a1, a2, a3, a4, a5, a6, a7⟩ := hT.look hg hF hi hj' (by omega)
  exact ⟨by omega, by omega, by omega, by omega, by omega, by omega, a1, by omega, a3, a4, by omega, by omega, a5, a6, by omega, by omega, hY (j + 1, _) ⟨by dsimp only; omega, hj', hT.step hi hj' a7⟩ rfl⟩
 ·have : j = r.words.length := by omega
  subst this
  exact h T hT.all
theorem J6J (hF : Fin gens true r) (hn : r.words.length ≤ 400) (hP : PtI (([] : List part) ++ [(⟨(0 : Int) + M.Start, M.Final, (0 : Int)⟩ : part)]) r) {w : List Str} {pl : List Bool} {T : List (List Int)} (h1 : 1 ≤ (([] : List part) ++ [(⟨(0 : Int) + M.Start, M.Final, (0 : Int)⟩ : part)]).length) (h : ∀ L : List (List Bool), L.length = (([] : List part) ++ [(⟨(0 : Int) + M.Start, M.Final, (0 : Int)⟩ : part)]).length → (∀ a : Nat, a < (([] : List part) ++ [(⟨(0 : Int) + M.Start, M.Final, (0 : Int)⟩ : part)]).length → LsI (([] : List part) ++ [(⟨(0 : Int) + M.Start, M.Final, (0 : Int)⟩ : part)]) r L a) → K ⟨(gens.length : Int), T, w, im, ix L (0 : Int), pl⟩ 0) :
  LoopWP (S := Nat × List (List Bool)) (fun s Y => J2e M gens r.Enum im w pl T K (fun a b => Y (a, b)) s.1 s.2) (0, List.replicate (([] : List part) ++ [(⟨(0 : Int) + M.Start, M.Final, (0 : Int)⟩ : part)]).length ([] : List Bool)) := by
 have hel := hF.el
 refine LoopWP.to (([] : List part) ++ [(⟨(0 : Int) + M.Start, M.Final, (0 : Int)⟩ : part)]).length (fun s => s.1) (fun s => s.1 ≤ (([] : List part) ++ [(⟨(0 : Int) + M.Start, M.Final, (0 : Int)⟩ : part)]).length ∧ s.2.length = (([] : List part) ++ [(⟨(0 : Int) + M.Start, M.Final, (0 : Int)⟩ : part)]).length ∧ ∀ a : Nat, a < s.1 → LsI (([] : List part) ++ [(⟨(0 : Int) + M.Start, M.Final, (0 : Int)⟩ : part)]) r s.2 a) ⟨Nat.zero_le _, by simp, fun a ha => by simp at ha⟩ (fun s h => h.1) ?_
 rintro ⟨b, L⟩ Y ⟨hb, hL, hI⟩ hY
 try dsimp only at hb hL hI ⊢
 unfold J2e
 split
 ·rename_i hlt
  have hb' : b < (([] : List part) ++ [(⟨(0 : Int) + M.Start, M.Final, (0 : Int)⟩ : part)]).length := by omega
  refine ⟨by omega, hlt, by omega, by omega, by omega, by omega, ?_⟩
  refine LoopWP.to r.words.length (fun s => s.1) (fun s => s.1 ≤ r.words.length ∧ s.2.length = (([] : List part) ++ [(⟨(0 : Int) + M.Start, M.Final, (0 : Int)⟩ : part)]).length ∧ (∀ a : Nat, a < b → LsI (([] : List part) ++ [(⟨(0 : Int) + M.Start, M.Final, (0 : Int)⟩ : part)]) r s.2 a) ∧ (ix s.2 (b : Int)).length = r.words.length ∧ ∀ i : Nat, i < s.1 → ix (ix s.2 (b : Int)) i = ix (ix (([] : List part) ++ [(⟨(0 : Int) + M.Start, M.Final, (0 : Int)⟩ : part)]) (b : Int)).final (ix (ix r.Enum.Elems i) (ix (([] : List part) ++ [(⟨(0 : Int) + M.Start, M.Final, (0 : Int)⟩ : part)]) (b : Int)).start - (ix (([] : List part) ++ [(⟨(0 : Int) + M.Start, M.Final, (0 : Int)⟩ : part)]) (b : Int)).shift)) ⟨Nat.zero_le _, by simp only [J09]; exact hL, fun a ha => ?_, ?_, fun i hi => by simp at hi⟩ (fun s h => h.1) ?_
  ·have := hI a ha
   unfold LsI at this ⊢
   dsimp only
   rw [ix_st _ (by omega) (by omega) (by omega), if_neg (by omega)]
   exact this
  ·dsimp only
   rw [ix_st _ (by omega) (by omega) (by omega), if_pos rfl]; simp [hel]
  rintro ⟨i, L⟩ Z ⟨hi, hL, hI, hbl, hJ⟩ hZ
  try dsimp only at hi hL hI hbl hJ ⊢
  unfold J38
  split
  ·rename_i hlt2
   have hi' : i < r.words.length := by omega
   obtain ⟨p1, p2, p3, p4, p5⟩ := hP b i hb' hi'
   refine ⟨by omega, by omega, by omega, by omega, ?_⟩
   unfold J0q
   refine ⟨p1, p2, p3, p4, p5, by omega, by omega, hZ (i + 1, _) ⟨by dsimp only; omega, by simp only [J09]; exact hL, fun a ha => ?_, ?_, fun y hy => ?_⟩ rfl⟩
   ·have := hI a ha
    unfold LsI at this ⊢
    dsimp only
    rw [ix_st _ (by omega) (by omega) (by omega), if_neg (by omega)]
    exact this
   ·dsimp only
    rw [ix_st _ (by omega) (by omega) (by omega), if_pos rfl]; simp [hbl]
   ·dsimp only at hy ⊢
    rw [ix_st _ (by omega) (by omega) (by omega), if_pos rfl, ix_st _ (by omega) (by omega) (by omega)]
    by_cases e : y = i
    ·subst e; rw [if_pos rfl]
    ·rw [if_neg (by omega)]; exact hJ y (by omega)
  ·have : i = r.words.length := by omega
   subst this
   exact hY (b + 1, L) ⟨by dsimp only; omega, hL, fun a ha => by
    by_cases e : a = b
    ·subst e; exact ⟨hbl, hJ⟩
    ·exact hI a (by dsimp only at ha; omega)⟩ rfl
 ·rename_i hlt
  have : b = (([] : List part) ++ [(⟨(0 : Int) + M.Start, M.Final, (0 : Int)⟩ : part)]).length := by omega
  subst this
  have hh := h L hL hI
  exact ⟨by omega, by omega, hh⟩
theorem J6N (hg : GV gens = true) (hF : Fin gens true r) (hn : r.words.length ≤ 400) (hP : PtI (([] : List part) ++ [(⟨(0 : Int) + M.Start, M.Final, (0 : Int)⟩ : part)]) r) {w : List Str} {pl : List Bool} (h1 : 1 ≤ (([] : List part) ++ [(⟨(0 : Int) + M.Start, M.Final, (0 : Int)⟩ : part)]).length) (h32 : (([] : List part) ++ [(⟨(0 : Int) + M.Start, M.Final, (0 : Int)⟩ : part)]).length ≤ 1000) (hpl : PlI gens r 0 pl)
  (h : ∀ (T : List (List Int)) (pl : List Bool) (L : List (List Bool)), TabI gens r r.words.length T → PlI gens r r.words.length pl → L.length = (([] : List part) ++ [(⟨(0 : Int) + M.Start, M.Final, (0 : Int)⟩ : part)]).length → (∀ a : Nat, a < (([] : List part) ++ [(⟨(0 : Int) + M.Start, M.Final, (0 : Int)⟩ : part)]).length → LsI (([] : List part) ++ [(⟨(0 : Int) + M.Start, M.Final, (0 : Int)⟩ : part)]) r L a) → K ⟨(gens.length : Int), T, w, im, ix L (0 : Int), pl⟩ 0) :
  LoopWP (S := Nat × List Bool × List (List Int)) (fun s Y => J25 M gens r.Enum im w K (fun a b c => Y (a, b, c)) s.1 s.2.1 s.2.2) (0, pl, List.replicate r.Enum.Elems.length ([] : List Int)) := by
 have hel := hF.el
 have hrt := hF.1.rt.1
 have hz := hF.w0 hg
 refine LoopWP.to r.words.length (fun s => s.1) (fun s => s.1 ≤ r.words.length ∧ PlI gens r s.1 s.2.1 ∧ TabI gens r s.1 s.2.2) ⟨Nat.zero_le _, hpl, by simp [hel], fun a ha => by simp at ha⟩ (fun s h => h.1) ?_
 rintro ⟨i, pl, T⟩ Y ⟨hi, hpl, hT⟩ hY
 try dsimp only at hi hpl hT ⊢
 have hpll := hpl.len
 have hTl := hT.1
 unfold J25
 split
 ·rename_i hlt
  have hi' : i < r.words.length := by omega
  have hs := RowT.start hg hF hT hi'
  have e0 : ((ix (st T (i : Int) (List.replicate r.Enum.Elems.length (0 : Int))) (i : Int)).length : Int) = r.words.length := by
   rw [ix_st _ (by omega) (by omega) (by omega), if_pos rfl]; simp [hel]
  refine ⟨by omega, hlt, by omega, by omega, ?_⟩
  split
  ·rename_i hp0
   refine ⟨by omega, by omega, by omega, by omega, by omega, by omega, by omega, by rw [J09]; omega, by omega, by omega, J6v hg hF hi' hs fun T hT => hY (i + 1, _, T) ⟨by dsimp only; omega, hpl.step hF hi' (by rw [hp0]; rfl), hT⟩ rfl⟩
  ·rename_i hp0
   refine slices_Contains_ok' ?_
   refine ⟨by omega, by omega, by omega, by omega, by omega, by omega, by omega, by rw [J09]; omega, by omega, by omega, J6L hg hF hi' hs fun T hT => hY (i + 1, _, T) ⟨by dsimp only; omega, hpl.step hF hi' (by rw [Bool.eq_false_iff.2 hp0]; rfl), hT⟩ rfl⟩
 ·have : i = r.words.length := by omega
  subst this
  exact ⟨by omega, by omega, J6J hF hn hP h1 fun L hL hI => h T pl L hT hpl hL hI⟩
theorem J6D (hg : GV gens = true) (hF : Fin gens true r) (hn : r.words.length ≤ 400) (hP : PtI (([] : List part) ++ [(⟨(0 : Int) + M.Start, M.Final, (0 : Int)⟩ : part)]) r) (h1 : 1 ≤ (([] : List part) ++ [(⟨(0 : Int) + M.Start, M.Final, (0 : Int)⟩ : part)]).length) (h32 : (([] : List part) ++ [(⟨(0 : Int) + M.Start, M.Final, (0 : Int)⟩ : part)]).length ≤ 1000)
  (h : ∀ (w : List Str) (T : List (List Int)) (pl : List Bool) (L : List (List Bool)), w = r.words → TabI gens r r.words.length T → PlI gens r r.words.length pl → L.length = (([] : List part) ++ [(⟨(0 : Int) + M.Start, M.Final, (0 : Int)⟩ : part)]).length → (∀ a : Nat, a < (([] : List part) ++ [(⟨(0 : Int) + M.Start, M.Final, (0 : Int)⟩ : part)]).length → LsI (([] : List part) ++ [(⟨(0 : Int) + M.Start, M.Final, (0 : Int)⟩ : part)]) r L a) → K ⟨(gens.length : Int), T, w, im, ix L (0 : Int), pl⟩ 0) :
  LoopWP (S := Nat × List Bool × List Str) (fun s Y => J20 M gens r.Enum im K (fun a b c => Y (a, b, c)) s.1 s.2.1 s.2.2) (1, List.replicate r.Enum.Elems.length false, List.replicate r.Enum.Elems.length ([] : Str)) := by
 have hel := hF.el
 have hplx := hF.1.si.pl
 have hll := hF.1.si.ll
 have hz := hF.w0 hg
 have hk6 := (J0f.1 hg).2.1
 refine LoopWP.to r.words.length (fun s => s.1) (fun s => 1 ≤ s.1 ∧ s.1 ≤ r.words.length ∧ s.2.1.length = r.words.length ∧ (∀ j : Nat, 0 < j → j < s.1 → ix s.2.1 j = true) ∧ ix s.2.1 0 = false ∧ WdI r s.1 s.2.2) ⟨Nat.le_refl _, hz.2, by simp [hel], fun j h0 hj => by dsimp only at hj; omega, ?_, by simp [hel], fun j hj => ?_⟩ (fun s h => h.2.1) ?_
 ·dsimp only
  rw [show (0 : Int) = ((0 : Nat) : Int) from rfl, J0j _ _ (by omega)]
 ·dsimp only at hj ⊢
  have : j = 0 := by omega
  subst this
  rw [J0j _ _ (by omega)]
  exact hz.1.symm
 rintro ⟨i, pl, w⟩ Y ⟨h0, hi, hpl, hp1, hp0, hw⟩ hY
 try dsimp only at h0 hi hpl hp1 hp0 hw ⊢
 have hwl := hw.1
 unfold J20
 split
 ·rename_i hlt
  have hi' : i < r.words.length := by omega
  obtain ⟨p, x, hp, e1, hx, e2, e3⟩ := hF.from_ hg hi' (by omega)
  have hwp := hF.1.si.wl p (by omega)
  rw [e1, e3, J5r (by omega), hw.2 p (by omega)]
  exact ⟨by omega, by omega, by omega, by omega, by omega, by omega, ⟨by omega, by omega⟩, by simp; omega, by omega, by omega, by omega, by omega, hY (i + 1, _, _) ⟨by dsimp only; omega, hi', by simp [hpl], fun j h0 hj => by
   dsimp only at hj ⊢
   rw [ix_st _ (by omega) (by omega) (by omega)]
   by_cases e : j = i
   ·subst e; rw [if_pos rfl]
   ·rw [if_neg (by omega)]; exact hp1 j h0 (by omega), by
   dsimp only
   rw [ix_st _ (by omega) (by omega) (by omega), if_neg (by omega)]; exact hp0, hw.step hi' e2.symm⟩ rfl⟩
 ·have : i = r.words.length := by omega
  subst this
  have ew : w = r.words := J0e hw.1 fun j hj => hw.2 j (by omega)
  exact fun _ => J6N hg hF hn hP h1 h32 ⟨hpl, hp1, by rw [hp0]; simp⟩ fun T pl L h1 h2 h3 h4 => h w T pl L ew h1 h2 h3 h4
end
section
variable {P : List part} {im : List Int} {K : Syntactic → List (List Bool) → Int → Prop}
end
end
end Sg
namespace Sg
open Go
set_option linter.unusedVariables false
set_option linter.unusedSimpArgs false
section
variable {gens : List (List Int)}
theorem RI.ex0 (hg : GV gens = true) : ∃ r, RI gens true 0 r := by
  have key : ∀ x, x ≤ gens.length → ∃ E Pf Ls R W Bh sg m, BI gens true x E Pf Ls R W Bh sg m := by
    intro x
    induction x with
    | zero => intro _; exact ⟨_, _, _, _, _, _, _, _, BI.start1 hg⟩
    | succ x ih =>
      intro hx
      obtain ⟨E, Pf, Ls, R, W, Bh, sg, m, h⟩ := ih (by omega)
      by_cases hf : ix gens (x : Int) ∈ E
      · exact ⟨_, _, _, _, _, _, _, _, (h.known hg (by omega) hf).2.2⟩
      · exact ⟨_, _, _, _, _, _, _, _, h.new hg (by omega) hf (e := 0) rfl⟩
  obtain ⟨E, Pf, Ls, R, W, Bh, sg, m, h⟩ := key gens.length (Nat.le_refl _)
  exact ⟨_, h.fin hg⟩
theorem RI.exS (hg : GV gens = true) {d : Nat} {r : run} (h : RI gens true d r) (hd : d < r.words.length) : ∃ r', RI gens true (d + 1) r' := by
  classical
  have key : ∀ x, x ≤ gens.length → ∃ row E Pf Ls R W Bh m, PI gens true r.single r.Enum.Right d x row E Pf Ls R W Bh m := by
    intro x
    induction x with
    | zero => intro _; exact ⟨_, _, _, _, _, _, _, _, h.pi hg hd⟩
    | succ x ih =>
      intro hx
      obtain ⟨row, E, Pf, Ls, R, W, Bh, m, hI⟩ := ih (by omega)
      by_cases hf : vl gens (ix W d ++ [lt x]) ∈ E
      · by_cases hu : ix W d = []
        · exact ⟨_, _, _, _, _, _, _, _, hI.skip hg (by omega) hf fun hn => absurd hu hn⟩
        · by_cases hm : MN gens true (ix W d ++ [lt x])
          · exact ⟨_, _, _, _, _, _, _, _, hI.rule hg (by omega) hf hu hm⟩
          · exact ⟨_, _, _, _, _, _, _, _, hI.skip hg (by omega) hf fun _ => hm⟩
      · have hu : ix W d ≠ [] := fun k => hf (hI.J4X hg (by omega) k)
        obtain ⟨hb, hq⟩ := J4S hI.si hI.dl (show x < gens.length by omega) hI.sg hI.rt hu
        rcases hq with ⟨_, q0, q1, q2⟩ | ⟨_, _, _, _, q0, q1, q2⟩
        · exact ⟨_, _, _, _, _, _, _, _, hI.new hg (by omega) hu hf q0 q1 q2⟩
        · exact ⟨_, _, _, _, _, _, _, _, hI.new hg (by omega) hu hf q0 q1 q2⟩
  obtain ⟨row, E, Pf, Ls, R, W, Bh, m, hI⟩ := key gens.length (Nat.le_refl _)
  exact ⟨_, hI.fin hg h⟩
theorem J8x (hg : GV gens = true) {n : Nat} (hn : n ≤ 2000) (hf : ∀ W : List Str, (∀ w ∈ W, LW gens.length w) → (∀ i j : Nat, i < j → j < W.length → vl gens (ix W i) ≠ vl gens (ix W j)) → W.length ≤ n) : ∃ r, Fin gens true r := by
  have few : ∀ {d : Nat} {r : run}, RI gens true d r → r.words.length ≤ n := fun {d r} h => by
    refine hf r.words (fun w hw => ((h.si.rl.mem w).1 hw).1.1.1) fun i j hij hj e => ?_
    have ri := h.si.red (i := (i : Int)) (by omega) (by omega)
    have rj := h.si.red (i := (j : Int)) (by omega) (by omega)
    have := J3g h.si.rl.asc (by omega) hj (ri.uniq rj e)
    omega
  have key : ∀ d, (∃ r, Fin gens true r) ∨ ∃ r, RI gens true d r := by
    intro d
    induction d with
    | zero => exact .inr (RI.ex0 hg)
    | succ d ih =>
      rcases ih with ih | ⟨r, h⟩
      · exact .inl ih
      · by_cases e : d < r.words.length
        · exact .inr (h.exS hg e)
        · have := h.dl
          have e : d = r.words.length := by omega
          subst e
          have := few h
          exact .inl ⟨r, h, by omega⟩
  rcases key (n + 1) with h | ⟨r, h⟩
  · exact h
  · have := h.dl
    have := few h
    omega
theorem Lim.noFin (hg : GV gens = true) {d : Nat} (h : Lim gens true d) (r : run) : ¬ Fin gens true r := fun hr => by
 obtain ⟨_, ⟨s, hs, hd⟩, hl⟩ := h
 have := hr.1.J23 hg hs
 have := hl r.words.length r (by omega) hr.1
 have := hr.2
 omega
theorem J8W {α : Type} {k : Nat} {ρ : Str → α} {s : Syntactic} (h : Mon k ρ s) (W : List Str) (hw : ∀ w ∈ W, LW k w) (hd : ∀ i j : Nat, i < j → j < W.length → ρ (ix W i) ≠ ρ (ix W j)) : W.length ≤ s.Words.length := by
 apply Classical.byContradiction
 intro hc
 have rep : ∀ i : Nat, ∃ j : Nat, i < W.length → j < s.Words.length ∧ ρ (ix s.Words j) = ρ (ix W i) := fun i => by
  by_cases hi : i < W.length
  ·obtain ⟨j, h1, h2⟩ := h.cl.place (hw _ (J0g.2 ⟨i, hi, rfl⟩))
   exact ⟨j, fun _ => ⟨h1, h2⟩⟩
  ·exact ⟨0, fun h => absurd h hi⟩
 obtain ⟨f, hf⟩ := Classical.axiomOfChoice rep
 obtain ⟨a, b, h1, h2, e⟩ := pigeon s.Words.length (fun m => (f m : Int)) fun m hm => by have := (hf m (by omega)).1; omega
 have ea := (hf a (by omega)).2
 have eb := (hf b (by omega)).2
 have : f a = f b := by have e : (f a : Int) = (f b : Int) := e; omega
 rw [this] at ea
 exact hd a b h1 (by omega) (ea.symm.trans eb)
end
structure UniP (k : Nat) (Ms : List DFA) (M : DFA) (cnt : Nat → Nat) (G : List (List Int)) : Prop where
 gl : G.length = k
 cl : ∀ y : Nat, y < k → (ix G (y : Int)).length = PN Ms + cnt y
 old : ∀ i q y : Nat, i < Ms.length → q < (ix Ms (i : Int)).Final.length → y < k → ix (ix G (y : Int)) ((PN (Ms.take i) + q : Nat) : Int) = (PN (Ms.take i) : Int) + ix (ix (ix Ms (i : Int)).Next (q : Int)) (y : Int)
 new : ∀ q y : Nat, y < k → q < cnt y → ix (ix G (y : Int)) ((PN Ms + q : Nat) : Int) = (PN Ms : Int) + ix (ix M.Next (q : Int)) (y : Int)
section
variable {k x q : Nat} {Ms : List DFA} {M : DFA} {cnt cnt' : Nat → Nat} {G : List (List Int)} {v : Int}
theorem UniP.start (h : Uni k Ms G) : UniP k Ms M (fun _ => 0) G := ⟨h.gl, fun y hy => h.cl y hy, fun i q y hi hq hy => h.at_ i q y hi hq hy, fun q y _ h => absurd h (Nat.not_lt_zero _)⟩
theorem UniP.congr (h : UniP k Ms M cnt G) (e : ∀ y, y < k → cnt y = cnt' y) : UniP k Ms M cnt' G :=
 ⟨h.gl, fun y hy => by rw [← e y hy]; exact h.cl y hy, h.old, fun q y hy hq => h.new q y hy (by rw [e y hy]; exact hq)⟩
theorem UniP.step (h : UniP k Ms M cnt G) (hx : x < k) (hc : cnt x = q) (hv : v = (PN Ms : Int) + ix (ix M.Next (q : Int)) (x : Int)) : UniP k Ms M (fun y => if y = x then q + 1 else cnt y) (st G (x : Int) (ix G (x : Int) ++ [v])) := by
 have hg := h.gl
 have hcx := h.cl x hx
 have e1 : ∀ y : Nat, y < k → ix (st G (x : Int) (ix G (x : Int) ++ [v])) (y : Int) = if y = x then ix G (x : Int) ++ [v] else ix G (y : Int) := fun y hy => by
  rw [ix_st _ (by omega) (by omega) (by omega)]
  by_cases e : y = x
  ·subst e; rw [if_pos rfl, if_pos rfl]
  ·rw [if_neg (by omega), if_neg e]
 refine ⟨by simp [hg], fun y hy => ?_, fun i q y hi hq hy => ?_, fun p y hy hp => ?_⟩
 ·rw [e1 y hy]
  by_cases e : y = x
  ·rw [if_pos e, if_pos e]; simp; omega
  ·rw [if_neg e, if_neg e]; exact h.cl y hy
 ·rw [e1 y hy]
  by_cases e : y = x
  ·subst e
   rw [if_pos rfl, ixA (by have := PN_le hi; omega)]
   exact h.old i q y hi hq hy
  ·rw [if_neg e]; exact h.old i q y hi hq hy
 ·rw [e1 y hy]
  by_cases e : y = x
  ·subst e
   rw [if_pos rfl] at hp ⊢
   by_cases hpq : p = q
   ·subst hpq
    rw [ixL' (by omega)]; exact hv
   ·rw [ixA (by omega)]
    exact h.new p y hy (by omega)
  ·rw [if_neg e] at hp ⊢
   exact h.new p y hy hp
theorem J5T {α : Type} [Inhabited α] {l : List α} {a : α} {i : Nat} (hi : i < (l ++ [a]).length) : (i < l.length ∧ ix (l ++ [a]) (i : Int) = ix l (i : Int)) ∨ (i = l.length ∧ ix (l ++ [a]) (i : Int) = a) := by
 simp only [List.length_append, List.length_singleton] at hi
 by_cases h : i < l.length
 ·exact .inl ⟨h, ixA h⟩
 ·exact .inr ⟨by omega, ixL' (by omega)⟩
theorem UniP.all (h : UniP k Ms M (fun _ => M.Final.length) G) : Uni k (Ms ++ [M]) G := by
 refine ⟨h.gl, fun y hy => by rw [h.cl y hy, J6M], fun i q y hi hq hy => ?_⟩
 rcases J5T hi with ⟨h1, e⟩ | ⟨h1, e⟩
 ·rw [e] at hq ⊢
  rw [List.take_append_of_le_length (by omega)]
  exact h.old i q y h1 hq hy
 ·rw [e] at hq ⊢
  subst h1
  rw [List.take_append_of_le_length (Nat.le_refl _), List.take_length]
  exact h.new q y hy hq
theorem Uni.nil (k : Nat) : Uni k [] (List.replicate k ([] : List Int)) := ⟨by simp, fun y hy => by rw [J0j _ _ hy]; rfl, fun i q y hi _ _ => by simp at hi⟩
def cntL (n x q : Nat) (y : Nat) : Nat := if y < x then n else if y = x then q else 0
theorem UniP.stepL {n : Nat} (h : UniP k Ms M (cntL n x q) G) (hx : x < k) (hv : v = (PN Ms : Int) + ix (ix M.Next (q : Int)) (x : Int)) : UniP k Ms M (cntL n x (q + 1)) (st G (x : Int) (ix G (x : Int) ++ [v])) :=
 (h.step hx (by simp [cntL]) hv).congr fun y _ => by
  unfold cntL
  by_cases e : y = x
  ·subst e; simp
  ·rw [if_neg e]
   by_cases e2 : y < x
   ·rw [if_pos e2, if_pos e2]
   ·rw [if_neg e2, if_neg e2, if_neg e, if_neg e]
theorem UniP.nextL {n : Nat} (h : UniP k Ms M (cntL n x n) G) : UniP k Ms M (cntL n (x + 1) 0) G :=
 h.congr fun y _ => by
  unfold cntL
  by_cases e : y = x
  ·subst e; simp
  ·by_cases e2 : y < x
   ·rw [if_pos e2, if_pos (by omega)]
   ·rw [if_neg e2, if_neg e, if_neg (by omega)]; split <;> rfl
end
structure SynJ (k : Nat) (ds : List DFA) (s : Syntactic) (L : List (List Bool)) : Prop where
 mon : Mon k (syJ ds k) s
 ll : L.length = ds.length
 la : ∀ i : Nat, i < ds.length → (ix L (i : Int)).length = s.Words.length ∧ ∀ j : Nat, j < s.Words.length → ix (ix L (i : Int)) j = acc (ix ds (i : Int)) (ix s.Words j)
 ac : s.Accept = ix L 0
 n : s.Words.length ≤ 400
 few : ∃ Ms, Mins k ds Ms ∧ PN Ms ≤ 32
section
variable {k : Nat} {ds Ms : List DFA} {gens : List (List Int)} {r : run} {s s' : Syntactic} {L L' : List (List Bool)}
theorem SynJ.acc_ (h : SynJ k ds s L) (h1 : 1 ≤ ds.length) : Acc (acc (ix ds 0)) s := by
 have := h.la 0 (by omega)
 rw [show ((0 : Nat) : Int) = 0 from rfl, ← h.ac] at this
 exact ⟨this.1, this.2⟩
theorem SynJ.uniq (h : SynJ k ds s L) (h' : SynJ k ds s' L') (h1 : 1 ≤ ds.length) : s = s' ∧ L = L' := by
 have e := h.mon.uniq h'.mon (h.acc_ h1) (h'.acc_ h1)
 subst e
 refine ⟨rfl, J0e (h.ll.trans h'.ll.symm) fun i hi => ?_⟩
 have hi : i < ds.length := by rw [← h.ll]; exact hi
 have a := h.la i hi
 have b := h'.la i hi
 refine J0e (a.1.trans b.1.symm) fun j hj => ?_
 have hj : j < s.Words.length := by rw [← a.1]; exact hj
 rw [a.2 j hj, b.2 j hj]
theorem Mins.uniq {Ms' : List DFA} (h : Mins k ds Ms) (h' : Mins k ds Ms') : Ms = Ms' :=
 J0e (h.len.trans h'.len.symm) fun i hi => (h.min i (by rw [← h.len]; exact hi)).uniq (h'.min i (by rw [← h.len]; exact hi))
theorem SynJ.fin (h : SynJ k ds s L) (hg : GV gens = true) (hgl : gens.length = k) (he : Eqv k (vl gens) (syJ ds k)) : ∃ r, Fin gens true r ∧ r.words.length ≤ 400 := by
 have hk6 := (J0f.1 hg).2.1
 have hm := h.mon.congr (by omega) he.symm
 obtain ⟨r, hr⟩ := J8x hg (n := 400) (by omega) fun W hW hd => Nat.le_trans (J8W (k := k) hm W (fun w hw => by rw [← hgl]; exact hW w hw) hd) h.n
 refine ⟨r, hr, ?_⟩
 have c := hr.CL_ hg
 rw [hgl] at c
 have := c.uniq hm.cl
 rw [this]; exact h.n
structure PartsOk (Ms : List DFA) (P : List part) : Prop where
 len : P.length = Ms.length
 at_ : ∀ a : Nat, a < Ms.length → (ix P (a : Int)).start = (PN (Ms.take a) : Int) ∧ (ix P (a : Int)).final = (ix Ms (a : Int)).Final ∧ (ix P (a : Int)).shift = (PN (Ms.take a) : Int)
theorem PartsOk.nil : PartsOk [] [] := ⟨rfl, fun a h => by simp at h⟩
theorem PartsOk.push {P : List part} (h : PartsOk Ms P) {M : DFA} (hs : M.Start = 0) : PartsOk (Ms ++ [M]) (P ++ [⟨(PN Ms : Int) + M.Start, M.Final, (PN Ms : Int)⟩]) := by
 have hl := h.len
 refine ⟨by simp [hl], fun a ha => ?_⟩
 rcases J5T ha with ⟨h1, e⟩ | ⟨h1, e⟩
 ·rw [e, ixA (by omega), List.take_append_of_le_length (by omega)]
  exact h.at_ a h1
 ·rw [e]
  subst h1
  rw [ixL' (by omega), List.take_append_of_le_length (Nat.le_refl _), List.take_length]
  exact ⟨by rw [hs]; simp, rfl, rfl⟩
section
variable {P : List part}
theorem J7a (hu : Uni k Ms gens) (hm : Mins k ds Ms) (hg : GV gens = true) (h1 : 1 ≤ k) (h6 : k ≤ 6) (h32 : PN Ms ≤ 32) (hP : PartsOk Ms P) (hF : Fin gens true r) {a i : Nat} (ha : a < Ms.length) (hi : i < r.words.length) :
  (ix P (a : Int)).start < (ix r.Enum.Elems i).length ∧ 0 ≤ (ix P (a : Int)).start ∧ 0 ≤ ix (ix r.Enum.Elems i) (ix P (a : Int)).start - (ix P (a : Int)).shift ∧ ix (ix r.Enum.Elems i) (ix P (a : Int)).start - (ix P (a : Int)).shift < (ix P (a : Int)).final.length ∧ (ix P (a : Int)).final.length ≤ 32 ∧
   ix (ix P (a : Int)).final (ix (ix r.Enum.Elems i) (ix P (a : Int)).start - (ix P (a : Int)).shift) = acc (ix ds (a : Int)) (ix r.words i) := by
 have hgl := hu.gl
 have c := hF.CL_ hg
 rw [hgl] at c
 have hw := c.lw hi
 obtain ⟨e1, e2, e3⟩ := hP.at_ a ha
 have hle := PN_le ha
 have M := hm.min a (by rw [← hm.len]; exact ha)
 have hpos := M.pos
 have hv := hu.vl_at hm hg h1 h6 h32 ha (q := 0) (by omega) hw
 have hok := vl_ok hg (w := ix r.words i) (by rw [hgl]; exact hw)
 have hl0 := hu.len h1
 have Dm := M.da h1 h6 (by omega)
 have hin := rn_lw Dm M.le.symm hw (q := 0) (by omega) (by omega)
 rw [hF.1.si.eix (i := (i : Int)) (by omega) (by omega), e1, e2, e3]
 simp only [Nat.add_zero] at hv
 rw [show ((0 : Nat) : Int) = 0 from rfl] at hv
 rw [hv]
 have e4 : (PN (Ms.take a) : Int) + rn (ix Ms (a : Int)) 0 (ix r.words i) - (PN (Ms.take a) : Int) = rn (ix Ms (a : Int)) 0 (ix r.words i) := by omega
 rw [e4, ← M.acc_ (by omega) hw, acc, M.st]
 exact ⟨by omega, by omega, hin.1, hin.2, by omega, rfl⟩
theorem J8S (hu : Uni k Ms gens) (hm : Mins k ds Ms) (hg : GV gens = true) (h1 : 1 ≤ k) (h6 : k ≤ 6) (h32 : PN Ms ≤ 32) (hP : PartsOk Ms P) (hF : Fin gens true r) : PtI P r := fun a i ha hi => by
 have := J7a hu hm hg h1 h6 h32 hP hF (a := a) (i := i) (by rw [← hP.len]; exact ha) hi
 exact ⟨this.2.1, this.1, ⟨by omega, by omega⟩, this.2.2.1, this.2.2.2.1⟩
theorem J8Q (hu : Uni k Ms gens) (hm : Mins k ds Ms) (hg : GV gens = true) (h1 : 1 ≤ k) (h6 : k ≤ 6) (hd : 1 ≤ ds.length) (h32 : PN Ms ≤ 32) (hP : PartsOk Ms P) (hF : Fin gens true r) (hn : r.words.length ≤ 400)
  {T : List (List Int)} {pl : List Bool} (hT : TabI gens r r.words.length T) (hpl : PlI gens r r.words.length pl) (hL : L.length = P.length) (hLs : ∀ a : Nat, a < P.length → LsI P r L a) {im : List Int} (him : im = ix r.Enum.Right 0) :
  SynJ k ds ⟨(gens.length : Int), T, r.words, im, ix L 0, pl⟩ L := by
 have hgl := hu.gl
 have hz := hF.w0 hg
 have hPl := hP.len
 have hml := hm.len
 obtain ⟨r1, r2⟩ := hF.1.rt.2 0 hz.2
 rw [show ((0 : Nat) : Int) = 0 from rfl, ← him] at r1 r2
 have hmon : Mon k (vl gens) ⟨(gens.length : Int), T, r.words, im, ix L 0, pl⟩ :=
  J8B hg hgl hF (by rw [hgl]) hT.1 (fun i hi => (hT.2 i hi).1) (fun i j hi hj => (hT.2 i hi).2 j hj) (by omega)
   (fun x hx => by
    obtain ⟨a1, a2, a3⟩ := r2 x (by omega)
    obtain ⟨v, ev⟩ := Int.eq_ofNat_of_zero_le a1
    rw [hz.1] at a3
    exact ⟨v, ev, by omega, by rw [← ev]; exact a3⟩) hpl.len hpl.pos (by rw [hpl.all hg hF, hgl])
 refine ⟨hmon.congr (by omega) (hu.eqv hm hg h1 h6 h32), by omega, fun i hi => ?_, rfl, hn, Ms, hm, h32⟩
 have := hLs i (by omega)
 refine ⟨this.1, fun j hj => ?_⟩
 rw [this.2 j hj]
 exact (J7a hu hm hg h1 h6 h32 hP hF (by omega) hj).2.2.2.2.2
end
end
theorem J6l {k : Nat} {d M : DFA} {W : List Str} (D : Da d) (hk : (k : Int) = d.Letters) (c : Can k (nero d k) (acc d) M W) : W.length ≤ d.Final.length := by
 apply Classical.byContradiction
 intro hc
 obtain ⟨a, b, q1, q2, e⟩ := pigeon d.Final.length (fun m => rho d (ix W (m : Int))) fun m hm => J5x D hk (c.cl.lw (by omega))
 have : nero d k (ix W (a : Int)) = nero d k (ix W (b : Int)) := by
  rw [J4a]
  intro w hw
  have e : rn d d.Start (ix W (a : Int)) = rn d d.Start (ix W (b : Int)) := e
  rw [J0B, J0B, e]
 have := c.cl.inj (show a < W.length by omega) (show b < W.length by omega) this
 omega
theorem few4 {gens : List (List Int)} (hg : GV gens = true) (h4 : (ix gens 0).length ≤ 4) : ∃ r, Fin gens true r ∧ r.words.length ≤ 256 := by
 have key : ∀ W : List Str, (∀ w ∈ W, LW gens.length w) → (∀ i j : Nat, i < j → j < W.length → vl gens (ix W i) ≠ vl gens (ix W j)) → W.length ≤ 256 := fun W hW hd => by
  apply Classical.byContradiction
  intro hc
  have ok : ∀ i : Nat, i < W.length → VF (vl gens (ix W i)) = true ∧ (vl gens (ix W i)).length = (ix gens 0).length := fun i hi => vl_ok hg (hW _ (J0g.2 ⟨i, hi, rfl⟩))
  obtain ⟨a, b, hab, hb, he⟩ := pigeon 256 (fun m => code4 (vl gens (ix W (m : Int)))) (fun m hm => by
   obtain ⟨h1, h2⟩ := ok m (by omega)
   have e0 := entry4 h1 (by omega) 0
   have e1 := entry4 h1 (by omega) 1
   have e2 := entry4 h1 (by omega) 2
   have e3 := entry4 h1 (by omega) 3
   simp only [code4]; omega)
  obtain ⟨a1, a2⟩ := ok a (by omega)
  obtain ⟨b1, b2⟩ := ok b (by omega)
  have p0 := entry4 a1 (by omega) 0
  have p1 := entry4 a1 (by omega) 1
  have p2 := entry4 a1 (by omega) 2
  have p3 := entry4 a1 (by omega) 3
  have q0 := entry4 b1 (by omega) 0
  have q1 := entry4 b1 (by omega) 1
  have q2 := entry4 b1 (by omega) 2
  have q3 := entry4 b1 (by omega) 3
  simp only [code4] at he
  refine hd a b hab (by omega) (J0e (by omega) fun j hj => ?_)
  have hj4 : j < 4 := by omega
  rcases (by omega : j = 0 ∨ j = 1 ∨ j = 2 ∨ j = 3) with rfl | rfl | rfl | rfl <;> omega
 obtain ⟨r, hr⟩ := J8x hg (n := 256) (by omega) key
 refine ⟨r, hr, key r.words (fun w hw => ((hr.CL_ hg).mem w).1 hw |>.1.1) fun i j hij hj e => ?_⟩
 have := (hr.CL_ hg).inj (by omega) hj e
 omega
theorem SynJ.one {k : Nat} {d : DFA} {s : Syntactic} {L : List (List Bool)} (hk : d.Letters = k) (hk9 : k < 159) (h : SynJ k [d] s L) : SynD d s := by
 obtain ⟨Ms, hm, h32⟩ := h.few
 have hml : Ms.length = 1 := hm.len
 have hle := PN_le (Ms := Ms) (i := 0) (by omega)
 have M := hm.min 0 (by simp)
 obtain ⟨W, c⟩ := M
 exact ⟨⟨k, hk, ⟨h.mon.congr hk9 (J6A d k), h.acc_ (by simp)⟩, _, W, c, by have := c.fl; omega⟩, h.n⟩
theorem SynD.joint {k : Nat} {d : DFA} {s : Syntactic} (hk : d.Letters = k) (hk9 : k < 159) (h : SynD d s) : SynJ k [d] s [s.Accept] := by
 obtain ⟨k', e, hs, M, W, c, hW⟩ := h.k
 have : k' = k := by omega
 subst this
 refine ⟨hs.mon.congr hk9 (J6A d k').symm, rfl, fun i hi => ?_, rfl, h.n, [M], ⟨rfl, fun i hi => ?_⟩, ?_⟩
 ·have : i = 0 := by simpa using hi
  subst this
  exact ⟨hs.acc.al, hs.acc.ac⟩
 ·have : i = 0 := by simpa using hi
  subst this
  exact ⟨W, c⟩
 ·have := c.fl
  simp [PN]; omega
abbrev zeroS : Syntactic := ⟨0, [], [], [], [], []⟩
section
variable {d : DFA} {k : Nat}
theorem J6W {M : DFA} (h : MinOf k d M) : Mins k [d] [M] := ⟨rfl, fun i hi => by
 have : i = 0 := by simpa using hi
 subst this
 exact h⟩
theorem J2W {K : Syntactic → Int → Prop} (h1 : ¬ Da d → K zeroS (daC d)) (h3 : Da d → 4 < d.Final.length → (∀ s, ¬ SynD d s) → K zeroS 3) (h0 : Da d → ∀ s, SynD d s → K s 0) : J0w d K := by
 unfold J0w
 refine J12 ?_
 by_cases hv : DV d = true
 case neg =>
  rw [if_neg (fun hh => hv (daC0.1 hh))]
  exact h1 fun D => hv (J26.2 D)
 rw [if_pos (daC0.2 hv)]
 have D := J26.1 hv
 have l1 := D.l1
 have l6 := D.l6
 obtain ⟨k, hk⟩ := Int.eq_ofNat_of_zero_le (show 0 ≤ d.Letters by omega)
 refine J3M D hk.symm fun M W c => ?_
 have hM : MinOf k d M := ⟨W, c⟩
 have hms := J6W hM
 have hMl := hM.le
 have hst := hM.st
 have hpn : PN [M] = M.Final.length := by simp [PN]
 have hfew := c.fl
 refine fun _ => ?_
 by_cases h32 : 32 < M.Final.length
 ·have hno : ∀ s, ¬ SynD d s := fun s hs => by
   obtain ⟨k', e, _, M', W', c', hW'⟩ := hs.k
   have : k' = k := by omega
   subst this
   have := (c.uniq c').2
   subst this
   omega
  have hle := J6l D hk.symm c
  have := D.f2
  refine ⟨⟨by omega, by omega⟩, ?_⟩
  rw [if_pos (by omega)]
  exact h3 D (by omega) hno
 ·refine ⟨⟨by omega, by omega⟩, ?_⟩
  rw [if_neg (by omega)]
  have DM := hM.da (by omega) (by omega) (by omega)
  have hMn := DM.nx
  have hkn : M.Letters.toNat = k := by omega
  refine ⟨by omega, by omega, ?_⟩
  rw [hkn]
  refine LoopWP.to k (fun s => s.1) (fun s => s.1 ≤ k ∧ UniP k [] M (cntL M.Final.length s.1 0) s.2) ⟨Nat.zero_le _, (UniP.start (Uni.nil k)).congr fun y _ => by simp [cntL]⟩ (fun s h => h.1) ?_
  rintro ⟨x, G⟩ X ⟨hx, hG⟩ hX
  try dsimp only at hx hG ⊢
  unfold J36
  rw [List.length_replicate, hkn]
  have hgl := hG.gl
  split
  ·rename_i hlt
   have hxk : x < k := by omega
   refine LoopWP.to M.Final.length (fun s => s.1) (fun s => s.1 ≤ M.Final.length ∧ UniP k [] M (cntL M.Final.length x s.1) s.2) ⟨Nat.zero_le _, hG⟩ (fun s h => h.1) ?_
   rintro ⟨q, G⟩ Y ⟨hq, hG⟩ hY
   try dsimp only at hq hG ⊢
   have hgl := hG.gl
   unfold J30
   split
   ·rename_i hlt2
    have hat := DM.at_ (q := q) (x := x) (by omega) (by omega) (by omega) (by omega)
    have hcl := hG.cl x hxk
    have hc0 : cntL M.Final.length x q x = q := by simp [cntL]
    rw [hc0, J81] at hcl
    exact ⟨by omega, by omega, by omega, by omega, by omega, by omega, ⟨by omega, by omega⟩, by simp; omega, by omega, by omega, hY (q + 1, _) ⟨by dsimp only; omega, hG.stepL hxk (by simp [J81])⟩ rfl⟩
   ·have : q = M.Final.length := by omega
    subst this
    exact ⟨⟨by omega, by omega⟩, hX (x + 1, _) ⟨by dsimp only; omega, hG.nextL⟩ rfl⟩
  ·rename_i hlt
   have : x = k := by omega
   subst this
   have hu : Uni x [M] G := (hG.congr (cnt' := fun _ => M.Final.length) fun y hy => by simp [cntL, hy]).all
   have hg := hu.GV_ hms (by omega) (by omega) (by simp) (by omega)
   have he := hu.eqv hms hg (by omega) (by omega) (by omega)
   refine ⟨⟨by omega, by omega⟩, by simp, ⟨by omega, by omega⟩, ?_⟩
   refine J48 hg (fun d' hl => ?_) fun r hr h2000 => ?_
   ·rw [if_neg (by decide)]
    have hle := J6l D hk.symm c
    have hl0 := hu.len (by omega)
    refine h3 D (by
     apply Classical.byContradiction
     intro hc
     obtain ⟨r, hr, _⟩ := few4 hg (by omega)
     exact hl.noFin hg r hr) fun s hs => ?_
    obtain ⟨r, hr, _⟩ := (hs.joint hk (by omega)).fin hg hu.gl he
    exact hl.noFin hg r hr
   ·rw [if_pos rfl]
    have hF : Fin G true r := ⟨hr, h2000⟩
    have hel := hF.el
    refine fun _ => ?_
    by_cases h400 : 400 < r.words.length
    ·rw [if_pos (by omega)]
     have hle := J6l D hk.symm c
     have hl0 := hu.len (by omega)
     refine h3 D (by
      apply Classical.byContradiction
      intro hc
      obtain ⟨r', hr', h4⟩ := few4 hg (by omega)
      have := (hF.uniq hg hr').2
      rw [this] at h400
      omega) fun s hs => ?_
     obtain ⟨r', hr', h4⟩ := (hs.joint hk (by omega)).fin hg hu.gl he
     have := (hF.uniq hg hr').2
     rw [this] at h400
     omega
    ·rw [if_neg (by omega)]
     have hz := hF.w0 hg
     have hrt := hF.1.rt.1
     have hr0 := (hF.1.rt.2 0 hz.2).1
     rw [show ((0 : Nat) : Int) = 0 from rfl] at hr0
     refine fun _ => ⟨by omega, by omega, J1j (by omega) ⟨by omega, by omega, by omega, by omega, by omega, by omega, ?_⟩⟩
     have hP : PartsOk [M] (([] : List part) ++ [(⟨(0 : Int) + M.Start, M.Final, (0 : Int)⟩ : part)]) := by
      have := PartsOk.nil.push (M := M) hst
      rw [J81] at this
      exact this
     refine J6D hg hF (by omega) (J8S hu hms hg (by omega) (by omega) (by omega) hP hF) (by simp) (by simp) fun w T pl L hw hT hpl hL hLs => ?_
     subst hw
     exact h0 D _ ((J8Q hu hms hg (by omega) (by omega) (by simp) (by omega) hP hF (by omega) hT hpl hL hLs rfl).one hk (by omega))
end
end Sg
namespace Sg
open Go
set_option linter.unusedVariables false
set_option linter.unusedSimpArgs false
section
variable {α : Type} {k : Nat} {ρ : Str → α} {s : Syntactic}
theorem Mon.sh (h : Mon k ρ s) (hn : s.Words.length ≤ 400) : SH s.Table = true := by
 have hp := h.pos
 have ht := h.tl
 refine J8w.2 ⟨by omega, by omega, fun i hi => J5H.2 ⟨by rw [h.rl i (by omega), ht], fun j hj => ?_⟩⟩
 rw [h.rl i (by omega)] at hj
 obtain ⟨m, e, hm, _⟩ := h.tb i j (by omega) hj
 rw [e, ht]; omega
theorem Mon.imB (h : Mon k ρ s) : inB s.Table.length s.Images = true := J8O.2 fun x hx => by
 rw [h.il] at hx
 obtain ⟨m, e, hm, _⟩ := h.im x hx
 rw [e, h.tl]; omega
theorem Mon.clo (h : Mon k ρ s) (hk : k < 159) (hr : RC k ρ) (hl : LCm k ρ) {x : Int} : Clo s.Table s.Images x ↔ ∃ w, LW k w ∧ w ≠ [] ∧ vlS s w = x := by
  constructor
  · intro hc
    induction hc with
    | @gen x hg =>
      obtain ⟨j, hj, e⟩ := J0g.1 hg
      rw [h.il] at hj
      refine ⟨[lt j], LW.lt hj hk, by simp, ?_⟩
      have := J5M s [] (x := j) (by omega)
      rw [List.nil_append, J7x, e] at this
      rw [this]
      obtain ⟨m, em, hm, _⟩ := h.im j hj
      rw [e] at em
      rw [em]
      exact (h.one_l hk hr hl hm).1
    | mul _ _ ih1 ih2 =>
      obtain ⟨u, u1, u2, u3⟩ := ih1
      obtain ⟨v, v1, v2, v3⟩ := ih2
      exact ⟨u ++ v, LW.app.2 ⟨u1, v1⟩, by simp [u2], by rw [h.J4q hk hr hl u1 v1, u3, v3]; rfl⟩
  · rintro ⟨w, hw, hne, rfl⟩
    revert hw hne
    induction w using snocRec with
    | nil => intro _ hne; exact absurd rfl hne
    | snoc p b ih =>
      intro hw _
      obtain ⟨hp, hb⟩ := LW.app.1 hw
      obtain ⟨x, hx, rfl⟩ := LW.letter hk hb
      have hgen : Clo s.Table s.Images (vlS s [lt x]) := by
        have := J5M s [] (x := x) (by omega)
        rw [List.nil_append, J7x] at this
        obtain ⟨m, em, hm, _⟩ := h.im x hx
        rw [this, em, (h.one_l hk hr hl hm).1, ← em]
        exact .gen (J0N (by omega) (by rw [h.il]; omega))
      by_cases hp0 : p = []
      · subst hp0; exact hgen
      · rw [h.J4q hk hr hl hp hb]
        exact .mul (ih hp hp0) hgen
end
section
variable {k : Nat} {ds Ms : List DFA} {gens : List (List Int)} {r : run} {fin : List Bool}
structure FinU (Ms : List DFA) (fin : List Bool) : Prop where
 len : fin.length = PN Ms
 at_ : ∀ i q : Nat, i < Ms.length → q < (ix Ms (i : Int)).Final.length → ix fin ((PN (Ms.take i) + q : Nat) : Int) = ix (ix Ms (i : Int)).Final (q : Int)
theorem FinU.nil : FinU [] [] := ⟨rfl, fun i q h => by simp at h⟩
theorem FinU.push (h : FinU Ms fin) (M : DFA) : FinU (Ms ++ [M]) (fin ++ M.Final) := by
 have hl := h.len
 refine ⟨by rw [J6M, List.length_append, hl], fun i q hi hq => ?_⟩
 rcases J5T hi with ⟨h1, e⟩ | ⟨h1, e⟩
 ·rw [e] at hq ⊢
  have := PN_le h1
  rw [List.take_append_of_le_length (by omega), ixA (by omega)]
  exact h.at_ i q h1 hq
 ·rw [e] at hq ⊢
  subst h1
  rw [List.take_append_of_le_length (Nat.le_refl _), List.take_length]
  have e2 : ((PN Ms + q : Nat) : Int) = (fin.length : Int) + (q : Int) := by omega
  rw [e2]
  simp only [ix, List.getD_eq_getElem?_getD]
  rw [show ((fin.length : Int) + (q : Int)).toNat = fin.length + q by omega, List.getElem?_append_right (by omega), show fin.length + q - fin.length = q by omega]
  simp
theorem FinU.val (h : FinU Ms fin) (hu : Uni k Ms gens) (hm : Mins k ds Ms) (hg : GV gens = true) (h1 : 1 ≤ k) (h6 : k ≤ 6) (h32 : PN Ms ≤ 32) {a : Nat} (ha : a < Ms.length) {w : Str} (hw : LW k w) :
  (PN (Ms.take a) : Int) < (vl gens w).length ∧ 0 ≤ ix (vl gens w) (PN (Ms.take a) : Int) ∧ ix (vl gens w) (PN (Ms.take a) : Int) < fin.length ∧ ix fin (ix (vl gens w) (PN (Ms.take a) : Int)) = acc (ix ds (a : Int)) w := by
 have hgl := hu.gl
 have hle := PN_le ha
 have M := hm.min a (by rw [← hm.len]; exact ha)
 have hpos := M.pos
 have hv := hu.vl_at hm hg h1 h6 h32 ha (q := 0) (by omega) hw
 have hok := vl_ok hg (w := w) (by rw [hgl]; exact hw)
 have hl0 := hu.len h1
 have hfl := h.len
 have Dm := M.da h1 h6 (by omega)
 have hin := rn_lw Dm M.le.symm hw (q := 0) (by omega) (by omega)
 simp only [Nat.add_zero] at hv
 rw [show ((0 : Nat) : Int) = 0 from rfl] at hv
 rw [hv]
 obtain ⟨q, eq⟩ := Int.eq_ofNat_of_zero_le hin.1
 rw [eq] at hin ⊢
 have := h.at_ a q ha (by omega)
 refine ⟨by omega, by omega, by omega, ?_⟩
 rw [show (PN (Ms.take a) : Int) + (q : Int) = ((PN (Ms.take a) + q : Nat) : Int) by omega, this, ← M.acc_ (by omega) hw, acc, M.st, eq]
structure SynF (k : Nat) (ds : List DFA) (s : Syntactic) : Prop where
 mon : Mon k (syJ ds k) s
 acc : Acc (Sg.acc (ix ds 0)) s
 n : s.Words.length ≤ 400
theorem J5h {im : List Int} {l : List Int} {n : Nat} {p : Int → Prop} (hn : n ≤ 400) {ac : List Bool} {T : List (List Int)} {wd : List Str} {K : Syntactic → Int → Prop} (hl : AscOfM p l) (hp : ∀ x, p x → 0 ≤ x ∧ x < n)
  (h : ∀ P : List Bool, P.length = n → (∀ i : Nat, i < n → (ix P i = true ↔ p i)) → K ⟨(gens.length : Int), T, wd, im, ac, P⟩ 0) : LoopWP (S := Nat × List Bool) (fun s Y => J3z gens T ac wd im l K (fun a b => Y (a, b)) s.1 s.2) (0, List.replicate n false) := by
 refine LoopWP.to l.length (fun s => s.1) (fun s => s.1 ≤ l.length ∧ s.2.length = n ∧ ∀ i : Nat, i < n → (ix s.2 i = true ↔ ∃ j : Nat, j < s.1 ∧ ix l j = i)) ⟨Nat.zero_le _, by simp, fun i hi => ?_⟩ (fun s h => h.1) ?_
 ·dsimp only; rw [J0j _ _ hi]; simp
 rintro ⟨b, P⟩ Y ⟨hb, hP, hI⟩ hY
 try dsimp only at hb hP hI ⊢
 unfold J3z
 split
 ·rename_i hlt
  have hx := hp _ ((hl.2 (ix l b)).1 (J0N (by omega) hlt))
  refine ⟨by omega, hlt, hx.1, by omega, hY (b + 1, _) ⟨by dsimp only; omega, by simp [hP], fun i hi => ?_⟩ rfl⟩
  dsimp only
  rw [ix_st _ hx.1 (by omega) (by omega)]
  by_cases e : (i : Int) = ix l b
  ·rw [if_pos e]
   exact ⟨fun _ => ⟨b, by omega, e.symm⟩, fun _ => rfl⟩
  ·rw [if_neg e, hI i hi]
   constructor
   ·rintro ⟨j, h1, h2⟩; exact ⟨j, by omega, h2⟩
   ·rintro ⟨j, h1, h2⟩
    by_cases ej : j = b
    ·subst ej; exact absurd h2.symm e
    ·exact ⟨j, by omega, h2⟩
 ·have : b = l.length := by omega
  subst this
  exact h P hP fun i hi => by rw [hI i hi, ← hl.2, J0g]
theorem J6s (hu : Uni k Ms gens) (hm : Mins k ds Ms) (hg : GV gens = true) (h1 : 1 ≤ k) (h6 : k ≤ 6) (hd : 1 ≤ ds.length) (h32 : PN Ms ≤ 32) (hf : FinU Ms fin) {K : Syntactic → Int → Prop}
  (h3 : (∀ r, Fin gens true r → 400 < r.words.length) → K zeroS 3) (h0 : ∀ s, SynF k ds s → K s 0) : J3X gens 0 fin K := by
 have hgl := hu.gl
 have hml := hm.len
 have he := hu.eqv hm hg h1 h6 h32
 unfold J3X
 refine J5l (fun hn => absurd ⟨(J0f.1 hg).1, (J0f.1 hg).2.1⟩ hn) (fun _ hn => by rw [hg] at hn; cases hn) (fun _ _ hn => ?_) fun _ r hF => ?_
 ·rw [if_neg (by decide)]
  exact h3 fun r hr => absurd hr (hn r)
 rw [if_pos rfl]
 have hel := hF.el
 have hz := hF.w0 hg
 have c := hF.CL_ hg
 rw [hgl] at c
 refine fun _ => ?_
 by_cases h400 : 400 < r.words.length
 ·rw [if_pos (by omega)]
  exact h3 fun r' hr' => by rw [← (hF.uniq hg hr').2]; exact h400
 rw [if_neg (by omega)]
 refine fun _ => J5k hg hF ⟨by omega, by omega, ?_⟩
 refine LoopWP.to r.words.length (fun s => s.1) (fun s => s.1 ≤ r.words.length ∧ s.2.1.length = s.1 ∧ s.2.2.length = s.1 ∧ ∀ j : Nat, j < s.1 → ix s.2.1 j = acc (ix ds 0) (ix r.words j) ∧ ix s.2.2 j = ix r.words j) ⟨Nat.zero_le _, rfl, rfl, fun j hj => by simp at hj⟩ (fun s h => h.1) ?_
 rintro ⟨i, A, W⟩ Y ⟨hi, hA, hW, hI⟩ hY
 try dsimp only at hi hA hW hI ⊢
 unfold J57
 split
 ·rename_i hlt
  have hi' : i < r.words.length := by omega
  have hwl := hF.1.si.wl i hi'
  obtain ⟨v1, v2, v3, v4⟩ := hf.val hu hm hg h1 h6 h32 (a := 0) (by omega) (c.lw hi')
  rw [show (PN (Ms.take 0) : Int) = 0 by simp [PN]] at v1 v2 v3 v4
  have ee : ix r.Enum.Elems (i : Int) = vl gens (ix r.words i) := hF.1.si.eix (by omega) (by omega)
  refine ⟨by omega, hlt, J18 hg hF.1.si rfl rfl (by omega) (by omega) (by omega) ?_⟩
  rw [ee]
  refine ⟨by simp; omega, by omega, v1, v2, v3, by simp; omega, hY (i + 1, _, _) ⟨by dsimp only; omega, by simp [hA], by simp [hW], fun j hj => ?_⟩ rfl⟩
  dsimp only at hj ⊢
  by_cases e : j = i
  ·subst e
   rw [ixL' (by omega), ixL' (by omega)]
   exact ⟨v4, rfl⟩
  ·rw [ixA (by omega), ixA (by omega)]
   exact hI j (by omega)
 ·have hir : i = r.words.length := by omega
  subst hir
  have eW : W = r.words := J0e hW fun j hj => (hI j (by omega)).2
  subst eW
  refine LoopWP.to k (fun s => s.1) (fun s => s.1 ≤ k ∧ s.2.length = s.1 ∧ ∀ x : Nat, x < s.1 → ix s.2 x = fnd r.Enum.Elems (ix gens x)) ⟨Nat.zero_le _, rfl, fun j hj => by simp at hj⟩ (fun s h => h.1) ?_
  rintro ⟨x, im⟩ Z ⟨hx, him, hJ⟩ hZ
  try dsimp only at hx him hJ ⊢
  unfold J51
  split
  ·rename_i hlt2
   refine ⟨by omega, hlt2, J1N ⟨by simp; omega, hZ (x + 1, _) ⟨by dsimp only; omega, by simp [him], fun y hy => ?_⟩ rfl⟩⟩
   dsimp only at hy ⊢
   by_cases e : y = x
   ·subst e; rw [ixL' (by omega)]
   ·rw [ixA (by omega)]; exact hJ y (by omega)
  ·have hxk : x = k := by omega
   subst hxk
   have him2 : ∀ y : Nat, y < x → ∃ m : Nat, ix im y = m ∧ m < r.words.length ∧ vl gens (ix r.words m) = vl gens [lt y] := fun y hy => by
    have hmem : vl gens [lt y] ∈ r.Enum.Elems := by
     obtain ⟨j, hj, ej⟩ := c.place (LW.lt hy (by omega) : LW x [lt y])
     exact (hF.1.si.mem).2 ⟨ix r.words j, J0g.2 ⟨j, hj, rfl⟩, ej⟩
    rw [J56 hg (by omega)] at hmem ⊢
    obtain ⟨f1, f2, f3⟩ := J5D hmem
    obtain ⟨m, em⟩ := Int.eq_ofNat_of_zero_le f1
    refine ⟨m, by rw [hJ y hy, em], by omega, ?_⟩
    rw [← f3, em, hF.1.si.eix (by omega) (by omega)]
   have mk : ∀ P : List Bool, P.length = r.words.length → (∀ i : Nat, 0 < i → i < r.words.length → ix P i = true) → (ix P 0 = true ↔ ∃ w, LW x w ∧ w ≠ [] ∧ vl gens w = vl gens []) → Mon x (vl gens) ⟨(gens.length : Int), tabT r.Enum.Elems, r.words, im, A, P⟩ := fun P p1 p2 p3 =>
    J8B hg hgl hF (by rw [hgl]) (by simp [tabT, hel]) (fun i hi => by rw [J7g (by omega)]; exact hel)
     (fun i j hi hj => by
      obtain ⟨a1, a2, a3⟩ := J8L hg hF.1 hi hj
      obtain ⟨v, ev⟩ := Int.eq_ofNat_of_zero_le a1
      exact ⟨v, ev, by omega, by rw [← ev]; exact a3⟩) him him2 p1 p2 p3
   classical
   let P0 : List Bool := (iota r.words.length).map fun i => if i = 0 then decide (∃ w, LW x w ∧ w ≠ [] ∧ vl gens w = vl gens []) else true
   have hP0 : ∀ i : Nat, i < r.words.length → ix P0 i = if (i : Int) = 0 then decide (∃ w, LW x w ∧ w ≠ [] ∧ vl gens w = vl gens []) else true := fun i hi => by
    show ix ((iota r.words.length).map _) (i : Int) = _
    rw [J3r _ (by omega) (by simp; omega), J3w hi]
   have m0 := mk P0 (by simp [P0]) (fun i h0 hi => by rw [hP0 i hi, if_neg (by omega)]) (by have := hP0 0 hz.2; rw [show ((0 : Nat) : Int) = 0 from rfl, if_pos rfl] at this; rw [this]; simp)
   have rc : RC x (vl gens) := fun u v b hu hv hb e => by rw [J1T, J1T, e]
   have lc : LCm x (vl gens) := fun u v w hu hv hw e => by
    rw [J5d hg (by rw [hgl]; exact hw) (by rw [hgl]; exact hu), J5d hg (by rw [hgl]; exact hw) (by rw [hgl]; exact hv), e]
   refine J4h (m0.sh (by show r.words.length ≤ 400; omega)) m0.imB fun l hl => ?_
   rw [hel]
   refine J5h (by omega) hl (fun y hy => ?_) fun P hPl hP => ?_
   ·obtain ⟨w, w1, w2, w3⟩ := (m0.clo (by omega) rc lc).1 hy
    obtain ⟨m, em, hm', _⟩ := m0.val (by omega) rc lc w1
    rw [em] at w3
    have hm' : m < r.words.length := hm'
    omega
   ·have hPi : ∀ i : Nat, i < r.words.length → (ix P i = true ↔ ∃ w, LW x w ∧ w ≠ [] ∧ vl gens w = vl gens (ix r.words i)) := fun i hi => by
     rw [hP i hi, m0.clo (by omega) rc lc]
     refine exists_congr fun w => and_congr_right fun w1 => and_congr_right fun _ => ?_
     obtain ⟨m, em, hm', rm⟩ := m0.val (by omega) rc lc w1
     have hm' : m < r.words.length := hm'
     have rm : vl gens (ix r.words m) = vl gens w := rm
     rw [em]
     constructor
     ·intro e
      have : m = i := by omega
      subst this
      exact rm.symm
     ·intro e
      rw [c.inj hm' hi (rm.trans e)]
    have hmon := mk P hPl (fun i h0 hi => (hPi i hi).2 (J78 c hi h0)) (by
     have := hPi 0 hz.2
     rw [show ((0 : Nat) : Int) = 0 from rfl, hz.1] at this
     exact this)
    exact h0 _ ⟨hmon.congr (by omega) he, ⟨hA, fun i hi => (hI i hi).1⟩, by show r.words.length ≤ 400; omega⟩
end
section
variable {d : DFA}
theorem J7W {k : Nat} {M : DFA} (D : Da M) (hk : M.Letters = k) : Uni k [M] (gensD M) := by
 have hkn : M.Letters.toNat = k := by omega
 have hn := D.nx
 refine ⟨by simp [hkn], fun x hx => ?_, fun i q x hi hq hx => ?_⟩
 ·rw [J71 (by omega)]; simp [PN, hn]
 ·have : i = 0 := by simpa using hi
  subst this
  have hq : q < M.Final.length := hq
  rw [J71 (by omega)]
  show ix (col M x) ((PN ([M].take 0) + q : Nat) : Int) = (PN ([M].take 0) : Int) + ix (ix M.Next (q : Int)) (x : Int)
  have e : PN ([M].take 0) = 0 := rfl
  rw [e, Nat.zero_add, J9e (by omega)]
  simp
theorem J3E {K : Syntactic → Int → Prop} (h1 : ¬ Da d → K zeroS (daC d)) (h3 : Da d → 4 < d.Final.length → (∀ s, ¬ SynD d s) → K zeroS 3) (h0 : Da d → ∀ s, SynD d s → K s 0) : J2J d K := by
 unfold J2J
 refine J1r ?_
 by_cases hv : DV d = true
 case neg =>
  rw [if_neg (fun hh => hv (daC0.1 hh))]
  exact h1 fun D => hv (J26.2 D)
 rw [if_pos (daC0.2 hv)]
 have D := J26.1 hv
 have l1 := D.l1
 have l6 := D.l6
 obtain ⟨k, hk⟩ := Int.eq_ofNat_of_zero_le (show 0 ≤ d.Letters by omega)
 refine J4C D hk.symm fun M W c => ?_
 have hM : MinOf k d M := ⟨W, c⟩
 have hms := J6W hM
 have hMl := hM.le
 have hst := hM.st
 have hpn : PN [M] = M.Final.length := by simp [PN]
 have hfew := c.fl
 refine fun _ => ?_
 by_cases h32 : 32 < M.Final.length
 ·rw [if_pos (by omega)]
  have hle := J6l D hk.symm c
  exact h3 D (by omega) fun s hs => by
   obtain ⟨k', e, _, M', W', c', hW'⟩ := hs.k
   have : k' = k := by omega
   subst this
   have := (c.uniq c').2
   subst this
   omega
 ·rw [if_neg (by omega)]
  have DM := hM.da (by omega) (by omega) (by omega)
  refine J5j (J26.2 DM) ?_
  have hu := J7W DM hMl
  have hg := hu.GV_ hms (by omega) (by omega) (by simp) (by omega)
  have he := hu.eqv hms hg (by omega) (by omega) (by omega)
  rw [hst]
  have hfu : FinU [M] M.Final := by
   have := FinU.nil.push M
   simpa using this
  refine J6s hu hms hg (by omega) (by omega) (by simp) (by omega) hfu (fun hn => ?_) fun s hs => ?_
  ·have hle := J6l D hk.symm c
   have hl0 := hu.len (by omega)
   refine h3 D (by
    apply Classical.byContradiction
    intro hc
    obtain ⟨r', hr', h4⟩ := few4 hg (by omega)
    have := hn r' hr'
    omega) fun s hs => ?_
   obtain ⟨r', hr', h4⟩ := (hs.joint hk (by omega)).fin hg hu.gl he
   have := hn r' hr'
   omega
  ·exact h0 D s ⟨⟨k, hk, ⟨hs.mon.congr (by omega) (J6A d k), hs.acc⟩, M, W, c, by omega⟩, hs.n⟩
end
end Sg
namespace Sg
open Go
set_option linter.unusedVariables false
set_option linter.unusedSimpArgs false
theorem J4f {a b : List Str} {K : Bool → Prop} (h1 : a = b → K true) (h0 : a ≠ b → K false) : J1R a b K := by
 unfold J1R
 intro _ _
 split
 ·rename_i hl
  refine LoopWP.scan a.length (fun j => ix a (j : Int) = ix b (j : Int)) ?_
  intro k X hk hI hX
  show J2N a b K X k
  unfold J2N
  split
  ·refine ⟨by omega, by omega, by omega, by omega, ?_⟩
   split
   ·rename_i he; exact hX (by omega) he
   ·rename_i hne; exact h0 fun e => hne (by rw [e])
  ·exact h1 (J0e (by omega) fun j hj => hI j (by omega))
 ·rename_i hl; exact h0 fun e => hl (by rw [e])
theorem J2k {a b : List Bool} {K : Bool → Prop} (h1 : a = b → K true) (h0 : a ≠ b → K false) : J0s a b K := by
 unfold J0s
 intro _ _
 split
 ·rename_i hl
  refine LoopWP.scan a.length (fun j => ix a (j : Int) = ix b (j : Int)) ?_
  intro k X hk hI hX
  show J14 a b K X k
  unfold J14
  split
  ·refine ⟨by omega, by omega, ?_⟩
   by_cases ea : ix a (k : Int) = true
   ·rw [if_pos ea]
    refine ⟨by omega, by omega, ?_⟩
    by_cases eb : ix b (k : Int) = true
    ·rw [if_pos eb]; exact hX (by omega) (ea.trans eb.symm)
    ·rw [if_neg eb]; exact h0 fun e => eb (by rw [← e]; exact ea)
   ·rw [if_neg ea]
    refine ⟨by omega, by omega, ?_⟩
    by_cases eb : ix b (k : Int) = true
    ·rw [if_pos eb]; exact h0 fun e => ea (by rw [e]; exact eb)
    ·rw [if_neg eb]; exact hX (by omega) (by rw [Bool.not_eq_true] at ea eb; exact ea.trans eb.symm)
  ·exact h1 (J0e (by omega) fun j hj => hI j (by omega))
 ·rename_i hl; exact h0 fun e => hl (by rw [e])
theorem J5O {a b : Syntactic} {K : Bool → Prop} (h1 : a = b → K true) (h0 : a ≠ b → K false) : J10 a b K := by
 unfold J10
 split
 ·rename_i e1
  refine J4n ?_
  split
  ·rename_i e2
   have e2 := of_decide_eq_true e2
   refine J4f (fun e3 => ?_) fun n => ?_
   ·rw [if_pos rfl]
    refine J1P ?_
    split
    ·rename_i e4
     have e4 := of_decide_eq_true e4
     refine J2k (fun e5 => ?_) fun n => ?_
     ·rw [if_pos rfl]
      refine J2k (fun e6 => h1 ?_) fun n => h0 fun e => n (by rw [e])
      obtain ⟨a1, a2, a3, a4, a5, a6⟩ := a
      obtain ⟨b1, b2, b3, b4, b5, b6⟩ := b
      simp only at e1 e2 e3 e4 e5 e6
      rw [e1, e2, e3, e4, e5, e6]
     ·rw [if_neg (by decide)]; exact h0 fun e => n (by rw [e])
    ·rename_i n; exact h0 fun e => n (by rw [e]; simp)
   ·rw [if_neg (by decide)]; exact h0 fun e => n (by rw [e])
  ·rename_i n; exact h0 fun e => n (by rw [e]; simp)
 ·rename_i n; exact h0 fun e => n (by rw [e])
structure ShS (s : Syntactic) : Prop where
 l1 : 1 ≤ s.Letters
 l6 : s.Letters ≤ 6
 sh : SH s.Table = true
 wl : s.Words.length = s.Table.length
 al : s.Accept.length = s.Table.length
 pl : s.Plus.length = s.Table.length
 il : (s.Images.length : Int) = s.Letters
 ib : inB s.Table.length s.Images = true
theorem law21_small_ok {d : DFA} {most : Int} {K : Bool → Prop} (h1 : Da d → d.Final.length ≤ most → d.Letters ≤ 2 → K true) (h0 : K false) : law21_small d most K := by
 unfold law21_small
 intro _
 split
 ·split
  ·refine J1r ?_
   split
   ·rename_i e; exact h1 (J26.1 (daC0.1 e)) (by assumption) (by assumption)
   ·exact h0
  ·exact h0
 ·exact h0
end Sg
namespace Sg
open Go
set_option linter.unusedVariables false
set_option linter.unusedSimpArgs false
def abD : DFA := ⟨2, 0, [true, false, false], [[1, 2], [2, 0], [2, 2]]⟩
def abW : List Str := [[], [97], [98], [97, 97], [97, 98], [98, 97]]
def abF (w : Str) : Int × Int × Int := (rn abD 0 w, rn abD 1 w, rn abD 2 w)
instance (u v : Str) : Decidable (SL u v) := by unfold SL; infer_instance
theorem J8v : Da abD := J26.1 (by decide +kernel)
theorem J7L (u v : Str) : abF (u ++ v) = (rn abD (abF u).1 v, rn abD (abF u).2.1 v, rn abD (abF u).2.2 v) := by
 simp only [abF, J0B]
theorem ab_in {w : Str} (hw : LW 2 w) {q : Int} (h0 : 0 ≤ q) (h1 : q < 3) : 0 ≤ rn abD q w ∧ rn abD q w < 3 := rn_lw J8v (k := 2) rfl hw h0 h1
theorem J5P {q : Int} (h0 : 0 ≤ q) (h1 : q < 3) : q = 0 ∨ q = 1 ∨ q = 2 := by omega
theorem J8I : Eqv 2 abF (syn (acc abD) 2) := fun u v hu hv => by
 rw [J3x]
 constructor
 ·intro h x y hx hy
  have hx' := ab_in hx (q := 0) (by omega) (by omega)
  have e : rn abD (rn abD 0 x) u = rn abD (rn abD 0 x) v := by
   have h1 : rn abD 0 u = rn abD 0 v := congrArg (·.1) h
   have h2 : rn abD 1 u = rn abD 1 v := congrArg (·.2.1) h
   have h3 : rn abD 2 u = rn abD 2 v := congrArg (·.2.2) h
   rcases J5P hx'.1 hx'.2 with e | e | e <;> rw [e] <;> assumption
  show ix abD.Final (rn abD 0 (x ++ u ++ y)) = ix abD.Final (rn abD 0 (x ++ v ++ y))
  rw [J0B, J0B, J0B, J0B, e]
 ·intro h
  have tell : ∀ p q : Int, 0 ≤ p → p < 3 → 0 ≤ q → q < 3 → ix abD.Final p = ix abD.Final q → ix abD.Final (rn abD p [98]) = ix abD.Final (rn abD q [98]) → p = q := fun p q p0 p1 q0 q1 => by
   rcases J5P p0 p1 with rfl | rfl | rfl <;> rcases J5P q0 q1 with rfl | rfl | rfl <;> decide
  have lb : LW 2 [98] := LW.one.2 (by decide)
  have la : LW 2 [97] := LW.one.2 (by decide)
  have at_ : ∀ x : Str, LW 2 x → rn abD (rn abD 0 x) u = rn abD (rn abD 0 x) v := fun x hx => by
   have hx' := ab_in hx (q := 0) (by omega) (by omega)
   have hu' := ab_in hu hx'.1 hx'.2
   have hv' := ab_in hv hx'.1 hx'.2
   have k1 := h x [] hx (LW.nil _)
   have k2 := h x [98] hx lb
   change ix abD.Final (rn abD 0 (x ++ u ++ [])) = ix abD.Final (rn abD 0 (x ++ v ++ [])) at k1
   change ix abD.Final (rn abD 0 (x ++ u ++ [98])) = ix abD.Final (rn abD 0 (x ++ v ++ [98])) at k2
   rw [List.append_nil, List.append_nil, J0B, J0B] at k1
   rw [J0B, J0B, J0B, J0B] at k2
   exact tell _ _ hu'.1 hu'.2 hv'.1 hv'.2 k1 k2
  have e0 : rn abD 0 u = rn abD 0 v := at_ [] (LW.nil _)
  have e1 : rn abD 1 u = rn abD 1 v := at_ [97] la
  have e2 : rn abD 2 u = rn abD 2 v := at_ [98] lb
  show (rn abD 0 u, rn abD 1 u, rn abD 2 u) = (rn abD 0 v, rn abD 1 v, rn abD 2 v)
  rw [e0, e1, e2]
theorem J87 {v : Str} (h : LW 2 v) (hl : v.length ≤ 2) : v ∈ ([[], [97], [98], [97, 97], [97, 98], [98, 97], [98, 98]] : List Str) := by
  have let_ : ∀ b : UInt8, LW 2 [b] → b = 97 ∨ b = 98 := fun b hb => by
    obtain ⟨x, hx, rfl⟩ := LW.letter (by omega) hb
    rcases (by omega : x = 0 ∨ x = 1) with rfl | rfl
    · exact .inl rfl
    · exact .inr rfl
  match v, h, hl with
  | [], _, _ => simp
  | [a], h, _ => rcases let_ a h with rfl | rfl <;> decide
  | [a, b], h, _ =>
    obtain ⟨h1, h2⟩ := LW.app.1 (show LW 2 ([a] ++ [b]) from h)
    rcases let_ a h1 with rfl | rfl <;> rcases let_ b h2 with rfl | rfl <;> decide
  | a :: b :: c :: v, _, hl => simp at hl
theorem J8q {w : Str} (hw : w ∈ abW) : Lst 2 abF w := by
 have hlw : ∀ w ∈ abW, w.length ≤ 2 ∧ ∀ b ∈ w, 97 ≤ b.toNat ∧ b.toNat < 97 + 2 := by decide +kernel
 have key : ∀ w ∈ abW, ∀ v ∈ ([[], [97], [98], [97, 97], [97, 98], [98, 97], [98, 98]] : List Str), abF v = abF w → ¬ SL v w := by decide +kernel
 refine ⟨(hlw w hw).2, fun v hv he hs => ?_⟩
 refine key w hw v (J87 hv ?_) he hs
 have := (hlw w hw).1
 rcases hs with h | ⟨h, _⟩ <;> omega
theorem J9d {w : Str} : LW 2 w → ∃ u ∈ abW, abF u = abF w := by
  induction w using snocRec with
  | nil => exact fun _ => ⟨[], by decide, rfl⟩
  | snoc w b ih =>
    intro h
    obtain ⟨h1, h2⟩ := LW.app.1 h
    obtain ⟨u, hu, e⟩ := ih h1
    obtain ⟨x, hx, rfl⟩ := LW.letter (by omega) h2
    have key : ∀ u ∈ abW, ∀ x < 2, ∃ r ∈ abW, abF r = abF (u ++ [lt x]) := by decide +kernel
    obtain ⟨r, hr, er⟩ := key u hu x hx
    exact ⟨r, hr, by rw [er, J7L, J7L, e]⟩
theorem ab_CL : CL 2 (syn (acc abD) 2) abW (fun _ => True) := by
 refine CL.congrR J8I ⟨by decide +kernel, fun w => ⟨fun hw => ⟨J8q hw, trivial⟩, fun ⟨hw, _⟩ => ?_⟩⟩
 obtain ⟨u, hu, e⟩ := J9d hw.1
 have := (J8q hu).uniq hw e
 rw [← this]; exact hu
theorem law21_awake_ok {K : Bool → Prop} (h : K true) : law21_awake K := by
 unfold law21_awake law21_ab
 refine J2W (d := abD) (fun n => absurd J8v n) (fun _ h4 _ => absurd h4 (by decide)) fun D s hs => ?_
 obtain ⟨k, ek, o, _⟩ := hs.k
 obtain rfl : k = 2 := by
  have : (2 : Int) = k := ek
  omega
 have ew : s.Words = abW := o.mon.cl.uniq ab_CL
 have hl : s.Accept.length = 6 := by rw [o.acc.al, ew]; rfl
 have a4 : ix s.Accept (4 : Int) = true := by
  have := o.acc.ac 4 (by rw [ew]; decide)
  rw [ew] at this
  exact this.trans (by decide +kernel)
 have a1 : ix s.Accept (1 : Int) = false := by
  have := o.acc.ac 1 (by rw [ew]; decide)
  rw [ew] at this
  exact this.trans (by decide +kernel)
 rw [if_pos rfl]
 refine J4f (fun _ => ?_) fun n => absurd ew n
 rw [if_pos rfl]
 refine fun _ => ?_
 rw [if_pos (by omega)]
 refine ⟨by omega, by omega, ?_⟩
 rw [if_pos a4]
 refine ⟨by omega, by omega, ?_⟩
 rw [if_neg (by rw [a1]; decide)]
 exact h
end Sg
namespace Sg
open Go
set_option linter.unusedVariables false
set_option linter.unusedSimpArgs false
theorem J2K {a b : Syntactic} {ea eb : Int} (h : a = b) (he : ea = eb) : (if ea = eb then (J10 a b fun r => if r = true then law21_awake fun q => q = true else false = true) else false = true) := by
 rw [if_pos he]
 exact J5O (fun _ => by rw [if_pos rfl]; exact law21_awake_ok rfl) fun n => absurd h n
theorem law21_of2_ok (d : DFA) : J0w d fun r26 r27 => J2J d fun r42 r43 => if r27 = r43 then (J10 r26 r42 fun r59 => if r59 = true then (law21_awake fun r65 => r65 = true) else false = true) else false = true := by
 refine J2W (fun nD => J3E (fun _ => ?_) (fun D _ _ => absurd D nD) fun D _ _ => absurd D nD) (fun D _ n => J3E (fun nD => absurd D nD) (fun _ _ _ => ?_) fun _ s hs => absurd hs (n s)) fun D s hs => J3E (fun nD => absurd D nD) (fun _ _ n => absurd hs (n s)) fun _ s' hs' => ?_
 ·exact J2K rfl rfl
 ·exact J2K rfl rfl
 ·exact J2K (hs.uniq hs') rfl
theorem law21_SyntacticMonoids_ok (d : DFA) : law21_SyntacticMonoids d (fun b => b = true) := by
 unfold law21_SyntacticMonoids
 refine J1r ?_
 split
 ·refine law21_small_ok (fun _ _ _ => ?_) ?_
  ·rw [if_pos rfl]; exact law21_of2_ok d
  ·rw [if_neg (by decide)]; exact law21_awake_ok rfl
 ·exact law21_of2_ok d
theorem SynD.le {d : DFA} {s : Syntactic} (h : SynD d s) : s.Letters = d.Letters := by
 obtain ⟨k, e, hs, _⟩ := h.k
 have e2 : s.Letters = k := hs.mon.le
 omega
theorem CL.len {α : Type} {k : Nat} {ρ : Str → α} {W : List Str} (h : CL k ρ W (fun _ => True)) (hr : RC k ρ) : ∀ n i : Nat, i < n → i < W.length → (ix W (i : Int)).length ≤ i
  | 0, i, hn, _ => absurd hn (Nat.not_lt_zero _)
  | n + 1, i, hn, hi => by
    have hw := ((h.mem _).1 (J0g.2 ⟨i, hi, rfl⟩)).1
    by_cases h0 : ix W (i : Int) = []
    · rw [h0]; simp
    · obtain ⟨p, b, e⟩ := snocEx h0
      rw [e] at hw
      obtain ⟨j, hj, ej⟩ := J0g.1 ((h.mem p).2 ⟨hw.pre hr, trivial⟩)
      have hs : SL (ix W (j : Int)) (ix W (i : Int)) := by rw [ej, e]; exact .inl (by simp)
      have hji := J2x h.asc hj hi hs
      have ih := CL.len h hr n j (by omega) hj
      rw [e, List.length_append]
      rw [ej] at ih
      simp; omega
theorem SynD.len {d : DFA} {s : Syntactic} (h : SynD d s) {i : Int} (h0 : 0 ≤ i) (h1 : i < s.Words.length) : (ix s.Words i).length ≤ 400 := by
 obtain ⟨k, _, o, _⟩ := h.k
 obtain ⟨j, rfl⟩ := Int.eq_ofNat_of_zero_le h0
 have := o.mon.cl.len (J9k _ _) (j + 1) j (by omega) (by omega)
 have := h.n
 omega
end Sg
namespace Sg
open Go
set_option linter.unusedVariables false
set_option linter.unusedSimpArgs false
end Sg
namespace Sg
open Go
set_option linter.unusedVariables false
set_option linter.unusedSimpArgs false
end Sg
namespace Sg
open Go
set_option linter.unusedVariables false
set_option linter.unusedSimpArgs false
section
variable {d : DFA} {s : Syntactic}
end
end Sg
namespace Sg
open Go
set_option linter.unusedVariables false
set_option linter.unusedSimpArgs false
end Sg
namespace Sg
open Go
set_option linter.unusedVariables false
set_option linter.unusedSimpArgs false
end Sg
namespace Sg
open Go
set_option linter.unusedVariables false
set_option linter.unusedSimpArgs false
structure GN (t : List (List Int)) (els gens nx : List Int) (inn : List Bool) : Prop where
 il : inn.length = t.length
 nl : nx.length = t.length
 el : ∀ x ∈ els, 0 ≤ x ∧ x < t.length
 me : ∀ x : Nat, x < t.length → (ix inn (x : Int) = true ↔ (x : Int) ∈ els)
 nd : els.Nodup
 cl : ∀ x ∈ els, Clo t gens x
 gl : ∀ g ∈ gens, 0 ≤ g ∧ g < t.length
 nx : ∀ x : Nat, x < t.length → 0 ≤ ix nx (x : Int) ∧ ix nx (x : Int) ≤ gens.length
theorem GN.add {t : List (List Int)} {els gens nx : List Int} {inn : List Bool} (h : GN t els gens nx inn) {y : Int} (h0 : 0 ≤ y) (h1 : y < t.length) (hn : ¬ ix inn y = true) (hc : Clo t gens y) : GN t (els ++ [y]) gens nx (st inn y true) := by
 have il := h.il
 obtain ⟨m, rfl⟩ := Int.eq_ofNat_of_zero_le h0
 refine ⟨by simp [il], h.nl, fun x hx => ?_, fun x hx => ?_, ?_, fun x hx => ?_, h.gl, h.nx⟩
 ·rcases List.mem_append.1 hx with hx | hx
  ·exact h.el x hx
  ·rw [List.mem_singleton.1 hx]; exact ⟨h0, h1⟩
 ·rw [ix_st _ (by omega) (by omega) (by omega), List.mem_append, List.mem_singleton]
  by_cases e : (x : Int) = m
  ·rw [if_pos e]; exact ⟨fun _ => .inr e, fun _ => rfl⟩
  ·rw [if_neg e, h.me x hx]; exact ⟨.inl, fun k => k.resolve_right e⟩
 ·rw [List.nodup_append]
  refine ⟨h.nd, by simp, fun a ha b hb => ?_⟩
  rw [List.mem_singleton.1 hb]
  rintro rfl
  exact hn ((h.me m (by omega)).2 ha)
 ·rcases List.mem_append.1 hx with hx | hx
  ·exact h.cl x hx
  ·rw [List.mem_singleton.1 hx]; exact hc
theorem GN.gen {t : List (List Int)} {els gens nx : List Int} {inn : List Bool} (h : GN t els gens nx inn) {g : Int} (g0 : 0 ≤ g) (g1 : g < t.length) : GN t els (gens ++ [g]) nx inn :=
 ⟨h.il, h.nl, h.el, h.me, h.nd, fun x hx => (h.cl x hx).mono fun y hy => List.mem_append.2 (.inl hy), fun x hx => by
  rcases List.mem_append.1 hx with hx | hx
  ·exact h.gl x hx
  ·rw [List.mem_singleton.1 hx]; exact ⟨g0, g1⟩, fun x hx => by have := h.nx x hx; simp; omega⟩
end Sg
namespace Sg
open Go
set_option linter.unusedVariables false
set_option linter.unusedSimpArgs false
def cod (im c : List Int) (x : Nat) : Int := (ix c (x : Int)) * (c.length : Int) + (ix c (ix im (x : Int)))
structure SPI (n : Nat) (im c : List Int) (R : Int) (x : Nat) (cnt : Int) (label mark nx : List Int) : Prop where
 ll : label.length = n * n
 ml : mark.length = n * n
 nl : nx.length = n
 le : ∀ v : Nat, v < n * n → ix mark (v : Int) ≤ R
 ex : ∃ m : List (Int × Int), NumI (cod im c) x (nx.take x) m ∧ cnt = m.length ∧ ∀ v : Nat, v < n * n → (ix mark (v : Int) = R ↔ mhas m (v : Int) = true) ∧ (mhas m (v : Int) = true → ix label (v : Int) = mgt m (v : Int))
end Sg
namespace Sg
open Go
set_option linter.unusedVariables false
set_option linter.unusedSimpArgs false
theorem SPI.start {n : Nat} {im c label mark nx : List Int} {R : Int} (ll : label.length = n * n) (ml : mark.length = n * n) (nl : nx.length = n) (le : ∀ v : Nat, v < n * n → ix mark (v : Int) < R) : SPI n im c R 0 0 label mark nx :=
 ⟨ll, ml, nl, fun v hv => by have := le v hv; omega, [], by simpa using NumI.start, rfl, fun v hv => ⟨⟨fun e => by have := le v hv; omega, fun h => by simp [mhas] at h⟩, fun h => by simp [mhas] at h⟩⟩
theorem J92 {n : Nat} {im c : List Int} (cl : c.length = n) (cr : ∀ j : Nat, j < n → 0 ≤ ix c (j : Int) ∧ ix c (j : Int) < n) (ir : ∀ j : Nat, j < n → 0 ≤ ix im (j : Int) ∧ ix im (j : Int) < n) {x y : Nat} (hx : x < n) (hy : y < n) (e : cod im c x = cod im c y) :
  ix c (x : Int) = ix c (y : Int) ∧ ix c (ix im (x : Int)) = ix c (ix im (y : Int)) := by
 have at_ : ∀ z : Nat, z < n → 0 ≤ ix c (ix im (z : Int)) ∧ ix c (ix im (z : Int)) < n := fun z hz => by
  have i := ir z hz
  obtain ⟨w, ew⟩ := Int.eq_ofNat_of_zero_le i.1
  rw [ew]
  exact cr w (by omega)
 have a := at_ x hx
 have b := at_ y hy
 unfold cod at e
 rw [cl] at e
 have h1 : (ix c (ix im (x : Int)) + (n : Int) * ix c (x : Int)) / n = ix c (x : Int) := by
  rw [Int.add_mul_ediv_left _ _ (by omega), Int.ediv_eq_zero_of_lt a.1 a.2]; omega
 have h2 : (ix c (ix im (y : Int)) + (n : Int) * ix c (y : Int)) / n = ix c (y : Int) := by
  rw [Int.add_mul_ediv_left _ _ (by omega), Int.ediv_eq_zero_of_lt b.1 b.2]; omega
 have e2 : ix c (ix im (x : Int)) + (n : Int) * ix c (x : Int) = ix c (ix im (y : Int)) + (n : Int) * ix c (y : Int) := by
  rw [Int.mul_comm (n : Int), Int.mul_comm (n : Int)]; omega
 have e3 : ix c (x : Int) = ix c (y : Int) := by rw [← h1, ← h2, e2]
 refine ⟨e3, ?_⟩
 rw [e3] at e2
 omega
structure SPO (n : Nat) (im c : List Int) (R : Int) (cnt : Int) (label mark nx : List Int) : Prop where
 ll : label.length = n * n
 ml : mark.length = n * n
 nl : nx.length = n
 le : ∀ v : Nat, v < n * n → ix mark (v : Int) ≤ R
 nm : ∃ k : Nat, cnt = k ∧ Nmb nx k
 fin : ∀ x y : Nat, x < n → y < n → ix nx (x : Int) = ix nx (y : Int) → ix c (x : Int) = ix c (y : Int) ∧ ix c (ix im (x : Int)) = ix c (ix im (y : Int))
theorem SPI.out {n : Nat} {im c label mark nx : List Int} {cnt R : Int} (cl : c.length = n) (cr : ∀ j : Nat, j < n → 0 ≤ ix c (j : Int) ∧ ix c (j : Int) < n) (ir : ∀ j : Nat, j < n → 0 ≤ ix im (j : Int) ∧ ix im (j : Int) < n)
  (h : SPI n im c R n cnt label mark nx) : SPO n im c R cnt label mark nx := by
 obtain ⟨m, hm, hc, _⟩ := h.ex
 have nl := h.nl
 have e : nx.take n = nx := List.take_of_length_le (by omega)
 rw [e] at hm
 exact ⟨h.ll, h.ml, nl, h.le, ⟨_, hc, hm.nmb⟩, fun x y hx hy he => J92 cl cr ir hx hy ((hm.eq hx hy).1 he)⟩
structure CCc (n : Nat) (c : List Int) (cnt : Int) : Prop where
 cl : c.length = n
 nm : ∃ k : Nat, cnt = k ∧ Nmb c k
theorem CCc.rg {n : Nat} {c : List Int} {cnt : Int} (h : CCc n c cnt) : ∀ j : Nat, j < n → 0 ≤ ix c (j : Int) ∧ ix c (j : Int) < n := fun j hj => by
 obtain ⟨k, _, hn⟩ := h.nm
 have hcl := h.cl
 obtain ⟨a, e, ha⟩ := hn.rg j (by omega)
 have hk : k ≤ n := by
  apply Classical.byContradiction
  intro hc
  obtain ⟨g, hg⟩ : ∃ g : Nat → Nat, ∀ a, a < k → g a < n ∧ ix c (g a : Int) = a := by
   have : ∀ a : Nat, ∃ q : Nat, a < k → q < n ∧ ix c (q : Int) = a := fun a => by
    by_cases ha : a < k
    ·obtain ⟨q, h1, h2⟩ := hn.on a ha
     exact ⟨q, fun _ => ⟨by omega, h2⟩⟩
    ·exact ⟨0, fun h => absurd h ha⟩
   exact Classical.axiomOfChoice this
  obtain ⟨a, b, hab, hb, e⟩ := pigeon n (fun a => (g a : Int)) fun a ha => ⟨by omega, by have := (hg a (by omega)).1; omega⟩
  have h1 := (hg a (by omega)).2
  have h2 := (hg b (by omega)).2
  rw [e] at h1
  omega
 omega
theorem CCc.le {n : Nat} {c : List Int} {cnt : Int} (h : CCc n c cnt) : cnt ≤ n := by
 obtain ⟨k, e, hn⟩ := h.nm
 by_cases h0 : k = 0
 ·omega
 ·obtain ⟨q, h1, h2⟩ := hn.on (k - 1) (by omega)
  have := h.rg q (by rw [← h.cl]; exact h1)
  omega
def Stb (t : List (List Int)) (c0 c : List Int) (n : Nat) (g : Int) : Prop := ∀ x y : Nat, x < n → y < n → ix c (x : Int) = ix c (y : Int) → ix c0 (ix (ix t g) (x : Int)) = ix c0 (ix (ix t g) (y : Int)) ∧ ix c0 (ix (ix t (x : Int)) g) = ix c0 (ix (ix t (y : Int)) g)
structure GOc (t : List (List Int)) (n : Nat) (c : List Int) (g R : Int) (cnt : Int) (im label mark sp c' : List Int) : Prop where
 il : im.length = n
 ll : label.length = n * n
 ml : mark.length = n * n
 sl : sp.length = n
 le : ∀ v : Nat, v < n * n → ix mark (v : Int) ≤ R
 cc : CCc n c' cnt
 fin : ∀ x y : Nat, x < n → y < n → ix c' (x : Int) = ix c' (y : Int) → ix c (x : Int) = ix c (y : Int)
 stb : Stb t c c' n g
structure GSc (t : List (List Int)) (n : Nat) (gens c0 : List Int) (k : Nat) (R cnt : Int) (im label mark sp c : List Int) : Prop where
 il : im.length = n
 ll : label.length = n * n
 ml : mark.length = n * n
 sl : sp.length = n
 le : ∀ v : Nat, v < n * n → ix mark (v : Int) ≤ R
 cc : CCc n c cnt
 fin : ∀ x y : Nat, x < n → y < n → ix c (x : Int) = ix c (y : Int) → ix c0 (x : Int) = ix c0 (y : Int)
 stb : ∀ h : Nat, h < k → Stb t c0 c n (ix gens (h : Int))
structure Sta (t : List (List Int)) (n : Nat) (gens p c : List Int) (cnt : Int) : Prop where
 cc : CCc n c cnt
 fin : ∀ x y : Nat, x < n → y < n → ix c (x : Int) = ix c (y : Int) → ix p (x : Int) = ix p (y : Int)
 stb : ∀ h : Nat, h < gens.length → Stb t c c n (ix gens (h : Int))
end Sg
namespace Sg
open Go
set_option linter.unusedVariables false
set_option linter.unusedSimpArgs false
theorem CanP.nmb {p : List Int} (hp : CanP p) {c : Int} (h1 : ∀ j : Nat, j < p.length → ix p (j : Int) + 1 ≤ c) (h2 : c = 0 ∨ ∃ j : Nat, j < p.length ∧ ix p (j : Int) + 1 = c) : ∃ k : Nat, c = k ∧ Nmb p k := by
 have h0 : 0 ≤ c := by
  rcases h2 with h2 | ⟨j, hj, e⟩
  ·omega
  ·have := (hp j hj).1; omega
 obtain ⟨k, rfl⟩ := Int.eq_ofNat_of_zero_le h0
 refine ⟨k, rfl, fun q hq => ?_, fun a ha => ?_, fun q a hq ha => ?_⟩
 ·obtain ⟨a, ea⟩ := Int.eq_ofNat_of_zero_le (hp q hq).1
  exact ⟨a, ea, by have := h1 q hq; omega⟩
 ·rcases h2 with h2 | ⟨j, hj, e⟩
  ·omega
  ·by_cases e2 : ix p (j : Int) = a
   ·exact ⟨j, hj, e2⟩
   ·obtain ⟨i, hi, ei⟩ := (hp j hj).2 a (by omega) (by omega)
    exact ⟨i, by omega, ei⟩
 ·obtain ⟨i, hi, ei⟩ := (hp q hq).2 a (by omega) ha
  exact ⟨i, hi, ei⟩
end Sg
namespace Sg
open Go
set_option linter.unusedVariables false
set_option linter.unusedSimpArgs false
end Sg
