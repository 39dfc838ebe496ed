/- -/
import Derived.Test.YtlneebpmblkllaaZp
import Derived.Test.YtlneebpmblkllaaFnx
set_option linter.unusedVariables false
set_option linter.unusedSimpArgs false
namespace Sg
open Go
def rho (d : DFA) : Str → Int := fun w => rn d d.Start w
section
variable {d : DFA} {k i x : Nat} {W : List Str} {S : List Int}
theorem J8t (d : DFA) (k : Nat) : RC k (rho d) := rn_RC d k d.Start
structure XI (d : DFA) (k i x : Nat) (W : List Str) (S : List Int) : Prop where
 cl : CL k (rho d) W (fun w => SL w (ix W i ++ [lt x]))
 il : i < W.length
 sl : S.length = W.length
 st : ∀ j : Nat, j < W.length → ix S j = rho d (ix W j)
theorem J67 (D : Da d) (hk : (k : Int) = d.Letters) {w : Str} (hw : LW k w) : 0 ≤ rho d w ∧ rho d w < d.Final.length := rn_lw D hk hw D.s0 D.s1
theorem XI.lw (h : XI d k i x W S) {j : Nat} (hj : j < W.length) : LW k (ix W j) := h.cl.lw hj
theorem XI.in_ (h : XI d k i x W S) (D : Da d) (hk : (k : Int) = d.Letters) {j : Nat} (hj : j < W.length) : 0 ≤ ix S j ∧ ix S j < d.Final.length := by
 rw [h.st j hj]; exact J67 D hk (h.lw hj)
theorem XI.next_ (h : XI d k i x W S) (hx : x < 159) : ix (ix d.Next (ix S i)) (x : Int) = rho d (ix W i ++ [lt x]) := by
 rw [h.st i h.il]; exact (J2R d d.Start _ hx).symm
theorem CL.few {F : Str → Prop} (h : CL k (rho d) W F) (D : Da d) (hk : (k : Int) = d.Letters) : W.length ≤ d.Final.length := h.le fun w hw => J67 D hk hw
theorem XI.few (h : XI d k i x W S) (D : Da d) (hk : (k : Int) = d.Letters) : W.length ≤ d.Final.length := h.cl.few D hk
theorem XI.known (h : XI d k i x W S) (hk : k < 159) (hx : x < k) {j : Nat} (hj : j < W.length) (e : ix S j = rho d (ix W i ++ [lt x])) : XI d k i (x + 1) W S :=
 ⟨h.cl.known ω (J0U ω ω) ((h.st j hj).symm.trans e), h.il, h.sl, h.st⟩
theorem XI.new (h : XI d k i x W S) (hk : k < 159) (hx : x < k) (hn : ∀ j : Nat, j < W.length → ix S j ≠ rho d (ix W i ++ [lt x])) : XI d k i (x + 1) (W ++ [ix W i ++ [lt x]]) (S ++ [rho d (ix W i ++ [lt x])]) := by
 have hi := h.il
 have hsl := h.sl
 refine ⟨?_, by simp; omega, by simp [hsl], fun j hj => ?_⟩
 ·rw [ixA hi]
  exact h.cl.new ω (LW.app.2 ⟨h.lw hi, LW.lt hx hk⟩) fun w hw => by
   obtain ⟨j, hj, rfl⟩ := J0g.1 hw
   rw [← h.st j hj]
   exact hn j hj
 ·simp only [List.length_append, List.length_singleton] at hj
  by_cases hjW : j < W.length
  ·rw [ixA ω, ixA hjW]; exact h.st j hjW
  ·have : j = W.length := ω
   rw [ixL' ω, ixL' this]
theorem XI.go (h : XI d k i k W S) (hk : k < 159) (hd : i + 1 < W.length) : XI d k (i + 1) 0 W S := ⟨h.cl.next (J8t d k) hk hd, hd, h.sl, h.st⟩
theorem XI.all (h : XI d k i k W S) (hk : k < 159) (hd : i + 1 = W.length) : CL k (rho d) W (fun _ => True) := h.cl.all (J8t d k) hk hd
theorem XI.start : XI d k 0 0 [[]] [d.Start] := by
 refine ⟨CL.start, by simp, rfl, fun j hj => ?_⟩
 have : j = 0 := by simpa using hj
 subst this
 rfl
structure YI (d : DFA) (k i : Nat) (W : List Str) (S : List Int) : Prop where
 il : i ≤ W.length
 sl : S.length = W.length
 st : ∀ j : Nat, j < W.length → ix S j = rho d (ix W j)
 at_ : i < W.length → XI d k i 0 W S
 al : i = W.length → CL k (rho d) W (fun _ => True)
 few : W.length ≤ d.Final.length
theorem YI.start (D : Da d) : YI d k 0 [[]] [d.Start] := ⟨by simp, rfl, (XI.start (d := d) (k := k)).st, fun _ => XI.start, fun h => by simp at h, by have := D.f1; simpa using this⟩
theorem XI.yi (h : XI d k i k W S) (hk : k < 159) (D : Da d) (hkl : (k : Int) = d.Letters) : YI d k (i + 1) W S :=
 ⟨h.il, h.sl, h.st, fun hd => h.go hk hd, fun hd => h.all hk hd, h.few D hkl⟩
structure RowsOk (d : DFA) (k i : Nat) (W : List Str) (Nx : List (List Int)) (Fn : List Bool) : Prop where
 nl : Nx.length = i
 fl : Fn.length = i
 fin : ∀ a : Nat, a < i → ix Fn a = acc d (ix W a)
 row : ∀ a : Nat, a < i → (ix Nx a).length = k
 nx : ∀ a x : Nat, a < i → x < k → ∃ j : Nat, ix (ix Nx a) x = j ∧ j < W.length ∧ rho d (ix W j) = rho d (ix W a ++ [lt x])
variable {Nx : List (List Int)} {Fn : List Bool} {row : List Int}
theorem RowsOk.start : RowsOk d k 0 W [] [] := ⟨rfl, rfl, fun a h => by omega, fun a h => by omega, fun a x h => by omega⟩
def RowI (d : DFA) (k i x : Nat) (W : List Str) (row : List Int) : Prop := ∀ y : Nat, y < x → ∃ j : Nat, ix row y = j ∧ j < W.length ∧ rho d (ix W j) = rho d (ix W i ++ [lt y])
theorem RowI.up (h : RowI d k i x W row) (hi : i < W.length) (c : Str) : RowI d k i x (W ++ [c]) row := fun y hy => by
 obtain ⟨j, e, hj, r⟩ := h y hy
 exact ⟨j, e, by simp; omega, by rw [ixA hj, ixA hi]; exact r⟩
theorem RowsOk.up (h : RowsOk d k i W Nx Fn) (hi : i ≤ W.length) (c : Str) : RowsOk d k i (W ++ [c]) Nx Fn := by
 refine ⟨h.nl, h.fl, fun a ha => ?_, h.row, fun a x ha hx => ?_⟩
 ·rw [ixA ω]; exact h.fin a ha
 ·obtain ⟨j, e, hj, r⟩ := h.nx a x ha hx
  exact ⟨j, e, by simp; omega, by rw [ixA hj, ixA ω]; exact r⟩
theorem RowsOk.push (h : RowsOk d k i W Nx Fn) (hl : row.length = k) (hr : RowI d k i k W row) : RowsOk d k (i + 1) W (Nx ++ [row]) (Fn ++ [acc d (ix W i)]) := by
 have hn := h.nl
 have hf := h.fl
 refine ⟨by simp [hn], by simp [hf], fun a ha => ?_, fun a ha => ?_, fun a x ha hx => ?_⟩
 ·by_cases hai : a = i
  ·subst hai; rw [ixL' ω]
  ·rw [ixA ω]; exact h.fin a ω
 ·by_cases hai : a = i
  ·subst hai; rw [ixL' ω]; exact hl
  ·rw [ixA ω]; exact h.row a ω
 ·by_cases hai : a = i
  ·subst hai; rw [ixL' ω]; exact hr x hx
  ·rw [ixA ω]; exact h.nx a x ω hx
theorem RowsOk.can (h : RowsOk d k W.length W Nx Fn) (c : CL k (rho d) W (fun _ => True)) {l : Int} (hl : l = k) : Can k (rho d) (acc d) ⟨l, 0, Fn, Nx⟩ W :=
 ⟨c, hl, rfl, h.fl, h.nl, h.fin, h.row, h.nx⟩
structure Nms (S : List Int) (m : List (Int × Int)) : Prop where
 has : ∀ q, mhas m q = true ↔ ∃ j : Nat, j < S.length ∧ ix S j = q
 get : ∀ j : Nat, j < S.length → ∃ j' : Nat, mgt m (ix S j) = j' ∧ j' < S.length ∧ ix S j' = ix S j
variable {m : List (Int × Int)}
theorem Nms.start (q : Int) : Nms [q] (mput [] q 0) := by
 refine ⟨fun a => ?_, fun j hj => ?_⟩
 ·simp only [mput, mhas, Bool.or_false, decide_eq_true_eq]
  constructor
  ·rintro rfl; exact ⟨0, by simp, rfl⟩
  ·rintro ⟨j, hj, rfl⟩
   have : j = 0 := by simpa using hj
   subst this; rfl
 ·have : j = 0 := by simpa using hj
  subst this
  exact ⟨0, by simp [mput, mgt, ix], by simp, rfl⟩
theorem Nms.new (h : Nms S m) {q : Int} (hn : ¬ mhas m q = true) : Nms (S ++ [q]) (mput m q (S.length : Int)) := by
 refine ⟨fun a => ?_, fun j hj => ?_⟩
 ·rw [J3c]
  simp only [Bool.or_eq_true, decide_eq_true_eq, h.has]
  constructor
  ·rintro (rfl | ⟨j, hj, e⟩)
   ·exact ⟨S.length, by simp, ixL⟩
   ·exact ⟨j, by simp; omega, by rw [ixA hj]; exact e⟩
  ·rintro ⟨j, hj, e⟩
   simp only [List.length_append, List.length_singleton] at hj
   by_cases hjS : j < S.length
   ·rw [ixA hjS] at e; exact .inr ⟨j, hjS, e⟩
   ·rw [ixL' ω] at e; exact .inl e.symm
 ·simp only [List.length_append, List.length_singleton] at hj
  rw [J42]
  by_cases hjS : j < S.length
  ·rw [ixA hjS, if_neg (fun e => hn ((h.has q).2 ⟨j, hjS, e⟩))]
   obtain ⟨j', e1, h1, h2⟩ := h.get j hjS
   exact ⟨j', e1, by simp; omega, by rw [ixA h1]; exact h2⟩
  ·have e : j = S.length := ω
   subst e
   rw [ixL, if_pos rfl]
   exact ⟨S.length, rfl, by simp, ixL⟩
def PlaceI (n c : Nat) (pl : List Int) : Prop := pl.length = n ∧ ∀ q : Nat, q < n → -1 ≤ ix pl q ∧ ix pl q < c
theorem PlaceI.set {n c : Nat} {pl : List Int} (h : PlaceI n c pl) {q v : Int} (h0 : 0 ≤ q) (h1 : q < n) (hv0 : -1 ≤ v) (hv1 : v < c) : PlaceI n c (Sg.st pl q v) := by
 refine ⟨by simp [h.1], fun p hp => ?_⟩
 rw [ix_st _ h0 (by rw [h.1]; exact h1) ω]
 split
 ·exact ⟨hv0, hv1⟩
 ·exact h.2 p hp
end
section
variable {d : DFA} {k : Nat}
theorem J64 {Nx : List (List Int)} {Fn : List Bool} {S : List Int} {K : DFA → List Int → Prop} {pl : List Int} (hS : ∀ j : Nat, j < S.length → 0 ≤ ix S j ∧ ix S j < d.Final.length) (hp : PlaceI d.Final.length S.length pl)
  (h : ∀ pl, PlaceI d.Final.length S.length pl → K ⟨d.Letters, 0, Fn, Nx⟩ pl) : LoopWP (S := Nat × List Int) (fun s X => J43 d Nx Fn S K (fun a b => X (a, b)) s.1 s.2) (0, pl) := by
 refine LoopWP.to S.length (fun s => s.1) (fun s => s.1 ≤ S.length ∧ PlaceI d.Final.length S.length s.2) ⟨Nat.zero_le _, hp⟩ (fun s h => h.1) ?_
 rintro ⟨a, pl⟩ X ⟨ha, hpl⟩ hX
 try dsimp only at ha hpl ⊢
 unfold J43
 split
 ·rename_i hlt
  have := hS a ω
  have hl := hpl.1
  exact ⟨ω, hlt, this.1, ω, hX (a + 1, _) ⟨by dsimp only; omega, hpl.set this.1 this.2 ω ω⟩ rfl⟩
 ·exact h pl hpl
theorem J63 {Nx : List (List Int)} {Fn : List Bool} {S : List Int} {K : DFA → List Int → Prop} (hd : d.Final.length ≤ 512) (hS : ∀ j : Nat, j < S.length → 0 ≤ ix S j ∧ ix S j < d.Final.length)
  (h : ∀ pl, PlaceI d.Final.length S.length pl → K ⟨d.Letters, 0, Fn, Nx⟩ pl) : LoopWP (S := Nat × List Int) (fun s X => J4c d Nx Fn S K (fun a b => X (a, b)) s.1 s.2) (0, List.replicate d.Final.length (0 : Int)) := by
 refine LoopWP.to d.Final.length (fun s => s.1) (fun s => s.1 ≤ d.Final.length ∧ s.2.length = d.Final.length ∧ ∀ q : Nat, q < s.1 → ix s.2 q = -1) ⟨Nat.zero_le _, by simp, fun q hq => by simp at hq⟩ (fun s h => h.1) ?_
 rintro ⟨a, pl⟩ X ⟨ha, hl, hpl⟩ hX
 try dsimp only at ha hl hpl ⊢
 unfold J4c
 rw [List.length_replicate]
 split
 ·rename_i hlt
  refine ⟨ω, ω, ⟨ω, ω⟩, hX (a + 1, _) ⟨by dsimp only; omega, by simp [hl], fun q hq => ?_⟩ rfl⟩
  dsimp only at hq ⊢
  rw [ix_st _ ω ω ω]
  split
  ·rfl
  ·exact hpl q ω
 ·exact J64 hS ⟨hl, fun q hq => by rw [hpl q ω]; omega⟩ h
theorem J5R (D : Da d) (hk : (k : Int) = d.Letters) {K : DFA → List Int → Prop} (h : ∀ t pl W, Can k (rho d) (acc d) t W → PlaceI d.Final.length W.length pl → K t pl) : J3N d K := by
 have h1 := D.l1
 have h6 := D.l6
 have hk9 : k < 159 := ω
 have f2 := D.f2
 have hnx := D.nx
 unfold J3N
 refine J0L ?_
 rw [if_pos (daC0.2 (J3J.2 D))]
 refine ⟨by simp, ?_⟩
 refine LoopWP.to d.Final.length (fun s => s.1) (fun s => ∃ W, YI d k s.1 W s.2.2.2.1 ∧ RowsOk d k s.1 W s.2.1 s.2.2.1 ∧ Nms s.2.2.2.1 s.2.2.2.2) ⟨[[]], YI.start D, RowsOk.start, Nms.start _⟩ (fun s ⟨W, hy, _⟩ => Nat.le_trans hy.il hy.few) ?_
 rintro ⟨i, Nx, Fn, S, m⟩ X ⟨W, hy, hr, hm⟩ hX
 try dsimp only at hy hr hm ⊢
 have hsl := hy.sl
 have hfew := hy.few
 unfold J5B
 split
 ·rename_i hlt
  have hi : i < W.length := ω
  refine ⟨ω, hlt, ω, ω, ?_⟩
  have hkn : d.Letters.toNat = k := ω
  refine LoopWP.to k (fun s => s.1) (fun s => s.1 ≤ k ∧ s.2.1.length = k ∧ ∃ V, XI d k i s.1 V s.2.2.1 ∧ RowsOk d k i V Nx Fn ∧ RowI d k i s.1 V s.2.1 ∧ Nms s.2.2.1 s.2.2.2 ∧ ∀ j : Nat, j < W.length → j < V.length ∧ ix s.2.2.1 j = ix S j) ⟨Nat.zero_le _, by simp [hkn], W, hy.at_ hi, hr, fun y hy => by simp at hy, hm, fun j hj => ⟨hj, rfl⟩⟩ (fun s h => h.1) ?_
  rintro ⟨x, row, S2, m2⟩ X2 ⟨hx, hrl, V, hxi, hrv, hri, hm2, hpre⟩ hX2
  try dsimp only at hx hrl hxi hrv hri hm2 hpre ⊢
  have hV := hxi.few D hk
  have hiV := hxi.il
  have hsV := hxi.sl
  have eS : ix S (i : Int) = rho d (ix W i) := hy.st i hi
  have hSin := (hy.at_ hi).in_ D hk hi
  have eW : rho d (ix W i) = rho d (ix V i) := by
   have e1 := hxi.st i hiV
   rw [← eS, ← e1]
   exact (hpre i hi).2.symm
  unfold J5I
  rw [List.length_replicate, hkn]
  split
  ·rename_i hxk
   have hxk' : x < k := ω
   have hat := D.at_ (q := ix S i) (x := x) hSin.1 hSin.2 ω ω
   have enx : ix (ix d.Next (ix S i)) (x : Int) = rho d (ix V i ++ [lt x]) := by
    rw [← hxi.next_ ω, hxi.st i hiV, eS, eW]
   rw [enx]
   refine ⟨hSin.1, ω, ω, ω, ?_⟩
   split
   ·rename_i hmh
    obtain ⟨j, hj, ej⟩ := (hm2.has _).1 hmh
    obtain ⟨j', e1, hj', e2⟩ := hm2.get j hj
    rw [ej] at e1 e2
    refine ⟨ω, ω, ⟨ω, ω⟩, hX2 (x + 1, _) ⟨by dsimp only; omega, by simp [hrl], V, hxi.known hk9 hxk' (j := j) ω ej, hrv, fun y hy => ?_, hm2, hpre⟩ rfl⟩
    dsimp only
    rw [e1, ix_st _ ω ω ω]
    by_cases hyx : y = x
    ·subst hyx
     rw [if_pos rfl]
     exact ⟨j', rfl, ω, (hxi.st j' ω).symm.trans e2⟩
    ·rw [if_neg ω]
     exact hri y ω
   ·rename_i hmh
    have hn : ∀ j : Nat, j < V.length → ix S2 j ≠ rho d (ix V i ++ [lt x]) := fun j hj e => hmh ((hm2.has _).2 ⟨j, ω, e⟩)
    have hnew := hxi.new hk9 hxk' hn
    refine ⟨by simp; omega, ω, ω, ⟨ω, ω⟩, hX2 (x + 1, _) ⟨by dsimp only; omega, by simp [hrl], _, hnew, hrv.up ω _, fun y hy => ?_, hm2.new hmh, fun j hj => ⟨by have := (hpre j hj).1; simp; omega, by dsimp only; have := hpre j hj; rw [ixA ω]; exact this.2⟩⟩ rfl⟩
    dsimp only
    rw [ix_st _ ω ω ω]
    by_cases hyx : y = x
    ·subst hyx
     rw [if_pos rfl]
     exact ⟨S2.length, rfl, by simp; omega, by rw [ixL' hsV, ixA hiV]⟩
    ·rw [if_neg ω]
     exact hri.up hiV _ y ω
  ·rename_i hxk
   have hxk' : x = k := ω
   subst hxk'
   have hyi := hxi.yi hk9 D hk
   rw [if_neg ω]
   have hfin : ix d.Final (ix S i) = acc d (ix V i) := by rw [eS, eW]; rfl
   have hn := hrv.nl
   have hf := hrv.fl
   rw [hfin]
   exact ⟨by simp; omega, hSin.1, hSin.2, by simp; omega, ⟨ω, ω⟩, hX (i + 1, _) ⟨V, hyi, hrv.push hrl hri, hm2⟩ rfl⟩
 ·rename_i hlt
  have hi : i = W.length := by have := hy.il; omega
  subst hi
  have c := hr.can (hy.al rfl) (l := d.Letters) hk.symm
  have hS : ∀ j : Nat, j < S.length → 0 ≤ ix S j ∧ ix S j < d.Final.length := fun j hj => by
   rw [hy.st j ω]; exact J67 D hk (c.cl.lw ω)
  have key := J63 (d := d) (Nx := Nx) (Fn := Fn) (S := S) (K := K) ω hS fun pl hpl => h _ pl W c (by rw [hsl] at hpl; exact hpl)
  exact ⟨fun _ => ⟨ω, ω, key⟩, fun _ => ⟨ω, ω, key⟩⟩
end
end Sg
namespace Sg
open Go
theorem J4W {x : Nat} (hx : x < 31) : byt [IntKind.u8.wrap ((97 : Int) + (x : Int))] = [lt x] := by
 have e : IntKind.u8.wrap ((97 : Int) + (x : Int)) = ((97 + x : Nat) : Int) := by rw [IntKind.wrap_u8]; omega
 rw [e]; rfl
section
variable {d : DFA} {k i x : Nat} {W : List Str} {S : List Int}
def MetI (n : Nat) (S : List Int) (met : List Bool) : Prop := met.length = n ∧ ∀ q : Nat, q < n → (ix met q = true ↔ ∃ j : Nat, j < S.length ∧ ix S j = q)
theorem MetI.set {n : Nat} {met : List Bool} (h : MetI n S met) {q : Int} (h0 : 0 ≤ q) (h1 : q < n) : MetI n (S ++ [q]) (Sg.st met q true) := by
 obtain ⟨q, rfl⟩ := Int.eq_ofNat_of_zero_le h0
 refine ⟨by simp [h.1], fun p hp => ?_⟩
 rw [ix_st _ ω (by rw [h.1]; omega) ω]
 by_cases hpq : p = q
 ·subst hpq
  rw [if_pos rfl]
  exact ⟨fun _ => ⟨S.length, by simp, ixL⟩, fun _ => rfl⟩
 ·rw [if_neg ω, h.2 p hp]
  constructor
  ·rintro ⟨j, hj, e⟩; exact ⟨j, by simp; omega, by rw [ixA hj]; exact e⟩
  ·rintro ⟨j, hj, e⟩
   simp only [List.length_append, List.length_singleton] at hj
   by_cases hjS : j < S.length
   ·rw [ixA hjS] at e; exact ⟨j, hjS, e⟩
   ·rw [ixL' ω] at e; omega
theorem XI.wl (h : XI d k i x W S) : ∀ w ∈ W, w.length ≤ W.length := by
  have key : ∀ j : Nat, j < W.length → (ix W j).length ≤ j := by
    intro j
    induction j using Nat.strongRecOn with
    | _ j ih =>
      intro hj
      by_cases h0 : ix W j = []
      · rw [h0]; simp
      · obtain ⟨p, b, e⟩ := snocEx h0
        have hm := (h.cl.mem _).1 (J0g.2 ⟨j, hj, rfl⟩)
        have hpl : SL p (ix W j) := by rw [e]; exact .inl (by simp)
        have hp : p ∈ W := (h.cl.mem p).2 ⟨(by rw [e] at hm; exact hm.1.pre (J8t d k)), hpl.trans hm.2⟩
        obtain ⟨a, ha, ea⟩ := J0g.1 hp
        have haj : a < j := J35 h.cl.asc ha hj (by rw [ea]; exact hpl)
        have := ih a haj ha
        rw [ea] at this
        rw [e]; simp; omega
  intro w hw
  obtain ⟨j, hj, rfl⟩ := J0g.1 hw
  have := key j hj
  omega
theorem J5z (D : Da d) (hk : (k : Int) = d.Letters) {K : List Int → List Str → Prop} (h : ∀ S W, CL k (rho d) W (fun _ => True) → S.length = W.length → (∀ j : Nat, j < W.length → ix S j = rho d (ix W j)) → K S W) : J1N d K := by
 have h1 := D.l1
 have h6 := D.l6
 have hk9 : k < 159 := ω
 have f2 := D.f2
 have hnx := D.nx
 have s0 := D.s0
 have s1 := D.s1
 unfold J1N
 refine fun _ => ⟨ω, ω, s0, by simpa using s1, ?_⟩
 refine LoopWP.to d.Final.length (fun s => s.1) (fun s => YI d k s.1 s.2.2.1 s.2.2.2 ∧ MetI d.Final.length s.2.2.2 s.2.1) ⟨YI.start D, ?_⟩ (fun s hy => Nat.le_trans hy.1.il hy.1.few) ?_
 ·have : MetI d.Final.length [] (List.replicate d.Final.length false) := ⟨by simp, fun q hq => by rw [J0f _ _ hq]; simp⟩
  have := this.set s0 s1
  simpa using this
 rintro ⟨i, met, W, S⟩ X ⟨hy, hm⟩ hX
 try dsimp only at hy hm ⊢
 have hsl := hy.sl
 have hfew := hy.few
 unfold J3D
 split
 ·rename_i hlt
  have hi : i < W.length := ω
  refine LoopWP.to k (fun s => s.1) (fun s => s.1 ≤ k ∧ XI d k i s.1 s.2.2.1 s.2.2.2 ∧ MetI d.Final.length s.2.2.2 s.2.1) ⟨Nat.zero_le _, hy.at_ hi, hm⟩ (fun s h => h.1) ?_
  rintro ⟨x, met2, V, S2⟩ X2 ⟨hx, hxi, hm2⟩ hX2
  try dsimp only at hx hxi hm2 ⊢
  have hV := hxi.few D hk
  have hiV := hxi.il
  have hsV := hxi.sl
  have hSin := hxi.in_ D hk hiV
  unfold J3z
  split
  ·rename_i hxk
   have hxk' : x < k := ω
   have hat := D.at_ (q := ix S2 i) (x := x) hSin.1 hSin.2 ω ω
   have enx := hxi.next_ (x := x) ω
   rw [enx] at hat ⊢
   have hml := hm2.1
   obtain ⟨q, eq⟩ := Int.eq_ofNat_of_zero_le hat.2.1
   refine ⟨ω, ω, hSin.1, ω, ω, ω, hat.2.1, ω, ?_⟩
   split
   ·rename_i hmt
    rw [eq] at hmt
    obtain ⟨j, hj, ej⟩ := (hm2.2 q ω).1 hmt
    exact ⟨⟨ω, ω⟩, hX2 (x + 1, _) ⟨by dsimp only; omega, hxi.known hk9 hxk' (j := j) ω (by rw [ej, eq]), hm2⟩ rfl⟩
   ·rename_i hmt
    rw [eq] at hmt
    have hn : ∀ j : Nat, j < V.length → ix S2 j ≠ rho d (ix V i ++ [lt x]) := fun j hj e => hmt ((hm2.2 q ω).2 ⟨j, ω, by rw [e, eq]⟩)
    have hnew := hxi.new hk9 hxk' hn
    have hwl := hxi.wl (ix V i) (J0U ω ω)
    rw [J4W ω]
    refine ⟨hat.2.1, ω, ω, ω, ⟨ω, ω⟩, by simp; omega, by simp; omega, by simp; omega, ⟨ω, ω⟩, hX2 (x + 1, _) ⟨by dsimp only; omega, hnew, hm2.set hat.2.1 hat.2.2⟩ rfl⟩
  ·rename_i hxk
   have hxk' : x = k := ω
   subst hxk'
   exact ⟨⟨ω, ω⟩, hX (i + 1, _) ⟨hxi.yi hk9 D hk, hm2⟩ rfl⟩
 ·rename_i hlt
  have hi : i = W.length := by have := hy.il; omega
  exact h S W (hy.al hi) hy.sl hy.st
def PlaceS (n : Nat) (S : List Int) (c : Nat) (pl : List Int) : Prop := PlaceI n S.length pl ∧ ∀ j : Nat, j < c → ix pl (ix S j) = j
theorem J5l (D : Da d) (hk : (k : Int) = d.Letters) {pl : List Int} {K : DFA → List Int → Prop} (c : CL k (rho d) W (fun _ => True)) (hsl : S.length = W.length) (hst : ∀ j : Nat, j < W.length → ix S j = rho d (ix W j)) (hp : PlaceS d.Final.length S S.length pl)
  (h : ∀ t, Can k (rho d) (acc d) t W → K t pl) : LoopWP (S := Nat × List (List Int) × List Bool) (fun s X => J3e d S pl K (fun a b c => X (a, b, c)) s.1 s.2.1 s.2.2) (0, [], []) := by
 have h1 := D.l1
 have h6 := D.l6
 have hk9 : k < 159 := ω
 have f2 := D.f2
 have hnx := D.nx
 have hfew := c.few D hk
 have hpl := hp.1.1
 refine LoopWP.to W.length (fun s => s.1) (fun s => s.1 ≤ W.length ∧ RowsOk d k s.1 W s.2.1 s.2.2) ⟨Nat.zero_le _, RowsOk.start⟩ (fun s h => h.1) ?_
 rintro ⟨i, Nx, Fn⟩ X ⟨hi, hr⟩ hX
 try dsimp only at hi hr ⊢
 unfold J3e
 split
 ·rename_i hlt
  have hiW : i < W.length := ω
  have eS := hst i hiW
  have hSin : 0 ≤ ix S i ∧ ix S i < d.Final.length := by rw [eS]; exact J67 D hk (c.lw hiW)
  refine ⟨ω, hlt, hSin.1, ω, fun _ => ?_⟩
  have hrow := (D.at_ (q := ix S i) (x := 0) hSin.1 hSin.2 ω ω).1
  refine LoopWP.to k (fun s => s.1) (fun s => s.1 ≤ k ∧ s.2.length = s.1 ∧ RowI d k i s.1 W s.2) ⟨Nat.zero_le _, rfl, fun y hy => by simp at hy⟩ (fun s h => h.1) ?_
  rintro ⟨x, row⟩ X2 ⟨hx, hrl, hri⟩ hX2
  try dsimp only at hx hrl hri ⊢
  unfold J4n
  split
  ·rename_i hxk
   have hxk' : x < k := ω
   have hat := D.at_ (q := ix S i) (x := x) hSin.1 hSin.2 ω ω
   have enx : ix (ix d.Next (ix S i)) (x : Int) = rho d (ix W i ++ [lt x]) := by rw [eS]; exact (J2R d d.Start _ ω).symm
   obtain ⟨j, hj, ej⟩ := c.place (LW.app.2 ⟨c.lw hiW, LW.lt hxk' hk9⟩)
   have epl : ix pl (ix (ix d.Next (ix S i)) (x : Int)) = j := by
    rw [enx, ← ej, ← hst j hj]
    exact hp.2 j ω
   refine ⟨ω, hxk, hat.2.1, ω, by simp; omega, hX2 (x + 1, _) ⟨by dsimp only; omega, by simp [hrl], fun y hy => ?_⟩ rfl⟩
   dsimp only at hy ⊢
   by_cases hyx : y = x
   ·subst hyx
    rw [ixL' ω, epl]
    exact ⟨j, rfl, hj, ej⟩
   ·rw [ixA ω]
    exact hri y ω
  ·rename_i hxk
   have hxk' : x = k := ω
   subst hxk'
   have hn := hr.nl
   have hf := hr.fl
   have hfin : ix d.Final (ix S i) = acc d (ix W i) := by rw [eS]; rfl
   rw [hfin]
   exact ⟨hSin.1, hSin.2, by simp; omega, by simp; omega, hX (i + 1, _) ⟨by dsimp only; omega, hr.push hrl hri⟩ rfl⟩
 ·rename_i hlt
  have : i = W.length := ω
  subst this
  exact h _ (hr.can c hk.symm)
theorem J6E (D : Da d) (hk : (k : Int) = d.Letters) {K : DFA → List Int → Prop} (h : ∀ t pl W, Can k (rho d) (acc d) t W → K t pl) : J32 d K := by
 have f2 := D.f2
 unfold J32
 refine J5z D hk fun S W c hsl hst => ?_
 have hfew := c.few D hk
 have hS : ∀ j : Nat, j < S.length → 0 ≤ ix S j ∧ ix S j < d.Final.length := fun j hj => by rw [hst j ω]; exact J67 D hk (c.lw ω)
 refine fun _ => ⟨ω, ω, ?_⟩
 refine LoopWP.to d.Final.length (fun s => s.1) (fun s => s.1 ≤ d.Final.length ∧ s.2.length = d.Final.length ∧ ∀ q : Nat, q < s.1 → ix s.2 q = -1) ⟨Nat.zero_le _, by simp, fun q hq => by simp at hq⟩ (fun s h => h.1) ?_
 rintro ⟨a, pl⟩ X ⟨ha, hl, hpl⟩ hX
 try dsimp only at ha hl hpl ⊢
 unfold J4G
 rw [List.length_replicate]
 split
 ·rename_i hlt
  refine ⟨ω, ω, ⟨ω, ω⟩, hX (a + 1, _) ⟨by dsimp only; omega, by simp [hl], fun q hq => ?_⟩ rfl⟩
  dsimp only at hq ⊢
  rw [ix_st _ ω ω ω]
  split
  ·rfl
  ·exact hpl q ω
 ·refine fun _ => ?_
  refine LoopWP.to S.length (fun s => s.1) (fun s => s.1 ≤ S.length ∧ PlaceS d.Final.length S s.1 s.2) ⟨Nat.zero_le _, ⟨hl, fun q hq => by rw [hpl q ω]; omega⟩, fun j hj => by simp at hj⟩ (fun s h => h.1) ?_
  rintro ⟨b, pl2⟩ X2 ⟨hb, hps⟩ hX2
  try dsimp only at hb hps ⊢
  unfold J4l
  split
  ·rename_i hlt
   have hq := hS b ω
   have hl2 := hps.1.1
   refine ⟨ω, hlt, hq.1, ω, hX2 (b + 1, _) ⟨by dsimp only; omega, hps.1.set hq.1 hq.2 ω ω, fun j hj => ?_⟩ rfl⟩
   dsimp only at hj ⊢
   have hqj := hS j ω
   rw [ix_st _ hq.1 ω hqj.1]
   by_cases hjb : j = b
   ·subst hjb; rw [if_pos rfl]
   ·rw [if_neg]
    ·exact hps.2 j ω
    ·intro e
     rw [hst j ω, hst b ω] at e
     exact hjb (c.inj ω ω e)
  ·rename_i hlt
   have : b = S.length := ω
   subst this
   exact J5l D hk c hsl hst hps fun t ht => h t pl2 W ht
end
end Sg
namespace Sg
open Go
section
variable {d : DFA} {k : Nat}
structure ClsI (d : DFA) (k : Nat) (p : List Int) (c : Nat) : Prop where
 len : p.length = d.Final.length
 nmb : Nmb p c
 fin : FinK d p
 hol : Holds k d p
structure ClsOk (d : DFA) (k : Nat) (p : List Int) : Prop where
 len : p.length = d.Final.length
 nmb : ∃ c, Nmb p c
 kp : Keeps k d p
 hol : Holds k d p
theorem ClsI.rg {p : List Int} {c : Nat} (h : ClsI d k p c) {q : Int} (h0 : 0 ≤ q) (h1 : q < d.Final.length) : 0 ≤ ix p q ∧ ix p q < c := by
 obtain ⟨q, rfl⟩ := Int.eq_ofNat_of_zero_le h0
 obtain ⟨a, e, ha⟩ := h.nmb.rg q (by rw [h.len]; omega)
 omega
def keyC (d : DFA) (k : Nat) (p : List Int) (q : Nat) : AN 7 := toAN 7 (ix p q :: ((List.range k).map fun (x : Nat) => ix p (ix (ix d.Next q) (x : Int))) ++ List.replicate (6 - k) 0)
theorem J7Z {p : List Int} {q : Nat} (h6 : k ≤ 6) : (ix p q :: ((List.range k).map fun (x : Nat) => ix p (ix (ix d.Next q) (x : Int))) ++ List.replicate (6 - k) 0).length = 7 := by
 simp; omega
theorem J9J (h6 : k ≤ 6) {p : List Int} {q q' : Nat} : keyC d k p q = keyC d k p q' ↔ ix p q = ix p q' ∧ ∀ x : Nat, x < k → ix p (ix (ix d.Next q) x) = ix p (ix (ix d.Next q') x) := by
 constructor
 ·intro h
  have e := J8W (J7Z h6) (J7Z h6) h
  simp only [List.cons_append, List.cons.injEq] at e
  refine ⟨e.1, fun x hx => ?_⟩
  have e2 := congrArg (fun l : List Int => l[x]?) e.2
  simpa [List.getElem?_append, hx] using e2
 ·rintro ⟨h1, h2⟩
  unfold keyC
  rw [h1]
  congr 3
  apply List.map_congr_left
  intro x hx
  exact h2 x (by simpa using hx)
theorem J76 {p r : List Int} {m : List (AN 7 × Int)} (h6 : k ≤ 6) (hl : p.length = d.Final.length) (h : NumI (keyC d k p) d.Final.length r m) : SplitBy k d p r := fun q q' hq hq' => by
 rw [h.eq ω ω]
 exact J9J h6
theorem J93 {l : List Int} {x : Nat} {v : Int} (hl : l.length = 7) (hx : x < 6) {p : List Int} {q : Nat} (h : l = ix p q :: ((List.range x).map fun (x : Nat) => ix p (ix (ix d.Next q) (x : Int))) ++ List.replicate (6 - x) 0) (hv : v = ix p (ix (ix d.Next q) (x : Int))) :
    st l ((1 : Int) + (x : Int)) v = ix p q :: ((List.range (x + 1)).map fun (x : Nat) => ix p (ix (ix d.Next q) (x : Int))) ++ List.replicate (6 - (x + 1)) 0 := by
  apply List.ext_getElem?
  intro j
  have e : ((1 : Int) + (x : Int)).toNat = x + 1 := ω
  rw [st, e, List.getElem?_set]
  by_cases hj : x + 1 = j
  · subst hj
    rw [if_pos rfl, if_pos ω, hv]
    simp [List.getElem?_append]
  · rw [if_neg hj, h]
    cases j with
    | zero => simp
    | succ j =>
      simp only [List.cons_append, List.getElem?_cons_succ, List.getElem?_append, List.length_map, List.length_range]
      by_cases h1 : j < x
      · rw [if_pos h1, if_pos ω]; simp [h1, show j < x + 1 by omega]
      · rw [if_neg h1, if_neg ω]
        simp only [List.getElem?_replicate]
        by_cases h2 : j < 6
        · rw [if_pos ω, if_pos ω]
        · rw [if_neg ω, if_neg ω]
theorem J3n (D : Da d) (hk : (k : Int) = d.Letters) {p : List Int} {c : Nat} (hp : ClsI d k p c) {q : Nat} (hq : q < d.Final.length) {r : List Int} {m : List (AN 7 × Int)} (hrl : r.length = d.Final.length) (hn : NumI (keyC d k p) q (r.take q) m) {X : Nat → List Int → List (AN 7 × Int) → Prop} {K : List Int → Prop}
  (h : ∀ r m, r.length = d.Final.length → NumI (keyC d k p) (q + 1) (r.take (q + 1)) m → X (q + 1) r m) :
  LoopWP (S := Nat × List Int) (fun s Y => J0Z d p q r m X K (fun a b => Y (a, b)) s.1 s.2) (0, [ix p q, 0, 0, 0, 0, 0, 0]) := by
 have h1 := D.l1
 have h6 := D.l6
 have hnx := D.nx
 have hrow := D.row q ω
 refine LoopWP.to k (fun s => s.1) (fun s => s.1 ≤ k ∧ s.2.length = 7 ∧ s.2 = ix p q :: ((List.range s.1).map fun (x : Nat) => ix p (ix (ix d.Next q) (x : Int))) ++ List.replicate (6 - s.1) 0) ⟨Nat.zero_le _, rfl, rfl⟩ (fun s h => h.1) ?_
 rintro ⟨x, l⟩ Y ⟨hx, hl, hI⟩ hY
 try dsimp only at hx hl hI ⊢
 unfold J0Z
 split
 ·rename_i hlt
  have hxk : x < k := ω
  have hat := D.at_ (q := q) (x := x) ω ω ω ω
  have hpl := hp.len
  exact ⟨ω, hlt, ⟨ω, ω⟩, hat.2.1, ω, hl, ω, ω, hY (x + 1, _) ⟨by dsimp only; omega, by simp [hl], J93 hl ω hI rfl⟩ rfl⟩
 ·rename_i hlt
  have hxk : x = k := ω
  subst hxk
  have ek : toAN 7 l = keyC d x p q := by rw [hI]; rfl
  rw [ek]
  refine ⟨hl, ?_⟩
  have tk : ∀ v : Int, (st r (q : Int) v).take (q + 1) = r.take q ++ [v] := fun v => J7g ω
  split
  ·rename_i hm
   exact ⟨ω, ω, h _ _ (by simp [hrl]) (by rw [tk]; exact hn.old hm)⟩
  ·rename_i hm
   exact ⟨hl, ω, ω, h _ _ (by simp [hrl]) (by rw [tk]; exact hn.new hm)⟩
theorem J1u (D : Da d) (hk : (k : Int) = d.Letters) {K : List Int → Prop} (h : ∀ p, ClsOk d k p → K p) {p : List Int} {c : Nat} (hp : ClsI d k p c) :
  LoopWP (S := List Int × Int) (fun s X => J13 d K (fun a b => X (a, b)) s.1 s.2) (p, (c : Int)) := by
 have h1 := D.l1
 have h6 := D.l6
 have f2 := D.f2
 have hnx := D.nx
 refine LoopWP.intro (fun s => ∃ c : Nat, s.2 = (c : Int) ∧ ClsI d k s.1 c) (fun s => d.Final.length - s.2.toNat) ⟨c, rfl, hp⟩ ?_
 rintro ⟨p, c'⟩ X ⟨c, hc, hp⟩ hX
 try dsimp only at hc hp ⊢
 subst hc
 have hpl := hp.len
 have hcn := hp.nmb.le
 unfold J13
 refine fun _ => ⟨ω, ω, fun _ => ?_⟩
 refine LoopWP.to d.Final.length (fun s => s.1) (fun s => s.1 ≤ d.Final.length ∧ s.2.1.length = d.Final.length ∧ NumI (keyC d k p) s.1 (s.2.1.take s.1) s.2.2) ⟨Nat.zero_le _, by simp [hpl], NumI.start⟩ (fun s h => h.1) ?_
 rintro ⟨q, r, m⟩ X2 ⟨hq, hrl, hn⟩ hX2
 try dsimp only at hq hrl hn ⊢
 unfold J2b
 split
 ·rename_i hlt
  have hq' : q < d.Final.length := ω
  exact ⟨ω, hlt, ω, ω, rfl, fun _ => J3n D hk hp hq' hrl hn fun r m h1 h2 => hX2 (q + 1, r, m) ⟨hq', h1, h2⟩ rfl⟩
 ·rename_i hlt
  have : q = d.Final.length := ω
  subst this
  rw [List.take_of_length_le ω] at hn
  have hs := J76 ω hpl hn
  have hpr : p.length = r.length := ω
  have hfin := hs.fin hpr hp.fin
  have hhol := hs.holds hpr D hk hpl hp.hol
  split
  ·rename_i e
   have e : m.length = c := ω
   exact h r ⟨hrl, ⟨_, hn.nmb⟩, hs.keeps hpr D hk hpl hp.fin hp.nmb (by rw [← e]; exact hn.nmb), hhol⟩
  ·rename_i e
   have := hp.nmb.finer hn.nmb hpr (hs.fin2 hpr)
   have hmn := hn.nmb.le
   exact hX (r, (m.length : Int)) ⟨m.length, rfl, hrl, hn.nmb, hfin, hhol⟩ (by dsimp only; omega)
theorem J6U (D : Da d) {p : List Int} {c : Nat} (hl : p.length = d.Final.length) (hp : ∀ q : Nat, q < d.Final.length → ix p q = if ix d.Final q = ix d.Final 0 then 0 else 1) (hc : c = if (∃ q : Nat, q < d.Final.length ∧ ix d.Final q ≠ ix d.Final 0) then 2 else 1) : ClsI d k p c := by
 have f1 := D.f1
 have h00 : ix p ((0 : Nat) : Int) = 0 := by rw [hp 0 ω]; exact if_pos rfl
 have hfin : FinK d p := fun q q' hq hq' e => by
  rw [hp q ω, hp q' ω] at e
  by_cases h1 : ix d.Final q = ix d.Final 0 <;> by_cases h2 : ix d.Final q' = ix d.Final 0
  ·rw [h1, h2]
  ·rw [if_pos h1, if_neg h2] at e; omega
  ·rw [if_neg h1, if_pos h2] at e; omega
  ·revert h1 h2
   cases ix d.Final (q : Int) <;> cases ix d.Final (q' : Int) <;> cases ix d.Final 0 <;> simp
 refine ⟨hl, ⟨fun q hq => ?_, fun a ha => ?_, fun q a hq ha => ?_⟩, hfin, fun q q' hq hq' e => ?_⟩
 ·rw [hp q ω]
  split
  ·exact ⟨0, rfl, by rw [hc]; split <;> omega⟩
  ·rename_i hne
   exact ⟨1, rfl, by rw [hc, if_pos ⟨q, ω, hne⟩]; omega⟩
 ·by_cases ha0 : a = 0
  ·subst ha0; exact ⟨0, ω, h00⟩
  ·by_cases hx : ∃ q : Nat, q < d.Final.length ∧ ix d.Final q ≠ ix d.Final 0
   ·rw [if_pos hx] at hc
    obtain ⟨q, h1, h2⟩ := hx
    refine ⟨q, ω, ?_⟩
    rw [hp q h1, if_neg h2]; omega
   ·rw [if_neg hx] at hc; omega
 ·rw [hp q ω] at ha
  split at ha
  ·omega
  ·rename_i hne
   have h0q : 0 < q := by
    rcases Nat.eq_zero_or_pos q with h0 | h0
    ·subst h0; exact absurd rfl hne
    ·exact h0
   have ha0 : a = 0 := ω
   subst ha0
   exact ⟨0, h0q, h00⟩
 ·have := congrFun e ⟨[], LW.nil k⟩
  simp only [beh, J8f] at this
  rw [hp q ω, hp q' ω, this]
theorem J4e (D : Da d) (hk : (k : Int) = d.Letters) {K : List Int → Prop} (h : ∀ p, ClsOk d k p → K p) : J0C d K := by
 have f1 := D.f1
 have f2 := D.f2
 unfold J0C
 refine J0L ?_
 rw [if_pos (daC0.2 (J3J.2 D))]
 refine fun _ => ⟨ω, ω, ?_⟩
 refine LoopWP.to d.Final.length (fun s => s.2.1) (fun s => s.2.1 ≤ d.Final.length ∧ s.2.2.length = d.Final.length ∧ (∀ q : Nat, q < d.Final.length → ix s.2.2 q = if q < s.2.1 ∧ ix d.Final q ≠ ix d.Final 0 then 1 else 0) ∧ s.1 = (if (∃ q : Nat, q < s.2.1 ∧ ix d.Final q ≠ ix d.Final 0) then 2 else 1 : Int)) ⟨Nat.zero_le _, by simp, fun q hq => ?_, ?_⟩ (fun s h => h.1) ?_
 ·rw [J0f _ _ hq]; simp
 ·rw [if_neg]; rintro ⟨q, hq, _⟩; simp at hq
 rintro ⟨c, a, p⟩ X ⟨ha, hl, hp, hc⟩ hX
 try dsimp only at ha hl hp hc ⊢
 unfold J2o
 split
 ·rename_i hlt
  have halt : a < d.Final.length := ω
  have old : ix d.Final a = ix d.Final 0 → X (c, a + 1, p) := fun e => hX (c, a + 1, p) ⟨halt, hl, fun q hq => by
   rw [hp q hq]
   by_cases hqa : q = a
   ·subst hqa; rw [if_neg (by simp [e]), if_neg (by simp [e])]
   ·by_cases hq2 : q < a ∧ ix d.Final q ≠ ix d.Final 0
    ·rw [if_pos hq2, if_pos ⟨by dsimp only; omega, hq2.2⟩]
    ·rw [if_neg hq2, if_neg (fun hh => hq2 ⟨by have := hh.1; dsimp only at this; omega, hh.2⟩)], by
   dsimp only
   rw [hc]
   by_cases hx : ∃ q : Nat, q < a ∧ ix d.Final q ≠ ix d.Final 0
   ·rw [if_pos hx, if_pos (by obtain ⟨q, h1, h2⟩ := hx; exact ⟨q, ω, h2⟩)]
   ·rw [if_neg hx, if_neg (by
     rintro ⟨q, h1, h2⟩
     by_cases hqa : q = a
     ·subst hqa; exact h2 e
     ·exact hx ⟨q, ω, h2⟩)]⟩ rfl
  have new : ix d.Final a ≠ ix d.Final 0 → X (2, a + 1, st p (a : Int) 1) := fun e => hX (2, a + 1, _) ⟨halt, by simp [hl], fun q hq => by
   dsimp only
   rw [ix_st _ ω ω ω]
   by_cases hqa : q = a
   ·subst hqa; rw [if_pos rfl, if_pos ⟨ω, e⟩]
   ·rw [if_neg ω, hp q hq]
    by_cases hq2 : q < a ∧ ix d.Final q ≠ ix d.Final 0
    ·rw [if_pos hq2, if_pos ⟨ω, hq2.2⟩]
    ·rw [if_neg hq2, if_neg (fun hh => hq2 ⟨ω, hh.2⟩)], by
   dsimp only
   rw [if_pos ⟨a, ω, e⟩]⟩ rfl
  refine ⟨ω, ω, ?_⟩
  split
  ·rename_i ht
   refine ⟨ω, ω, ?_⟩
   split
   ·rename_i h0; exact old (by rw [ht, h0])
   ·rename_i h0; exact ⟨ω, ω, new (by rw [ht]; exact fun hh => h0 hh.symm)⟩
  ·rename_i ht
   refine ⟨ω, ω, ?_⟩
   split
   ·rename_i h0; exact ⟨ω, ω, new (by rw [h0]; exact ht)⟩
   ·rename_i h0; exact old (by rw [Bool.eq_false_iff.2 ht, Bool.eq_false_iff.2 h0])
 ·rename_i hlt
  have hae : a = d.Final.length := ω
  subst hae
  have hp' : ∀ q : Nat, q < d.Final.length → ix p q = if ix d.Final q = ix d.Final 0 then 0 else 1 := fun q hq => by
   rw [hp q hq]
   by_cases e : ix d.Final q = ix d.Final 0
   ·rw [if_pos e, if_neg (fun hh => hh.2 e)]
   ·rw [if_neg e, if_pos ⟨hq, e⟩]
  by_cases hx : ∃ q : Nat, q < d.Final.length ∧ ix d.Final q ≠ ix d.Final 0
  ·rw [if_pos hx] at hc
   subst hc
   exact J1u D hk h (c := 2) (J6U D hl hp' (by rw [if_pos hx]))
  ·rw [if_neg hx] at hc
   subst hc
   exact J1u D hk h (c := 1) (J6U D hl hp' (by rw [if_neg hx]))
end
theorem J3C {l : List Int} {K : List Int → Prop} (hl : l.length ≤ 1000000000) (h : ∀ r m, NumI (fun j => ix l (j : Int)) l.length r m → K r) : J18 l K := by
 unfold J18
 refine fun _ => ⟨ω, ω, ?_⟩
 refine LoopWP.to l.length (fun s => s.1) (fun s => s.1 ≤ l.length ∧ s.2.1.length = l.length ∧ NumI (fun j => ix l (j : Int)) s.1 (s.2.1.take s.1) s.2.2) ⟨Nat.zero_le _, by simp, NumI.start⟩ (fun s h => h.1) ?_
 rintro ⟨q, r, m⟩ X ⟨hq, hrl, hn⟩ hX
 try dsimp only at hq hrl hn ⊢
 unfold J3r
 split
 ·rename_i hlt
  have tk : ∀ v : Int, (st r (q : Int) v).take (q + 1) = r.take q ++ [v] := fun v => J7g ω
  refine ⟨ω, hlt, ?_⟩
  split
  ·rename_i hm
   exact ⟨ω, ω, hX (q + 1, _) ⟨by dsimp only; omega, by simp [hrl], by dsimp only; rw [tk]; exact hn.old hm⟩ rfl⟩
  ·rename_i hm
   exact ⟨ω, ω, hX (q + 1, _) ⟨by dsimp only; omega, by simp [hrl], by dsimp only; rw [tk]; exact hn.new hm⟩ rfl⟩
 ·have : q = l.length := ω
  subst this
  rw [List.take_of_length_le ω] at hn
  exact h r m hn
theorem J6m {p q : List Int} {n : Nat} {K : List Int → Prop} (hn : n ≤ 512) (hp : p.length = n) (hq : q.length = n) (bp : ∀ j : Nat, j < n → 0 ≤ ix p j ∧ ix p j < 512) (bq : ∀ j : Nat, j < n → 0 ≤ ix q j ∧ ix q j < n)
  (h : ∀ r c, r.length = n → Nmb r c → (∀ i j : Nat, i < n → j < n → (ix r i = ix r j ↔ ix p i = ix p j ∧ ix q i = ix q j)) → K r) : J30 p q K := by
 unfold J30
 refine fun _ => ⟨ω, ω, ?_⟩
 refine LoopWP.to n (fun s => s.1) (fun s => s.1 ≤ n ∧ s.2.length = n ∧ ∀ j : Nat, j < s.1 → ix s.2 j = ix p j * (n + 1 : Int) + ix q j) ⟨Nat.zero_le _, by simp [hp], fun j hj => by simp at hj⟩ (fun s h => h.1) ?_
 rintro ⟨a, o⟩ X ⟨ha, hol, hI⟩ hX
 try dsimp only at ha hol hI ⊢
 unfold J4K
 split
 ·rename_i hlt
  have hb := bp a ω
  have hb2 := bq a ω
  have hmul : 0 ≤ ix p (a : Int) * (n + 1 : Int) ∧ ix p (a : Int) * (n + 1 : Int) ≤ 512 * 513 :=
   ⟨Int.mul_nonneg hb.1 ω, Int.mul_le_mul ω ω ω ω⟩
  have ep : ((p.length : Int) + 1) = (n : Int) + 1 := ω
  rw [ep]
  refine ⟨ω, hlt, ⟨ω, ω⟩, ⟨ω, ω⟩, ω, ω, ⟨ω, ω⟩, ω, ω, hX (a + 1, _) ⟨by dsimp only; omega, by simp [hol], fun j hj => ?_⟩ rfl⟩
  dsimp only at hj ⊢
  rw [ix_st _ ω ω ω]
  by_cases hja : j = a
  ·subst hja; rw [if_pos rfl]
  ·rw [if_neg ω]; exact hI j ω
 ·have : a = n := ω
  subst this
  refine J3C ω fun r m hr => ?_
  rw [hol] at hr
  refine h r _ hr.len hr.nmb fun i j hi hj => ?_
  rw [hr.eq hi hj, hI i hi, hI j hj]
  have b1 := bq i hi
  have b2 := bq j hj
  constructor
  ·intro e
   have e1 : ix p (i : Int) = ix p (j : Int) := by
    rcases Int.lt_trichotomy (ix p (i : Int)) (ix p (j : Int)) with hlt | heq | hlt
    ·have := Int.mul_le_mul_of_nonneg_right (show ix p (i : Int) + 1 ≤ ix p (j : Int) by omega) (show (0 : Int) ≤ (a : Int) + 1 by omega)
     rw [Int.add_mul] at this
     omega
    ·exact heq
    ·have := Int.mul_le_mul_of_nonneg_right (show ix p (j : Int) + 1 ≤ ix p (i : Int) by omega) (show (0 : Int) ≤ (a : Int) + 1 by omega)
     rw [Int.add_mul] at this
     omega
   rw [e1] at e
   exact ⟨e1, ω⟩
  ·rintro ⟨e1, e2⟩; rw [e1, e2]
section
variable {d : DFA} {k : Nat}
structure PartX (d : DFA) (p : List Int) (x : Nat) (r : List Int) : Prop where
 len : r.length = d.Final.length
 nmb : ∃ c, Nmb r c
 eq : ∀ i j : Nat, i < d.Final.length → j < d.Final.length → (ix r i = ix r j ↔ ix p i = ix p j ∧ ∀ y : Nat, y < x → ix p (ix (ix d.Next i) y) = ix p (ix (ix d.Next j) y))
theorem J41 (D : Da d) (hk : (k : Int) = d.Letters) {p r : List Int} {c x : Nat} (hp : ClsI d k p c) (hr : PartX d p x r) (hx : x < k) {X : List Int → Nat → Prop} {K : List Int → Prop} (h : ∀ r, PartX d p (x + 1) r → X r (x + 1)) :
  LoopWP (S := Nat × List Int) (fun s Y => J1Z d p r x X K (fun a b => Y (a, b)) s.1 s.2) (0, []) := by
 have h1 := D.l1
 have h6 := D.l6
 have f2 := D.f2
 have hnx := D.nx
 have hpl := hp.len
 have hcn := hp.nmb.le
 refine LoopWP.to d.Final.length (fun s => s.1) (fun s => s.1 ≤ d.Final.length ∧ s.2.length = s.1 ∧ ∀ q : Nat, q < s.1 → ix s.2 q = ix p (ix (ix d.Next q) (x : Int))) ⟨Nat.zero_le _, rfl, fun j hj => by simp at hj⟩ (fun s h => h.1) ?_
 rintro ⟨a, o⟩ Y ⟨ha, hol, hI⟩ hY
 try dsimp only at ha hol hI ⊢
 unfold J1Z
 split
 ·rename_i hlt
  have hat := D.at_ (q := a) (x := x) ω ω ω ω
  refine ⟨ω, ω, ω, ω, hat.2.1, ω, by simp; omega, hY (a + 1, _) ⟨by dsimp only; omega, by simp [hol], fun q hq => ?_⟩ rfl⟩
  dsimp only at hq ⊢
  by_cases hqa : q = a
  ·subst hqa; rw [ixL' ω]
  ·rw [ixA ω]; exact hI q ω
 ·have : a = d.Final.length := ω
  subst this
  obtain ⟨c2, hc2⟩ := hr.nmb
  have hrl := hr.len
  have hc2n := hc2.le
  refine J6m (n := d.Final.length) f2 hr.len hol (fun j hj => ?_) (fun j hj => ?_) fun r2 c3 h1 h2 h3 => ⟨⟨ω, ω⟩, h r2 ⟨h1, ⟨c3, h2⟩, fun i j hi hj => ?_⟩⟩
  ·obtain ⟨b, e, hb⟩ := hc2.rg j ω
   omega
  ·rw [hI j hj]
   have hat := D.at_ (q := j) (x := x) ω ω ω ω
   have := hp.rg hat.2.1 hat.2.2
   omega
  ·rw [h3 i j hi hj, hr.eq i j hi hj, hI i hi, hI j hj]
   constructor
   ·rintro ⟨⟨e1, e2⟩, e3⟩
    refine ⟨e1, fun y hy => ?_⟩
    by_cases hyx : y = x
    ·subst hyx; exact e3
    ·exact e2 y ω
   ·rintro ⟨e1, e2⟩
    exact ⟨⟨e1, fun y hy => e2 y ω⟩, e2 x ω⟩
theorem J4b (D : Da d) (hk : (k : Int) = d.Letters) {K : List Int → Prop} (h : ∀ p, ClsOk d k p → K p) {p : List Int} {c : Nat} (hp : ClsI d k p c) :
  LoopWP (S := List Int) (fun s X => J1V d K X s) p := by
 classical
 have h1 := D.l1
 have h6 := D.l6
 have f2 := D.f2
 refine LoopWP.intro (fun s => ∃ c : Nat, ClsI d k s c) (fun s => d.Final.length - (if hx : ∃ c, Nmb s c then Classical.choose hx else 0)) ⟨c, hp⟩ ?_
 rintro p X ⟨c, hp⟩ hX
 have cu : ∀ {s : List Int} {c : Nat}, Nmb s c → (if hx : ∃ c, Nmb s c then Classical.choose hx else 0) = c := fun {s c} hs => by
  have hx : ∃ c, Nmb s c := ⟨c, hs⟩
  rw [dif_pos hx]
  have hs2 := Classical.choose_spec hx
  have e1 := hs.finer hs2 rfl (fun _ _ _ _ e => e)
  have e2 := hs2.finer hs rfl (fun _ _ _ _ e => e)
  omega
 unfold J1V
 refine LoopWP.to k (fun s => s.2) (fun s => s.2 ≤ k ∧ PartX d p s.2 s.1) ⟨Nat.zero_le _, hp.len, ⟨c, hp.nmb⟩, fun i j hi hj => by simp⟩ (fun s h => h.1) ?_
 rintro ⟨r, x⟩ X2 ⟨hx, hr⟩ hX2
 try dsimp only at hx hr ⊢
 unfold J3l
 split
 ·rename_i hlt
  exact fun _ => J41 D hk hp hr ω fun r hr => hX2 (r, x + 1) ⟨by dsimp only; omega, hr⟩ rfl
 ·rename_i hlt
  have : x = k := ω
  subst this
  have hs : SplitBy x d p r := fun q q' hq hq' => hr.eq q q' (by rw [← hp.len]; exact hq) (by rw [← hp.len]; exact hq')
  have hpr : p.length = r.length := by rw [hp.len, hr.len]
  refine J22 ?_
  split
  ·rename_i e
   have e : r = p := by simpa using e
   subst e
   exact h r ⟨hp.len, ⟨c, hp.nmb⟩, hs.keeps' hp.fin, hp.hol⟩
  ·rename_i e
   have e : r ≠ p := by simpa using e
   obtain ⟨c2, hc2⟩ := hr.nmb
   have := hs.more hpr hp.nmb hc2 e
   have hcn := hc2.le
   have hrl := hr.len
   refine hX r ⟨c2, hr.len, hc2, hs.fin hpr hp.fin, hs.holds hpr D hk hp.len hp.hol⟩ ?_
   rw [cu hp.nmb, cu hc2]
   omega
theorem J5b (D : Da d) (hk : (k : Int) = d.Letters) {K : List Int → Prop} (h : ∀ p, ClsOk d k p → K p) : J1h d K := by
 have f1 := D.f1
 have f2 := D.f2
 unfold J1h
 refine fun _ => ⟨ω, ω, ?_⟩
 refine LoopWP.to d.Final.length (fun s => s.1) (fun s => s.1 ≤ d.Final.length ∧ s.2.length = d.Final.length ∧ ∀ q : Nat, q < d.Final.length → ix s.2 q = if q < s.1 ∧ ix d.Final q = true then 1 else 0) ⟨Nat.zero_le _, by simp, fun q hq => ?_⟩ (fun s h => h.1) ?_
 ·rw [J0f _ _ hq]; simp
 rintro ⟨a, p⟩ X ⟨ha, hl, hp⟩ hX
 try dsimp only at ha hl hp ⊢
 unfold J3f
 rw [List.length_replicate]
 split
 ·rename_i hlt
  refine ⟨ω, ω, ?_⟩
  split
  ·rename_i ht
   refine ⟨ω, ω, ⟨ω, ω⟩, hX (a + 1, _) ⟨by dsimp only; omega, by simp [hl], fun q hq => ?_⟩ rfl⟩
   dsimp only
   rw [ix_st _ ω ω ω]
   by_cases hqa : q = a
   ·subst hqa; rw [if_pos rfl, if_pos ⟨ω, ht⟩]
   ·rw [if_neg ω, hp q hq]
    by_cases hq2 : q < a ∧ ix d.Final q = true
    ·rw [if_pos hq2, if_pos ⟨ω, hq2.2⟩]
    ·rw [if_neg hq2, if_neg (fun hh => hq2 ⟨ω, hh.2⟩)]
  ·rename_i ht
   refine ⟨⟨ω, ω⟩, hX (a + 1, _) ⟨by dsimp only; omega, hl, fun q hq => ?_⟩ rfl⟩
   dsimp only
   rw [hp q hq]
   by_cases hqa : q = a
   ·subst hqa; rw [if_neg (fun hh => ht hh.2), if_neg (fun hh => ht hh.2)]
   ·by_cases hq2 : q < a ∧ ix d.Final q = true
    ·rw [if_pos hq2, if_pos ⟨ω, hq2.2⟩]
    ·rw [if_neg hq2, if_neg (fun hh => hq2 ⟨ω, hh.2⟩)]
 ·have : a = d.Final.length := ω
  subst this
  refine J3C ω fun r m hr => ?_
  rw [hl] at hr
  have e : ∀ i j : Nat, i < d.Final.length → j < d.Final.length → (ix r i = ix r j ↔ ix d.Final i = ix d.Final j) := fun i j hi hj => by
   rw [hr.eq hi hj, hp i hi, hp j hj]
   cases h1 : ix d.Final (i : Int) <;> cases h2 : ix d.Final (j : Int) <;> simp [hi, hj]
  exact J4b D hk h (c := m.length) ⟨hr.len, hr.nmb, fun q q' hq hq' he => (e q q' (by rw [← hr.len]; exact hq) (by rw [← hr.len]; exact hq')).1 he, fun q q' hq hq' he => by
   have := congrFun he ⟨[], LW.nil k⟩
   simp only [beh, J8f] at this
   exact (e q q' (by rw [← hr.len]; exact hq) (by rw [← hr.len]; exact hq')).2 this⟩
end
end Sg
namespace Sg
open Go
section
variable {d : DFA} {k : Nat} {p : List Int}
structure QuoI (d : DFA) (k : Nat) (p : List Int) (q : Nat) (Nx : List (List Int)) (Fn : List Bool) : Prop where
 nl : Nx.length = Fn.length
 rg : ∀ j : Nat, j < q → ix p j < Fn.length
 on : ∀ a : Nat, a < Fn.length → ∃ j : Nat, j < q ∧ ix p j = a ∧ ix Fn a = ix d.Final j ∧ (ix Nx a).length = k ∧ ∀ x : Nat, x < k → ix (ix Nx a) x = ix p (ix (ix d.Next j) x)
variable {q : Nat} {Nx : List (List Int)} {Fn : List Bool} {row : List Int}
theorem QuoI.start : QuoI d k p 0 [] [] := ⟨rfl, fun j h => by omega, fun a h => by simp at h⟩
theorem QuoI.skip (h : QuoI d k p q Nx Fn) (hq : ix p q < Fn.length) : QuoI d k p (q + 1) Nx Fn :=
 ⟨h.nl, fun j hj => by
  by_cases e : j = q
  ·subst e; exact hq
  ·exact h.rg j ω, fun a ha => by
  obtain ⟨j, h1, h2⟩ := h.on a ha
  exact ⟨j, ω, h2⟩⟩
theorem QuoI.next (h : QuoI d k p q Nx Fn) {c : Nat} (hp : Nmb p c) (hq : q < p.length) (hn : ¬ ix p q < Fn.length) : ix p q = Fn.length := by
 obtain ⟨a, ea, ha⟩ := hp.rg q hq
 rcases Nat.lt_or_ge Fn.length a with hlt | hge
 ·obtain ⟨j, hj, e⟩ := hp.fst q Fn.length hq ω
  have := h.rg j hj
  omega
 ·omega
theorem QuoI.push (h : QuoI d k p q Nx Fn) (e : ix p q = Fn.length) (hl : row.length = k) (hr : ∀ x : Nat, x < k → ix row x = ix p (ix (ix d.Next q) x)) : QuoI d k p (q + 1) (Nx ++ [row]) (Fn ++ [ix d.Final q]) := by
 have hn := h.nl
 refine ⟨by simp [hn], fun j hj => ?_, fun a ha => ?_⟩
 ·by_cases hjq : j = q
  ·subst hjq; rw [e]; simp; omega
  ·have := h.rg j ω; simp; omega
 ·simp only [List.length_append, List.length_singleton] at ha
  by_cases haF : a < Fn.length
  ·obtain ⟨j, h1, h2, h3, h4, h5⟩ := h.on a haF
   refine ⟨j, ω, h2, by rw [ixA haF]; exact h3, by rw [ixA ω]; exact h4, fun x hx => by rw [ixA ω]; exact h5 x hx⟩
  ·have : a = Fn.length := ω
   subst this
   exact ⟨q, ω, e, by rw [ixL], by rw [ixL' ω]; exact hl, fun x hx => by rw [ixL' ω]; exact hr x hx⟩
theorem QuoI.quo (h : QuoI d k p p.length Nx Fn) {c : Nat} (hp : Nmb p c) {l s : Int} (hl : l = k) (hs : s = ix p d.Start) : Quo k d p ⟨l, s, Fn, Nx⟩ :=
 ⟨hl, hs, h.nl, fun q hq => by
  obtain ⟨a, e, ha⟩ := hp.rg q hq
  have := h.rg q hq
  exact ⟨a, e, by show a < Fn.length; omega⟩, fun a ha => by
  obtain ⟨j, h1, h2⟩ := h.on a ha
  exact ⟨j, h1, h2⟩⟩
theorem QuoI.few (h : QuoI d k p q Nx Fn) (hq : q ≤ p.length) : Fn.length ≤ p.length := by
 apply Classical.byContradiction
 intro hc
 have rep : ∀ a : Nat, ∃ j : Nat, a < Fn.length → j < q ∧ ix p j = a := fun a => by
  by_cases ha : a < Fn.length
  ·obtain ⟨j, h1, h2, _⟩ := h.on a ha; exact ⟨j, fun _ => ⟨h1, h2⟩⟩
  ·exact ⟨0, fun h => absurd h ha⟩
 obtain ⟨f, hf⟩ := Classical.axiomOfChoice rep
 obtain ⟨a, b, h1, h2, e⟩ := pigeon p.length (fun m => (f m : Int)) fun m hm => by have := (hf m ω).1; omega
 have ea := (hf a ω).2
 have eb := (hf b ω).2
 have : f a = f b := by have e : (f a : Int) = (f b : Int) := e; omega
 rw [this] at ea
 omega
theorem J6k {Q m : DFA} {W : List Str} (D : Da d) (hk : (k : Int) = d.Letters) (hc : ClsOk d k p) (hQ : Quo k d p Q) (c : Can k (rho Q) (acc Q) m W) : Can k (nero d k) (acc d) m W :=
 hQ.can hc.kp hc.hol D hk hc.len c
theorem J7b {t m : DFA} {V W : List Str} (D : Da d) (hk : (k : Int) = d.Letters) (c : Can k (rho d) (acc d) t V) (h : Can k (nero t k) (acc t) m W) : Can k (nero d k) (acc d) m W :=
 Can.trim D hk (by have := D.l6; omega) c h
end
section
variable {d : DFA} {k : Nat}
theorem Ja0 (D : Da d) (hk : (k : Int) = d.Letters) {t : DFA} {W : List Str} (c : Can k (rho d) (acc d) t W) : Da t :=
 c.da (by have := D.l1; omega) (by have := D.l6; omega) (by have := c.cl.few D hk; have := D.f2; omega)
theorem J48 (D : Da d) (hk : (k : Int) = d.Letters) {K : DFA → List Int → Prop} (h : ∀ m W s, Can k (nero d k) (acc d) m W → K m s) : J0B d K := by
 have h1 := D.l1
 have h6 := D.l6
 have f2 := D.f2
 unfold J0B
 refine J5R D hk fun t pl V ct hpl => ?_
 have Dt := Ja0 D hk ct
 have hkt : (k : Int) = t.Letters := ct.le.symm
 have f2t := Dt.f2
 have nxt := Dt.nx
 refine J4e Dt hkt fun p hp => ?_
 obtain ⟨c, hpc⟩ := hp.nmb
 have hplen := hp.len
 have hVf : V.length = t.Final.length := ct.fl.symm
 refine fun _ => ?_
 refine LoopWP.to p.length (fun s => s.1) (fun s => s.1 ≤ p.length ∧ QuoI t k p s.1 s.2.1 s.2.2) ⟨Nat.zero_le _, QuoI.start⟩ (fun s h => h.1) ?_
 rintro ⟨q, Nx, Fn⟩ X ⟨hq, hI⟩ hX
 try dsimp only at hq hI ⊢
 have hfew := hI.few hq
 have hnl := hI.nl
 unfold J2s
 split
 ·rename_i hlt
  have hq' : q < p.length := ω
  refine ⟨ω, hlt, ?_⟩
  split
  ·rename_i hc2
   exact hX (q + 1, _) ⟨by dsimp only; omega, hI.skip hc2⟩ rfl
  ·rename_i hc2
   have e := hI.next hpc hq' hc2
   have hrow := Dt.row q ω
   refine ⟨ω, ω, ω, ω, fun _ => ?_⟩
   have hkn : d.Letters.toNat = k := ω
   refine LoopWP.to k (fun s => s.1) (fun s => s.1 ≤ k ∧ s.2.length = k ∧ ∀ x : Nat, x < s.1 → ix s.2 x = ix p (ix (ix t.Next q) x)) ⟨Nat.zero_le _, by simp [hkn], fun x hx => by simp at hx⟩ (fun s h => h.1) ?_
   rintro ⟨x, row⟩ X2 ⟨hx, hrl, hri⟩ hX2
   try dsimp only at hx hrl hri ⊢
   unfold J2e
   split
   ·rename_i hxk
    have hat := Dt.at_ (q := q) (x := x) ω ω ω ω
    refine ⟨ω, hxk, hat.2.1, ω, ω, ω, hX2 (x + 1, _) ⟨by dsimp only; omega, by simp [hrl], fun y hy => ?_⟩ rfl⟩
    dsimp only at hy ⊢
    rw [ix_st _ ω ω ω]
    by_cases hyx : y = x
    ·subst hyx; rw [if_pos rfl]
    ·rw [if_neg ω]; exact hri y ω
   ·rename_i hxk
    have : x = k := ω
    subst this
    exact ⟨ω, ω, by simp; omega, by simp; omega, hX (q + 1, _) ⟨by dsimp only; omega, hI.push e hrl hri⟩ rfl⟩
 ·rename_i hlt
  have : q = p.length := ω
  subst this
  have s0 : t.Start = 0 := ct.st
  have hp0 : ix p t.Start = 0 := by
   rw [s0]
   obtain ⟨a, ea, ha⟩ := hpc.rg 0 (by have := Dt.f1; omega)
   rcases Nat.eq_zero_or_pos a with h0 | h0
   ·subst h0; exact ea
   ·obtain ⟨j, hj, _⟩ := hpc.fst 0 0 (by have := Dt.f1; omega) ω
    omega
  have hQ : Quo k t p ⟨d.Letters, 0, Fn, Nx⟩ := hI.quo hpc ω hp0.symm
  have DQ := hQ.da Dt hkt hplen (by show Fn.length ≤ 512; omega)
  refine J5R DQ hk fun m pm W cm hpm => ?_
  have hmin := J7b D hk ct (J6k Dt hkt hp hQ cm)
  have hWF := cm.cl.few DQ hk
  have hpll := hpl.1
  refine fun _ => ⟨ω, ω, ?_⟩
  refine LoopWP.to pl.length (fun s => s.1) (fun s => s.1 ≤ pl.length ∧ s.2.length = pl.length) ⟨Nat.zero_le _, by simp⟩ (fun s h => h.1) ?_
  rintro ⟨b, o⟩ X2 ⟨hb, hol⟩ hX2
  try dsimp only at hb hol ⊢
  unfold J2B
  split
  ·rename_i hlt2
   refine ⟨ω, hlt2, ω, ω, ?_⟩
   split
   ·rename_i h0
    have hb2 := hpl.2 b ω
    obtain ⟨a, ea, ha⟩ := hQ.rg (ix pl b).toNat ω
    have e1 : (((ix pl (b : Int)).toNat : Nat) : Int) = ix pl b := ω
    rw [e1] at ea
    have hpm1 := hpm.1
    rw [ea]
    have ha : a < Fn.length := ha
    have hpm1 : pm.length = Fn.length := hpm1
    exact ⟨h0, ω, ω, ω, ω, by simp; omega, hX2 (b + 1, _) ⟨by dsimp only; omega, by simp [hol]⟩ rfl⟩
   ·exact hX2 (b + 1, _) ⟨by dsimp only; omega, by simp [hol]⟩ rfl
  ·exact h m W o hmin
theorem J2f (D : Da d) (hk : (k : Int) = d.Letters) {K : DFA → Prop} (h : ∀ m W, Can k (nero d k) (acc d) m W → K m) : J0o d K := by
 unfold J0o
 refine J0L ?_
 rw [if_pos (daC0.2 (J3J.2 D))]
 exact J48 D hk fun m W s c => h m W c
theorem J3g (D : Da d) (hk : (k : Int) = d.Letters) {K : DFA → Prop} (h : ∀ m W, Can k (nero d k) (acc d) m W → K m) : J0A d K := by
 have h1 := D.l1
 have h6 := D.l6
 have f2 := D.f2
 have nxt := D.nx
 have s0 := D.s0
 have s1 := D.s1
 unfold J0A
 refine J5b D hk fun p hp => ?_
 obtain ⟨c, hpc⟩ := hp.nmb
 have hplen := hp.len
 refine ⟨s0, ω, fun _ => ?_⟩
 refine LoopWP.to p.length (fun s => s.2.1) (fun s => s.2.1 ≤ p.length ∧ QuoI d k p s.2.1 s.2.2.1 s.2.2.2 ∧ s.1 = s.2.2.2.length) ⟨Nat.zero_le _, QuoI.start, rfl⟩ (fun s h => h.1) ?_
 rintro ⟨n, q, Nx, Fn⟩ X ⟨hq, hI, hn⟩ hX
 try dsimp only at hq hI hn ⊢
 subst hn
 have hfew := hI.few hq
 have hnl := hI.nl
 unfold J3k
 split
 ·rename_i hlt
  have hq' : q < p.length := ω
  refine ⟨ω, hlt, ?_⟩
  split
  ·rename_i e
   have hrow := D.row q ω
   refine ⟨⟨ω, ω⟩, ω, ω, fun _ => ?_⟩
   refine LoopWP.to k (fun s => s.1) (fun s => s.1 ≤ k ∧ s.2.length = s.1 ∧ ∀ x : Nat, x < s.1 → ix s.2 x = ix p (ix (ix d.Next q) x)) ⟨Nat.zero_le _, rfl, fun x hx => by simp at hx⟩ (fun s h => h.1) ?_
   rintro ⟨x, row⟩ X2 ⟨hx, hrl, hri⟩ hX2
   try dsimp only at hx hrl hri ⊢
   unfold J3i
   split
   ·rename_i hxk
    have hat := D.at_ (q := q) (x := x) ω ω ω ω
    refine ⟨ω, hxk, hat.2.1, ω, by simp; omega, hX2 (x + 1, _) ⟨by dsimp only; omega, by simp [hrl], fun y hy => ?_⟩ rfl⟩
    dsimp only at hy ⊢
    by_cases hyx : y = x
    ·subst hyx; rw [ixL' ω]
    ·rw [ixA ω]; exact hri y ω
   ·rename_i hxk
    have : x = k := ω
    subst this
    exact ⟨ω, ω, by simp; omega, by simp; omega, hX (Fn.length + 1, q + 1, _) ⟨by dsimp only; omega, hI.push e hrl hri, by simp⟩ rfl⟩
  ·rename_i e
   have hc2 : ix p q < Fn.length := by
    apply Classical.byContradiction
    intro hc2
    exact e (hI.next hpc hq' hc2)
   exact hX (Fn.length, q + 1, _) ⟨by dsimp only; omega, hI.skip hc2, rfl⟩ rfl
 ·rename_i hlt
  have : q = p.length := ω
  subst this
  have hQ : Quo k d p ⟨d.Letters, ix p d.Start, Fn, Nx⟩ := hI.quo hpc ω rfl
  have DQ := hQ.da D hk hplen (by show Fn.length ≤ 512; omega)
  exact J6E DQ hk fun m pm W cm => h m W (J6k D hk hp hQ cm)
end
end Sg
namespace Sg
open Go
def MinOf (k : Nat) (d M : DFA) : Prop := ∃ W, Can k (nero d k) (acc d) M W
section
variable {k : Nat} {d M : DFA}
theorem J9c (d : DFA) (k : Nat) : Sat k (nero d k) (acc d) := fun u v _ _ h => by
 have := J4u.1 h [] (LW.nil k)
 simpa [acc] using this
theorem MinOf.uniq {M' : DFA} (h : MinOf k d M) (h' : MinOf k d M') : M = M' := by
 obtain ⟨W, c⟩ := h
 obtain ⟨W', c'⟩ := h'
 exact (c.uniq c').1
theorem MinOf.acc_ (h : MinOf k d M) (hk : k < 159) {w : Str} (hw : LW k w) : acc M w = acc d w := by
 obtain ⟨W, c⟩ := h
 exact c.acc (J5S d k) hk (J9c d k) hw
theorem MinOf.st (h : MinOf k d M) : M.Start = 0 := let ⟨_, c⟩ := h; c.st
theorem MinOf.le (h : MinOf k d M) : M.Letters = k := let ⟨_, c⟩ := h; c.le
theorem MinOf.pos (h : MinOf k d M) : 1 ≤ M.Final.length := by
 obtain ⟨W, c⟩ := h
 have := c.cl.zero.2
 rw [c.fl]; omega
theorem MinOf.da (h : MinOf k d M) (h1 : 1 ≤ k) (h6 : k ≤ 6) (hn : M.Final.length ≤ 512) : Da M := by
 obtain ⟨W, c⟩ := h
 exact c.da h1 h6 (by rw [← c.fl]; exact hn)
theorem MinOf.J45 (h : MinOf k d M) (hk : k < 159) {u v : Str} (hu : LW k u) (hv : LW k v) : (∀ q : Nat, q < M.Final.length → rn M q u = rn M q v) ↔ syn (acc d) k u = syn (acc d) k v := by
 have hacc : ∀ w, LW k w → ix M.Final (rn M 0 w) = acc d w := fun w hw => by
  have := h.acc_ hk hw
  rw [← this, acc, h.st]
 obtain ⟨W, c⟩ := h
 rw [Sg.J45]
 constructor
 ·intro e x y hx hy
  rw [← hacc _ (LW.app.2 ⟨LW.app.2 ⟨hx, hu⟩, hy⟩), ← hacc _ (LW.app.2 ⟨LW.app.2 ⟨hx, hv⟩, hy⟩), J0D, J0D, J0D, J0D]
  obtain ⟨j, e1, hj, _⟩ := c.run (J5S d k) hk hx
  rw [e1, e j (by rw [c.fl]; exact hj)]
 ·intro e q hq
  have hq : q < W.length := by rw [← c.fl]; exact hq
  have lq := c.cl.lw hq
  obtain ⟨j, e1, hj, r1⟩ := c.run (J5S d k) hk lq
  have : j = q := c.cl.inj hj hq r1
  subst this
  obtain ⟨a, ea, ha, ra⟩ := c.run (J5S d k) hk (LW.app.2 ⟨lq, hu⟩)
  obtain ⟨b, eb, hb, rb⟩ := c.run (J5S d k) hk (LW.app.2 ⟨lq, hv⟩)
  have hab : a = b := c.cl.inj ha hb (by
   rw [ra, rb, J4u]
   intro w hw
   exact e _ w lq hw)
  rw [J0D, e1] at ea eb
  rw [ea, eb, hab]
end
def PN (Ms : List DFA) : Nat := (Ms.map fun M => M.Final.length).sum
theorem J8l : PN [] = 0 := rfl
theorem J4a (Ms : List DFA) (M : DFA) : PN (Ms ++ [M]) = PN Ms + M.Final.length := by simp [PN]
theorem J9o (a b : List DFA) : PN (a ++ b) = PN a + PN b := by simp [PN]
theorem J7u {Ms : List DFA} {i : Nat} (hi : i < Ms.length) : PN (Ms.take (i + 1)) = PN (Ms.take i) + (ix Ms (i : Int)).Final.length := by rw [J2A hi, J4a]
theorem PN_le {Ms : List DFA} {i : Nat} (hi : i < Ms.length) : PN (Ms.take i) + (ix Ms (i : Int)).Final.length ≤ PN Ms := by
 have h1 : Ms = Ms.take (i + 1) ++ Ms.drop (i + 1) := (List.take_append_drop _ _).symm
 have h2 : PN Ms = PN (Ms.take (i + 1)) + PN (Ms.drop (i + 1)) := (congrArg PN h1).trans (J9o _ _)
 rw [h2, J7u hi]; omega
theorem J7T : ∀ {Ms : List DFA} {p : Nat}, p < PN Ms → ∃ i q, i < Ms.length ∧ q < (ix Ms (i : Int)).Final.length ∧ p = PN (Ms.take i) + q := by
  intro Ms p h
  have key : ∀ i, i ≤ Ms.length → p < PN (Ms.take i) → ∃ i q, i < Ms.length ∧ q < (ix Ms (i : Int)).Final.length ∧ p = PN (Ms.take i) + q := by
    intro i
    induction i with
    | zero => intro _ h; simp [PN] at h
    | succ i ih =>
      intro hi hp
      by_cases hlt : p < PN (Ms.take i)
      · exact ih ω hlt
      · rw [J7u ω] at hp
        exact ⟨i, p - PN (Ms.take i), ω, ω, ω⟩
  exact key Ms.length (Nat.le_refl _) (by rw [List.take_length]; exact h)
structure Uni (k : Nat) (Ms : List DFA) (gens : List (List Int)) : Prop where
 gl : gens.length = k
 cl : ∀ x : Nat, x < k → (ix gens x).length = PN Ms
 at_ : ∀ i q x : Nat, i < Ms.length → q < (ix Ms (i : Int)).Final.length → x < k → ix (ix gens (x : Int)) ((PN (Ms.take i) + q : Nat) : Int) = (PN (Ms.take i) : Int) + ix (ix (ix Ms (i : Int)).Next (q : Int)) (x : Int)
structure Mins (k : Nat) (ds Ms : List DFA) : Prop where
 len : Ms.length = ds.length
 min : ∀ i : Nat, i < ds.length → MinOf k (ix ds (i : Int)) (ix Ms (i : Int))
def syJ (ds : List DFA) (k : Nat) (w : Str) : Nat → {u : Str // LW k u} × {u : Str // LW k u} → Bool := fun i => if i < ds.length then syn (acc (ix ds (i : Int))) k w else fun _ => false
theorem J6q {ds : List DFA} {k : Nat} {u v : Str} : syJ ds k u = syJ ds k v ↔ ∀ i : Nat, i < ds.length → syn (acc (ix ds (i : Int))) k u = syn (acc (ix ds (i : Int))) k v := by
 constructor
 ·intro h i hi
  have := congrFun h i
  simpa [syJ, hi] using this
 ·intro h
  funext i
  by_cases hi : i < ds.length
  ·simp only [syJ, hi, if_true]; exact h i hi
  ·simp only [syJ, hi, if_false]
theorem Jae (ds : List DFA) (k : Nat) : RC k (syJ ds k) := fun u v b hu hv hb h => J6q.2 fun i hi => J9r _ k u v b hu hv hb (J6q.1 h i hi)
theorem J8y (d : DFA) (k : Nat) : Eqv k (syJ [d] k) (syn (acc d) k) := fun u v hu hv => by
 rw [J6q]
 constructor
 ·intro h; exact h 0 (by simp)
 ·intro h i hi
  have : i = 0 := by simpa using hi
  subst this
  exact h
section
variable {k : Nat} {ds Ms : List DFA} {gens : List (List Int)}
theorem Uni.GV_ (h : Uni k Ms gens) (hm : Mins k ds Ms) (h1 : 1 ≤ k) (h6 : k ≤ 6) (hd : 1 ≤ ds.length) (h32 : PN Ms ≤ 32) : GV gens = true := by
 have hgl := h.gl
 have hml := hm.len
 have e0 := h.cl 0 ω
 rw [show ((0 : Nat) : Int) = 0 from rfl] at e0
 have hpos : 1 ≤ PN Ms := by
  have := PN_le (Ms := Ms) (i := 0) ω
  have := (hm.min 0 ω).pos
  omega
 refine J0e.2 ⟨ω, ω, fun x hx => ⟨J1v.2 ⟨?_, ?_, fun p hp => ?_⟩, ?_⟩⟩
 ·rw [h.cl x ω]; exact hpos
 ·rw [h.cl x ω]; exact h32
 ·rw [h.cl x ω] at hp ⊢
  obtain ⟨i, q, hi, hq, rfl⟩ := J7T hp
  rw [h.at_ i q x hi hq ω]
  have hle := PN_le hi
  have M := hm.min i ω
  have Dm := M.da h1 h6 ω
  have := (Dm.at_ (q := q) (x := x) ω ω ω (by rw [M.le]; omega)).2
  omega
 ·rw [h.cl x ω, e0]
theorem Uni.len (h : Uni k Ms gens) (h1 : 1 ≤ k) : (ix gens 0).length = PN Ms := h.cl 0 ω
theorem Uni.vl_at (h : Uni k Ms gens) (hm : Mins k ds Ms) (hg : GV gens = true) (h1 : 1 ≤ k) (h6 : k ≤ 6) (h32 : PN Ms ≤ 32) {i q : Nat} (hi : i < Ms.length) (hq : q < (ix Ms (i : Int)).Final.length) {w : Str} :
    LW k w → ix (vl gens w) ((PN (Ms.take i) + q : Nat) : Int) = (PN (Ms.take i) : Int) + rn (ix Ms (i : Int)) q w := by
  have hgl := h.gl
  have hml := hm.len
  have hle := PN_le hi
  have M := hm.min i ω
  have Dm := M.da h1 h6 ω
  have hkl : (k : Int) = (ix Ms (i : Int)).Letters := M.le.symm
  have hl0 := h.len h1
  induction w using snocRec with
  | nil =>
    intro _
    rw [J7H, J4d ω, J8f]
    omega
  | snoc w b ih =>
    intro hw
    obtain ⟨hw1, hw2⟩ := LW.app.1 hw
    obtain ⟨x, hx, rfl⟩ := LW.letter ω hw2
    have hok := vl_ok hg (w := w) (by rw [hgl]; exact hw1)
    have e1 : ((lt x).toNat : Int) - 97 = x := by rw [J09 ω]; omega
    rw [J2k, e1, J25 ω (by rw [hok.2]; omega), ih hw1, J2R _ _ _ ω]
    have hin := rn_lw Dm hkl hw1 (q := q) ω ω
    obtain ⟨p, ep⟩ := Int.eq_ofNat_of_zero_le hin.1
    rw [ep] at hin ⊢
    have := h.at_ i p x hi ω hx
    rw [← this]
    congr 1
theorem Uni.eqv (h : Uni k Ms gens) (hm : Mins k ds Ms) (hg : GV gens = true) (h1 : 1 ≤ k) (h6 : k ≤ 6) (h32 : PN Ms ≤ 32) : Eqv k (vl gens) (syJ ds k) := fun u v hu hv => by
 have hgl := h.gl
 have hml := hm.len
 have hl0 := h.len h1
 have hu' := vl_ok hg (w := u) (by rw [hgl]; exact hu)
 have hv' := vl_ok hg (w := v) (by rw [hgl]; exact hv)
 rw [J6q]
 constructor
 ·intro e i hi
  refine ((hm.min i hi).J45 ω hu hv).1 fun q hq => ?_
  have a := h.vl_at hm hg h1 h6 h32 (i := i) ω hq hu
  have b := h.vl_at hm hg h1 h6 h32 (i := i) ω hq hv
  rw [e] at a
  omega
 ·intro e
  refine J0b (by rw [hu'.2, hv'.2]) fun p hp => ?_
  rw [hu'.2, hl0] at hp
  obtain ⟨i, q, hi, hq, rfl⟩ := J7T hp
  rw [h.vl_at hm hg h1 h6 h32 hi hq hu, h.vl_at hm hg h1 h6 h32 hi hq hv, ((hm.min i ω).J45 ω hu hv).2 (e i ω) q hq]
end
section
variable {gens : List (List Int)} {r : run}
theorem Fin.CL_ (hg : GV gens = true) (h : Fin gens true r) : CL gens.length (vl gens) r.words (fun _ => True) := by
 have hr := h.1.rlT hg
 refine ⟨hr.asc, fun w => ?_⟩
 rw [hr.mem]
 constructor
 ·rintro ⟨⟨⟨h1, _⟩, h2⟩, _⟩
  exact ⟨⟨h1, fun v hv => h2 v ⟨hv, .inl rfl⟩⟩, trivial⟩
 ·rintro ⟨⟨h1, h2⟩, _⟩
  exact ⟨⟨⟨h1, .inl rfl⟩, fun v hv => h2 v hv.1⟩, trivial⟩
theorem Fin.w0 (hg : GV gens = true) (h : Fin gens true r) : ix r.words 0 = [] ∧ 0 < r.words.length := (h.CL_ hg).zero
theorem Fin.from_ (hg : GV gens = true) (h : Fin gens true r) {i : Nat} (hi : i < r.words.length) (h0 : 0 < i) :
  ∃ p x : Nat, p < i ∧ ix r.Enum.Prefix i = (p : Int) ∧ x < gens.length ∧ ix r.words i = ix r.words p ++ [lt x] ∧ ix r.Enum.Last i = (x : Int) := by
 have hk6 := (J0e.1 hg).2.1
 have hz := h.w0 hg
 have asc := (h.CL_ hg).asc
 have hne : ix r.words i ≠ [] := fun e => by
  have := J3L asc hi hz.2 (by rw [e]; exact hz.1.symm)
  omega
 rcases h.1.si.at_ i hi with ⟨h1, _⟩ | ⟨p, b, h1, h2, h3, h4⟩
 ·exact absurd h1 hne
 ·have hw := ((h.CL_ hg).mem _).1 (J0g.2 ⟨i, hi, rfl⟩)
  have hw := hw.1.1
  rw [h1] at hw
  obtain ⟨x, hx, rfl⟩ := LW.letter ω (LW.app.1 hw).2
  rw [J09 ω] at h2
  rcases h3 with ⟨_, e2, _⟩ | ⟨_, e2, e3, e4⟩
  ·cases e2
  ·obtain ⟨q, hq⟩ := Int.eq_ofNat_of_zero_le e2
   rw [hq] at e2 e3 e4
   refine ⟨q, x, ?_, hq, hx, by rw [h1, e4], ω⟩
   refine J35 asc ω hi ?_
   rw [e4, h1]
   exact .inl (by simp)
theorem Fin.el (h : Fin gens true r) : r.Enum.Elems.length = r.words.length := h.1.si.elen
theorem J7P {k : Nat} {α : Type} {ρ : Str → α} {W : List Str} (c : CL k ρ W (fun _ => True)) {i : Nat} (hi : i < W.length) (h0 : 0 < i) : ∃ w, LW k w ∧ w ≠ [] ∧ ρ w = ρ (ix W i) :=
 ⟨ix W i, c.lw hi, fun e => by
  have hz := c.zero
  have := J3L c.asc hi hz.2 (by rw [e]; exact hz.1.symm)
  omega, rfl⟩
theorem J9t {k : Nat} (hg : GV gens = true) (hk : gens.length = k) (h : Fin gens true r) {l : Int} {T : List (List Int)} {im : List Int} {A P : List Bool} (hl : l = k)
  (t1 : T.length = r.words.length) (t2 : ∀ i : Nat, i < r.words.length → (ix T i).length = r.words.length)
  (t3 : ∀ i j : Nat, i < r.words.length → j < r.words.length → ∃ m : Nat, ix (ix T i) j = m ∧ m < r.words.length ∧ vl gens (ix r.words m) = vl gens (ix r.words i ++ ix r.words j))
  (i1 : im.length = k) (i2 : ∀ x : Nat, x < k → ∃ m : Nat, ix im x = m ∧ m < r.words.length ∧ vl gens (ix r.words m) = vl gens [lt x])
  (p1 : P.length = r.words.length) (p2 : ∀ i : Nat, 0 < i → i < r.words.length → ix P i = true) (p3 : ix P 0 = true ↔ ∃ w, LW k w ∧ w ≠ [] ∧ vl gens w = vl gens []) : Mon k (vl gens) ⟨l, T, r.words, im, A, P⟩ := by
 have c := h.CL_ hg
 rw [hk] at c
 refine ⟨c, hl, t1, t2, t3, i1, i2, p1, fun i hi => ?_⟩
 rcases Nat.eq_zero_or_pos i with h0 | h0
 ·subst h0
  have hz := c.zero
  show ix P 0 = true ↔ _
  rw [p3]
  show _ ↔ ∃ w, LW k w ∧ w ≠ [] ∧ vl gens w = vl gens (ix r.words ((0 : Nat) : Int))
  rw [show ((0 : Nat) : Int) = 0 from rfl, hz.1]
 ·exact ⟨fun _ => J7P c hi h0, fun _ => p2 i h0 hi⟩
end
end Sg
namespace Sg
open Go
theorem slices_Contains_ok' {s : List Int} {v : Int} {K : Bool → Prop} (h : K (decide (v ∈ s))) : J0k s v K := by
 unfold J0k J0X
 refine fun _ => LoopWP.scan s.length (fun j => ix s j ≠ v) ?_
 intro j X hj hI hX
 unfold J2h
 split
 ·rename_i hlt
  refine ⟨ω, hlt, ?_⟩
  split
  ·rename_i e
   dsimp only
   rw [if_pos ω]
   have : v ∈ s := by rw [e]; exact J0U ω hlt
   rw [decide_eq_true this] at h
   exact h
  ·rename_i e
   exact hX ω (fun h2 => e h2.symm)
 ·dsimp only
  rw [if_neg (by decide)]
  have : v ∉ s := fun hm => by
   obtain ⟨i, hi, e⟩ := J0g.1 hm
   exact hI i ω e
  rw [decide_eq_false this] at h
  exact h
section
variable {gens : List (List Int)} {r : run}
def CellI (gens : List (List Int)) (r : run) (a j : Nat) (v : Int) : Prop := ∃ m : Nat, v = m ∧ m < r.words.length ∧ vl gens (ix r.words m) = vl gens (ix r.words a ++ ix r.words j)
def TabI (gens : List (List Int)) (r : run) (i : Nat) (T : List (List Int)) : Prop := T.length = r.words.length ∧ ∀ a : Nat, a < i → (ix T a).length = r.words.length ∧ ∀ j : Nat, j < r.words.length → CellI gens r a j (ix (ix T a) j)
def RowT (gens : List (List Int)) (r : run) (i j : Nat) (T : List (List Int)) : Prop := TabI gens r i T ∧ (ix T i).length = r.words.length ∧ ∀ y : Nat, y < j → CellI gens r i y (ix (ix T i) y)
theorem RowT.all {i : Nat} {T : List (List Int)} (h : RowT gens r i r.words.length T) : TabI gens r (i + 1) T :=
 ⟨h.1.1, fun a ha => by
  by_cases e : a = i
  ·subst e; exact h.2
  ·exact h.1.2 a ω⟩
theorem RowT.start {i : Nat} {T : List (List Int)} (hg : GV gens = true) (hF : Fin gens true r) (h : TabI gens r i T) (hi : i < r.words.length) :
  RowT gens r i 1 (st (st T (i : Int) (List.replicate r.Enum.Elems.length (0 : Int))) (i : Int) (st (ix (st T (i : Int) (List.replicate r.Enum.Elems.length (0 : Int))) (i : Int)) (0 : Int) (i : Int))) := by
 have hl := h.1
 have hel := hF.el
 have hz := hF.w0 hg
 refine ⟨⟨by simp [hl], fun a ha => ?_⟩, ?_, fun y hy => ?_⟩
 ·rw [ix_st _ ω (by simp; omega) ω, if_neg ω, ix_st _ ω ω ω, if_neg ω]
  exact h.2 a ha
 ·rw [ix_st _ ω (by simp; omega) ω, if_pos rfl, ix_st _ ω ω ω, if_pos rfl]
  simp [hel]
 ·have : y = 0 := ω
  subst this
  have e : ix (st T (i : Int) (List.replicate r.Enum.Elems.length (0 : Int))) (i : Int) = List.replicate r.Enum.Elems.length (0 : Int) := by rw [ix_st _ ω ω ω, if_pos rfl]
  rw [ix_st _ ω (by simp; omega) ω, if_pos rfl, e, ix_st _ ω (by simp; omega) ω, if_pos ω]
  exact ⟨i, rfl, hi, by rw [show ((0 : Nat) : Int) = 0 from rfl, hz.1, List.append_nil]⟩
theorem RowT.look {i j : Nat} {T : List (List Int)} (hg : GV gens = true) (hF : Fin gens true r) (h : RowT gens r i j T) (hi : i < r.words.length) (hj : j < r.words.length) (h0 : 0 < j) :
  0 ≤ ix r.Enum.Prefix j ∧ ix r.Enum.Prefix j < r.words.length ∧ 0 ≤ ix (ix T i) (ix r.Enum.Prefix j) ∧ ix (ix T i) (ix r.Enum.Prefix j) < r.Enum.Right.length ∧ 0 ≤ ix r.Enum.Last j ∧ ix r.Enum.Last j < (ix r.Enum.Right (ix (ix T i) (ix r.Enum.Prefix j))).length ∧ CellI gens r i j (ix (ix r.Enum.Right (ix (ix T i) (ix r.Enum.Prefix j))) (ix r.Enum.Last j)) := by
 obtain ⟨p, x, hp, e1, hx, e2, e3⟩ := hF.from_ hg hj h0
 obtain ⟨m, em, hm, rm⟩ := h.2.2 p hp
 rw [e1, em, e3]
 obtain ⟨r1, r2, r3, r4, r5⟩ := hF.1.J6M (q := (m : Int)) (x := x) ω ω hx rm
 obtain ⟨v, ev⟩ := Int.eq_ofNat_of_zero_le r3
 refine ⟨ω, ω, ω, r1, ω, ω, v, ev, ω, ?_⟩
 rw [ev] at r5
 rw [r5, e2, List.append_assoc]
theorem RowT.step {i j : Nat} {T : List (List Int)} {v : Int} (h : RowT gens r i j T) (hi : i < r.words.length) (hj : j < r.words.length) (hv : CellI gens r i j v) : RowT gens r i (j + 1) (st T (i : Int) (st (ix T (i : Int)) (j : Int) v)) := by
 have hl := h.1.1
 have hr := h.2.1
 refine ⟨⟨by simp [hl], fun a ha => ?_⟩, ?_, fun y hy => ?_⟩
 ·rw [ix_st _ ω ω ω, if_neg ω]; exact h.1.2 a ha
 ·rw [ix_st _ ω ω ω, if_pos rfl]; simp [hr]
 ·rw [ix_st _ ω ω ω, if_pos rfl, ix_st _ ω ω ω]
  by_cases e : y = j
  ·subst e; rw [if_pos rfl]; exact hv
  ·rw [if_neg ω]; exact h.2.2 y ω
structure PlI (gens : List (List Int)) (r : run) (i : Nat) (pl : List Bool) : Prop where
 len : pl.length = r.words.length
 pos : ∀ j : Nat, 0 < j → j < r.words.length → ix pl j = true
 zer : ix pl 0 = true ↔ ∃ a x : Nat, a < i ∧ x < gens.length ∧ ix (ix r.Enum.Right a) x = 0
theorem PlI.step {i : Nat} {pl : List Bool} (hF : Fin gens true r) (h : PlI gens r i pl) (hi : i < r.words.length) {b : Bool} (hb : b = (ix pl 0 || decide ((0 : Int) ∈ ix r.Enum.Right (i : Int)))) : PlI gens r (i + 1) (st pl (0 : Int) b) := by
 have hl := h.len
 refine ⟨by simp [hl], fun j h0 hj => ?_, ?_⟩
 ·rw [ix_st _ ω ω ω, if_neg ω]; exact h.pos j h0 hj
 ·rw [ix_st _ ω ω ω, if_pos rfl, hb]
  simp only [Bool.or_eq_true, decide_eq_true_eq, h.zer]
  have hrow := (hF.1.rt.2 i hi).1
  constructor
  ·rintro (⟨a, x, h1, h2, h3⟩ | hm)
   ·exact ⟨a, x, ω, h2, h3⟩
   ·obtain ⟨x, hx, e⟩ := J0g.1 hm
    exact ⟨i, x, ω, ω, e⟩
  ·rintro ⟨a, x, h1, h2, h3⟩
   by_cases e : a = i
   ·subst e
    refine .inr ?_
    rw [← h3]
    exact J0U ω ω
   ·exact .inl ⟨a, x, ω, h2, h3⟩
theorem PlI.all {pl : List Bool} (hg : GV gens = true) (hF : Fin gens true r) (h : PlI gens r r.words.length pl) : ix pl 0 = true ↔ ∃ w, LW gens.length w ∧ w ≠ [] ∧ vl gens w = vl gens [] := by
 have hk6 := (J0e.1 hg).2.1
 have c := hF.CL_ hg
 have hz := c.zero
 rw [h.zer]
 constructor
 ·rintro ⟨a, x, ha, hx, e⟩
  obtain ⟨_, _, _, _, r5⟩ := hF.1.J6M (q := (a : Int)) (x := x) (w := ix r.words a) ω ω hx rfl
  rw [e, hz.1] at r5
  exact ⟨ix r.words a ++ [lt x], LW.app.2 ⟨c.lw ha, LW.lt hx ω⟩, by simp, r5.symm⟩
 ·rintro ⟨w, hw, hne, e⟩
  obtain ⟨p, b, rfl⟩ := snocEx hne
  obtain ⟨hp, hb⟩ := LW.app.1 hw
  obtain ⟨x, hx, rfl⟩ := LW.letter ω hb
  obtain ⟨a, ha, ea⟩ := c.place hp
  obtain ⟨_, _, r3, r4, r5⟩ := hF.1.J6M (q := (a : Int)) (x := x) (w := p) ω ω hx ea
  refine ⟨a, x, ha, hx, ?_⟩
  obtain ⟨v, ev⟩ := Int.eq_ofNat_of_zero_le r3
  rw [ev] at r4 r5 ⊢
  have : v = 0 := c.inj ω hz.2 (by rw [r5, e, show ((0 : Nat) : Int) = 0 from rfl, hz.1])
  omega
def WdI (r : run) (i : Nat) (w : List Str) : Prop := w.length = r.words.length ∧ ∀ j : Nat, j < i → ix w j = ix r.words j
theorem WdI.step {i : Nat} {w : List Str} (h : WdI r i w) (hi : i < r.words.length) {u : Str} (hu : u = ix r.words i) : WdI r (i + 1) (st w (i : Int) u) := by
 have hl := h.1
 refine ⟨by simp [hl], fun j hj => ?_⟩
 rw [ix_st _ ω ω ω]
 by_cases e : j = i
 ·subst e; rw [if_pos rfl]; exact hu
 ·rw [if_neg ω]; exact h.2 j ω
def LsI (P : List part) (r : run) (L : List (List Bool)) (a : Nat) : Prop := (ix L (a : Int)).length = r.words.length ∧ ∀ i : Nat, i < r.words.length → ix (ix L (a : Int)) i = ix (ix P (a : Int)).final (ix (ix r.Enum.Elems i) (ix P (a : Int)).start - (ix P (a : Int)).shift)
def PtI (P : List part) (r : run) : Prop := ∀ a i : Nat, a < P.length → i < r.words.length → 0 ≤ (ix P (a : Int)).start ∧ (ix P (a : Int)).start < (ix r.Enum.Elems i).length ∧ I64 (ix (ix r.Enum.Elems i) (ix P (a : Int)).start - (ix P (a : Int)).shift) ∧ 0 ≤ ix (ix r.Enum.Elems i) (ix P (a : Int)).start - (ix P (a : Int)).shift ∧ ix (ix r.Enum.Elems i) (ix P (a : Int)).start - (ix P (a : Int)).shift < (ix P (a : Int)).final.length
section
variable {M : DFA} {im : List Int} {K : Syntactic → Int → Prop}
theorem J7i (hg : GV gens = true) (hF : Fin gens true r) {i : Nat} {pl : List Bool} {T : List (List Int)} {X : Nat → List Bool → List (List Int) → Prop} (hi : i < r.words.length) (hT : RowT gens r i 1 T) (h : ∀ T, TabI gens r (i + 1) T → X (i + 1) (st pl (0 : Int) true) T) :
  LoopWP (S := Nat × List (List Int)) (fun s Y => J2u r.Enum i pl X K (fun a b => Y (a, b)) s.1 s.2) (1, T) := by
 have hel := hF.el
 have hpl := hF.1.si.pl
 have hll := hF.1.si.ll
 refine LoopWP.to r.words.length (fun s => s.1) (fun s => 1 ≤ s.1 ∧ s.1 ≤ r.words.length ∧ RowT gens r i s.1 s.2) ⟨Nat.le_refl _, by show 1 ≤ r.words.length; omega, hT⟩ (fun s h => h.2.1) ?_
 rintro ⟨j, T⟩ Y ⟨h1, hj, hT⟩ hY
 try dsimp only at h1 hj hT ⊢
 unfold J2u
 have hTl := hT.1.1
 have hrl := hT.2.1
 split
 ·rename_i hlt
  have hj' : j < r.words.length := ω
  obtain ⟨a1, a2, a3, a4, a5, a6, a7⟩ := hT.look hg hF hi hj' ω
  exact ⟨ω, ω, ω, ω, ω, ω, a1, ω, a3, a4, ω, ω, a5, a6, ω, ω, hY (j + 1, _) ⟨by dsimp only; omega, hj', hT.step hi hj' a7⟩ rfl⟩
 ·have : j = r.words.length := ω
  subst this
  exact h T hT.all
theorem J7B (hg : GV gens = true) (hF : Fin gens true r) {i : Nat} {pl : List Bool} {b : Bool} {T : List (List Int)} {X : Nat → List Bool → List (List Int) → Prop} (hi : i < r.words.length) (hT : RowT gens r i 1 T) (h : ∀ T, TabI gens r (i + 1) T → X (i + 1) (st pl (0 : Int) b) T) :
  LoopWP (S := Nat × List (List Int)) (fun s Y => J2m r.Enum i pl X b K (fun a b => Y (a, b)) s.1 s.2) (1, T) := by
 have hel := hF.el
 have hpl := hF.1.si.pl
 have hll := hF.1.si.ll
 refine LoopWP.to r.words.length (fun s => s.1) (fun s => 1 ≤ s.1 ∧ s.1 ≤ r.words.length ∧ RowT gens r i s.1 s.2) ⟨Nat.le_refl _, by show 1 ≤ r.words.length; omega, hT⟩ (fun s h => h.2.1) ?_
 rintro ⟨j, T⟩ Y ⟨h1, hj, hT⟩ hY
 try dsimp only at h1 hj hT ⊢
 unfold J2m
 have hTl := hT.1.1
 have hrl := hT.2.1
 split
 ·rename_i hlt
  have hj' : j < r.words.length := ω
  obtain ⟨a1, a2, a3, a4, a5, a6, a7⟩ := hT.look hg hF hi hj' ω
  exact ⟨ω, ω, ω, ω, ω, ω, a1, ω, a3, a4, ω, ω, a5, a6, ω, ω, hY (j + 1, _) ⟨by dsimp only; omega, hj', hT.step hi hj' a7⟩ rfl⟩
 ·have : j = r.words.length := ω
  subst this
  exact h T hT.all
theorem J7m (hF : Fin gens true r) (hn : r.words.length ≤ 400) (hP : PtI (([] : List part) ++ [(⟨(0 : Int) + M.Start, M.Final, (0 : Int)⟩ : part)]) r) {w : List Str} {pl : List Bool} {T : List (List Int)} (h1 : 1 ≤ (([] : List part) ++ [(⟨(0 : Int) + M.Start, M.Final, (0 : Int)⟩ : part)]).length) (h : ∀ L : List (List Bool), L.length = (([] : List part) ++ [(⟨(0 : Int) + M.Start, M.Final, (0 : Int)⟩ : part)]).length → (∀ a : Nat, a < (([] : List part) ++ [(⟨(0 : Int) + M.Start, M.Final, (0 : Int)⟩ : part)]).length → LsI (([] : List part) ++ [(⟨(0 : Int) + M.Start, M.Final, (0 : Int)⟩ : part)]) r L a) → K ⟨(gens.length : Int), T, w, im, ix L (0 : Int), pl⟩ 0) :
  LoopWP (S := Nat × List (List Bool)) (fun s Y => J29 M gens r.Enum im w pl T K (fun a b => Y (a, b)) s.1 s.2) (0, List.replicate (([] : List part) ++ [(⟨(0 : Int) + M.Start, M.Final, (0 : Int)⟩ : part)]).length ([] : List Bool)) := by
 have hel := hF.el
 refine LoopWP.to (([] : List part) ++ [(⟨(0 : Int) + M.Start, M.Final, (0 : Int)⟩ : part)]).length (fun s => s.1) (fun s => s.1 ≤ (([] : List part) ++ [(⟨(0 : Int) + M.Start, M.Final, (0 : Int)⟩ : part)]).length ∧ s.2.length = (([] : List part) ++ [(⟨(0 : Int) + M.Start, M.Final, (0 : Int)⟩ : part)]).length ∧ ∀ a : Nat, a < s.1 → LsI (([] : List part) ++ [(⟨(0 : Int) + M.Start, M.Final, (0 : Int)⟩ : part)]) r s.2 a) ⟨Nat.zero_le _, by simp, fun a ha => by simp at ha⟩ (fun s h => h.1) ?_
 rintro ⟨b, L⟩ Y ⟨hb, hL, hI⟩ hY
 try dsimp only at hb hL hI ⊢
 unfold J29
 split
 ·rename_i hlt
  have hb' : b < (([] : List part) ++ [(⟨(0 : Int) + M.Start, M.Final, (0 : Int)⟩ : part)]).length := ω
  refine ⟨ω, hlt, ω, ω, ω, ω, ?_⟩
  refine LoopWP.to r.words.length (fun s => s.1) (fun s => s.1 ≤ r.words.length ∧ s.2.length = (([] : List part) ++ [(⟨(0 : Int) + M.Start, M.Final, (0 : Int)⟩ : part)]).length ∧ (∀ a : Nat, a < b → LsI (([] : List part) ++ [(⟨(0 : Int) + M.Start, M.Final, (0 : Int)⟩ : part)]) r s.2 a) ∧ (ix s.2 (b : Int)).length = r.words.length ∧ ∀ i : Nat, i < s.1 → ix (ix s.2 (b : Int)) i = ix (ix (([] : List part) ++ [(⟨(0 : Int) + M.Start, M.Final, (0 : Int)⟩ : part)]) (b : Int)).final (ix (ix r.Enum.Elems i) (ix (([] : List part) ++ [(⟨(0 : Int) + M.Start, M.Final, (0 : Int)⟩ : part)]) (b : Int)).start - (ix (([] : List part) ++ [(⟨(0 : Int) + M.Start, M.Final, (0 : Int)⟩ : part)]) (b : Int)).shift)) ⟨Nat.zero_le _, by simp only [J06]; exact hL, fun a ha => ?_, ?_, fun i hi => by simp at hi⟩ (fun s h => h.1) ?_
  ·have := hI a ha
   unfold LsI at this ⊢
   dsimp only
   rw [ix_st _ ω ω ω, if_neg ω]
   exact this
  ·dsimp only
   rw [ix_st _ ω ω ω, if_pos rfl]; simp [hel]
  rintro ⟨i, L⟩ Z ⟨hi, hL, hI, hbl, hJ⟩ hZ
  try dsimp only at hi hL hI hbl hJ ⊢
  unfold J3K
  split
  ·rename_i hlt2
   have hi' : i < r.words.length := ω
   obtain ⟨p1, p2, p3, p4, p5⟩ := hP b i hb' hi'
   refine ⟨ω, ω, ω, ω, ?_⟩
   unfold J0i
   refine ⟨p1, p2, p3, p4, p5, ω, ω, hZ (i + 1, _) ⟨by dsimp only; omega, by simp only [J06]; exact hL, fun a ha => ?_, ?_, fun y hy => ?_⟩ rfl⟩
   ·have := hI a ha
    unfold LsI at this ⊢
    dsimp only
    rw [ix_st _ ω ω ω, if_neg ω]
    exact this
   ·dsimp only
    rw [ix_st _ ω ω ω, if_pos rfl]; simp [hbl]
   ·dsimp only at hy ⊢
    rw [ix_st _ ω ω ω, if_pos rfl, ix_st _ ω ω ω]
    by_cases e : y = i
    ·subst e; rw [if_pos rfl]
    ·rw [if_neg ω]; exact hJ y ω
  ·have : i = r.words.length := ω
   subst this
   exact hY (b + 1, L) ⟨by dsimp only; omega, hL, fun a ha => by
    by_cases e : a = b
    ·subst e; exact ⟨hbl, hJ⟩
    ·exact hI a (by dsimp only at ha; omega)⟩ rfl
 ·rename_i hlt
  have : b = (([] : List part) ++ [(⟨(0 : Int) + M.Start, M.Final, (0 : Int)⟩ : part)]).length := ω
  subst this
  have hh := h L hL hI
  exact ⟨ω, ω, hh⟩
theorem J78 (hg : GV gens = true) (hF : Fin gens true r) (hn : r.words.length ≤ 400) (hP : PtI (([] : List part) ++ [(⟨(0 : Int) + M.Start, M.Final, (0 : Int)⟩ : part)]) r) {w : List Str} {pl : List Bool} (h1 : 1 ≤ (([] : List part) ++ [(⟨(0 : Int) + M.Start, M.Final, (0 : Int)⟩ : part)]).length) (h32 : (([] : List part) ++ [(⟨(0 : Int) + M.Start, M.Final, (0 : Int)⟩ : part)]).length ≤ 1000) (hpl : PlI gens r 0 pl)
  (h : ∀ (T : List (List Int)) (pl : List Bool) (L : List (List Bool)), TabI gens r r.words.length T → PlI gens r r.words.length pl → L.length = (([] : List part) ++ [(⟨(0 : Int) + M.Start, M.Final, (0 : Int)⟩ : part)]).length → (∀ a : Nat, a < (([] : List part) ++ [(⟨(0 : Int) + M.Start, M.Final, (0 : Int)⟩ : part)]).length → LsI (([] : List part) ++ [(⟨(0 : Int) + M.Start, M.Final, (0 : Int)⟩ : part)]) r L a) → K ⟨(gens.length : Int), T, w, im, ix L (0 : Int), pl⟩ 0) :
  LoopWP (S := Nat × List Bool × List (List Int)) (fun s Y => J28 M gens r.Enum im w K (fun a b c => Y (a, b, c)) s.1 s.2.1 s.2.2) (0, pl, List.replicate r.Enum.Elems.length ([] : List Int)) := by
 have hel := hF.el
 have hrt := hF.1.rt.1
 have hz := hF.w0 hg
 refine LoopWP.to r.words.length (fun s => s.1) (fun s => s.1 ≤ r.words.length ∧ PlI gens r s.1 s.2.1 ∧ TabI gens r s.1 s.2.2) ⟨Nat.zero_le _, hpl, by simp [hel], fun a ha => by simp at ha⟩ (fun s h => h.1) ?_
 rintro ⟨i, pl, T⟩ Y ⟨hi, hpl, hT⟩ hY
 try dsimp only at hi hpl hT ⊢
 have hpll := hpl.len
 have hTl := hT.1
 unfold J28
 split
 ·rename_i hlt
  have hi' : i < r.words.length := ω
  have hs := RowT.start hg hF hT hi'
  have e0 : ((ix (st T (i : Int) (List.replicate r.Enum.Elems.length (0 : Int))) (i : Int)).length : Int) = r.words.length := by
   rw [ix_st _ ω ω ω, if_pos rfl]; simp [hel]
  refine ⟨ω, hlt, ω, ω, ?_⟩
  split
  ·rename_i hp0
   refine ⟨ω, ω, ω, ω, ω, ω, ω, by rw [J06]; omega, ω, ω, J7i hg hF hi' hs fun T hT => hY (i + 1, _, T) ⟨by dsimp only; omega, hpl.step hF hi' (by rw [hp0]; rfl), hT⟩ rfl⟩
  ·rename_i hp0
   refine slices_Contains_ok' ?_
   refine ⟨ω, ω, ω, ω, ω, ω, ω, by rw [J06]; omega, ω, ω, J7B hg hF hi' hs fun T hT => hY (i + 1, _, T) ⟨by dsimp only; omega, hpl.step hF hi' (by rw [Bool.eq_false_iff.2 hp0]; rfl), hT⟩ rfl⟩
 ·have : i = r.words.length := ω
  subst this
  exact ⟨ω, ω, J7m hF hn hP h1 fun L hL hI => h T pl L hT hpl hL hI⟩
theorem J7x (hg : GV gens = true) (hF : Fin gens true r) (hn : r.words.length ≤ 400) (hP : PtI (([] : List part) ++ [(⟨(0 : Int) + M.Start, M.Final, (0 : Int)⟩ : part)]) r) (h1 : 1 ≤ (([] : List part) ++ [(⟨(0 : Int) + M.Start, M.Final, (0 : Int)⟩ : part)]).length) (h32 : (([] : List part) ++ [(⟨(0 : Int) + M.Start, M.Final, (0 : Int)⟩ : part)]).length ≤ 1000)
  (h : ∀ (w : List Str) (T : List (List Int)) (pl : List Bool) (L : List (List Bool)), w = r.words → TabI gens r r.words.length T → PlI gens r r.words.length pl → L.length = (([] : List part) ++ [(⟨(0 : Int) + M.Start, M.Final, (0 : Int)⟩ : part)]).length → (∀ a : Nat, a < (([] : List part) ++ [(⟨(0 : Int) + M.Start, M.Final, (0 : Int)⟩ : part)]).length → LsI (([] : List part) ++ [(⟨(0 : Int) + M.Start, M.Final, (0 : Int)⟩ : part)]) r L a) → K ⟨(gens.length : Int), T, w, im, ix L (0 : Int), pl⟩ 0) :
  LoopWP (S := Nat × List Bool × List Str) (fun s Y => J2w M gens r.Enum im K (fun a b c => Y (a, b, c)) s.1 s.2.1 s.2.2) (1, List.replicate r.Enum.Elems.length false, List.replicate r.Enum.Elems.length ([] : Str)) := by
 have hel := hF.el
 have hplx := hF.1.si.pl
 have hll := hF.1.si.ll
 have hz := hF.w0 hg
 have hk6 := (J0e.1 hg).2.1
 refine LoopWP.to r.words.length (fun s => s.1) (fun s => 1 ≤ s.1 ∧ s.1 ≤ r.words.length ∧ s.2.1.length = r.words.length ∧ (∀ j : Nat, 0 < j → j < s.1 → ix s.2.1 j = true) ∧ ix s.2.1 0 = false ∧ WdI r s.1 s.2.2) ⟨Nat.le_refl _, hz.2, by simp [hel], fun j h0 hj => by dsimp only at hj; omega, ?_, by simp [hel], fun j hj => ?_⟩ (fun s h => h.2.1) ?_
 ·dsimp only
  rw [show (0 : Int) = ((0 : Nat) : Int) from rfl, J0f _ _ ω]
 ·dsimp only at hj ⊢
  have : j = 0 := ω
  subst this
  rw [J0f _ _ ω]
  exact hz.1.symm
 rintro ⟨i, pl, w⟩ Y ⟨h0, hi, hpl, hp1, hp0, hw⟩ hY
 try dsimp only at h0 hi hpl hp1 hp0 hw ⊢
 have hwl := hw.1
 unfold J2w
 split
 ·rename_i hlt
  have hi' : i < r.words.length := ω
  obtain ⟨p, x, hp, e1, hx, e2, e3⟩ := hF.from_ hg hi' ω
  have hwp := hF.1.si.wl p ω
  rw [e1, e3, J4W ω, hw.2 p ω]
  exact ⟨ω, ω, ω, ω, ω, ω, ⟨ω, ω⟩, by simp; omega, ω, ω, ω, ω, hY (i + 1, _, _) ⟨by dsimp only; omega, hi', by simp [hpl], fun j h0 hj => by
   dsimp only at hj ⊢
   rw [ix_st _ ω ω ω]
   by_cases e : j = i
   ·subst e; rw [if_pos rfl]
   ·rw [if_neg ω]; exact hp1 j h0 ω, by
   dsimp only
   rw [ix_st _ ω ω ω, if_neg ω]; exact hp0, hw.step hi' e2.symm⟩ rfl⟩
 ·have : i = r.words.length := ω
  subst this
  have ew : w = r.words := J0b hw.1 fun j hj => hw.2 j ω
  exact fun _ => J78 hg hF hn hP h1 h32 ⟨hpl, hp1, by rw [hp0]; simp⟩ fun T pl L h1 h2 h3 h4 => h w T pl L ew h1 h2 h3 h4
end
section
variable {P : List part} {im : List Int} {K : Syntactic → List (List Bool) → Int → Prop}
theorem J7A (hg : GV gens = true) (hF : Fin gens true r) {i : Nat} {pl : List Bool} {T : List (List Int)} {X : Nat → List Bool → List (List Int) → Prop} (hi : i < r.words.length) (hT : RowT gens r i 1 T) (h : ∀ T, TabI gens r (i + 1) T → X (i + 1) (st pl (0 : Int) true) T) :
  LoopWP (S := Nat × List (List Int)) (fun s Y => J10 r.Enum i pl X K (fun a b => Y (a, b)) s.1 s.2) (1, T) := by
 have hel := hF.el
 have hpl := hF.1.si.pl
 have hll := hF.1.si.ll
 refine LoopWP.to r.words.length (fun s => s.1) (fun s => 1 ≤ s.1 ∧ s.1 ≤ r.words.length ∧ RowT gens r i s.1 s.2) ⟨Nat.le_refl _, by show 1 ≤ r.words.length; omega, hT⟩ (fun s h => h.2.1) ?_
 rintro ⟨j, T⟩ Y ⟨h1, hj, hT⟩ hY
 try dsimp only at h1 hj hT ⊢
 unfold J10
 have hTl := hT.1.1
 have hrl := hT.2.1
 split
 ·rename_i hlt
  have hj' : j < r.words.length := ω
  obtain ⟨a1, a2, a3, a4, a5, a6, a7⟩ := hT.look hg hF hi hj' ω
  exact ⟨ω, ω, ω, ω, ω, ω, a1, ω, a3, a4, ω, ω, a5, a6, ω, ω, hY (j + 1, _) ⟨by dsimp only; omega, hj', hT.step hi hj' a7⟩ rfl⟩
 ·have : j = r.words.length := ω
  subst this
  exact h T hT.all
theorem J7c (hg : GV gens = true) (hF : Fin gens true r) {i : Nat} {pl : List Bool} {b : Bool} {T : List (List Int)} {X : Nat → List Bool → List (List Int) → Prop} (hi : i < r.words.length) (hT : RowT gens r i 1 T) (h : ∀ T, TabI gens r (i + 1) T → X (i + 1) (st pl (0 : Int) b) T) :
  LoopWP (S := Nat × List (List Int)) (fun s Y => J11 r.Enum i pl X b K (fun a b => Y (a, b)) s.1 s.2) (1, T) := by
 have hel := hF.el
 have hpl := hF.1.si.pl
 have hll := hF.1.si.ll
 refine LoopWP.to r.words.length (fun s => s.1) (fun s => 1 ≤ s.1 ∧ s.1 ≤ r.words.length ∧ RowT gens r i s.1 s.2) ⟨Nat.le_refl _, by show 1 ≤ r.words.length; omega, hT⟩ (fun s h => h.2.1) ?_
 rintro ⟨j, T⟩ Y ⟨h1, hj, hT⟩ hY
 try dsimp only at h1 hj hT ⊢
 unfold J11
 have hTl := hT.1.1
 have hrl := hT.2.1
 split
 ·rename_i hlt
  have hj' : j < r.words.length := ω
  obtain ⟨a1, a2, a3, a4, a5, a6, a7⟩ := hT.look hg hF hi hj' ω
  exact ⟨ω, ω, ω, ω, ω, ω, a1, ω, a3, a4, ω, ω, a5, a6, ω, ω, hY (j + 1, _) ⟨by dsimp only; omega, hj', hT.step hi hj' a7⟩ rfl⟩
 ·have : j = r.words.length := ω
  subst this
  exact h T hT.all
theorem J7y (hF : Fin gens true r) (hn : r.words.length ≤ 400) (hP : PtI P r) {w : List Str} {pl : List Bool} {T : List (List Int)} (h1 : 1 ≤ P.length) (h : ∀ L : List (List Bool), L.length = P.length → (∀ a : Nat, a < P.length → LsI P r L a) → J0h (ix L (0 : Int)) (fun r => K ⟨(gens.length : Int), T, w, im, r, pl⟩ L 0)) :
  LoopWP (S := Nat × List (List Bool)) (fun s Y => J0Y P gens r.Enum im w pl T K (fun a b => Y (a, b)) s.1 s.2) (0, List.replicate P.length ([] : List Bool)) := by
 have hel := hF.el
 refine LoopWP.to P.length (fun s => s.1) (fun s => s.1 ≤ P.length ∧ s.2.length = P.length ∧ ∀ a : Nat, a < s.1 → LsI P r s.2 a) ⟨Nat.zero_le _, by simp, fun a ha => by simp at ha⟩ (fun s h => h.1) ?_
 rintro ⟨b, L⟩ Y ⟨hb, hL, hI⟩ hY
 try dsimp only at hb hL hI ⊢
 unfold J0Y
 split
 ·rename_i hlt
  have hb' : b < P.length := ω
  refine ⟨ω, hlt, ω, ω, ω, ω, ?_⟩
  refine LoopWP.to r.words.length (fun s => s.1) (fun s => s.1 ≤ r.words.length ∧ s.2.length = P.length ∧ (∀ a : Nat, a < b → LsI P r s.2 a) ∧ (ix s.2 (b : Int)).length = r.words.length ∧ ∀ i : Nat, i < s.1 → ix (ix s.2 (b : Int)) i = ix (ix P (b : Int)).final (ix (ix r.Enum.Elems i) (ix P (b : Int)).start - (ix P (b : Int)).shift)) ⟨Nat.zero_le _, by simp only [J06]; exact hL, fun a ha => ?_, ?_, fun i hi => by simp at hi⟩ (fun s h => h.1) ?_
  ·have := hI a ha
   unfold LsI at this ⊢
   dsimp only
   rw [ix_st _ ω ω ω, if_neg ω]
   exact this
  ·dsimp only
   rw [ix_st _ ω ω ω, if_pos rfl]; simp [hel]
  rintro ⟨i, L⟩ Z ⟨hi, hL, hI, hbl, hJ⟩ hZ
  try dsimp only at hi hL hI hbl hJ ⊢
  unfold J2a
  split
  ·rename_i hlt2
   have hi' : i < r.words.length := ω
   obtain ⟨p1, p2, p3, p4, p5⟩ := hP b i hb' hi'
   refine ⟨ω, ω, ω, ω, ?_⟩
   unfold J0i
   refine ⟨p1, p2, p3, p4, p5, ω, ω, hZ (i + 1, _) ⟨by dsimp only; omega, by simp only [J06]; exact hL, fun a ha => ?_, ?_, fun y hy => ?_⟩ rfl⟩
   ·have := hI a ha
    unfold LsI at this ⊢
    dsimp only
    rw [ix_st _ ω ω ω, if_neg ω]
    exact this
   ·dsimp only
    rw [ix_st _ ω ω ω, if_pos rfl]; simp [hbl]
   ·dsimp only at hy ⊢
    rw [ix_st _ ω ω ω, if_pos rfl, ix_st _ ω ω ω]
    by_cases e : y = i
    ·subst e; rw [if_pos rfl]
    ·rw [if_neg ω]; exact hJ y ω
  ·have : i = r.words.length := ω
   subst this
   exact hY (b + 1, L) ⟨by dsimp only; omega, hL, fun a ha => by
    by_cases e : a = b
    ·subst e; exact ⟨hbl, hJ⟩
    ·exact hI a (by dsimp only at ha; omega)⟩ rfl
 ·rename_i hlt
  have : b = P.length := ω
  subst this
  have hh := h L hL hI
  exact ⟨ω, ω, hh⟩
theorem J7d (hg : GV gens = true) (hF : Fin gens true r) (hn : r.words.length ≤ 400) (hP : PtI P r) {w : List Str} {pl : List Bool} (h1 : 1 ≤ P.length) (h32 : P.length ≤ 1000) (hpl : PlI gens r 0 pl)
  (h : ∀ (T : List (List Int)) (pl : List Bool) (L : List (List Bool)), TabI gens r r.words.length T → PlI gens r r.words.length pl → L.length = P.length → (∀ a : Nat, a < P.length → LsI P r L a) → J0h (ix L (0 : Int)) (fun r => K ⟨(gens.length : Int), T, w, im, r, pl⟩ L 0)) :
  LoopWP (S := Nat × List Bool × List (List Int)) (fun s Y => J1i P gens r.Enum im w K (fun a b c => Y (a, b, c)) s.1 s.2.1 s.2.2) (0, pl, List.replicate r.Enum.Elems.length ([] : List Int)) := by
 have hel := hF.el
 have hrt := hF.1.rt.1
 have hz := hF.w0 hg
 refine LoopWP.to r.words.length (fun s => s.1) (fun s => s.1 ≤ r.words.length ∧ PlI gens r s.1 s.2.1 ∧ TabI gens r s.1 s.2.2) ⟨Nat.zero_le _, hpl, by simp [hel], fun a ha => by simp at ha⟩ (fun s h => h.1) ?_
 rintro ⟨i, pl, T⟩ Y ⟨hi, hpl, hT⟩ hY
 try dsimp only at hi hpl hT ⊢
 have hpll := hpl.len
 have hTl := hT.1
 unfold J1i
 split
 ·rename_i hlt
  have hi' : i < r.words.length := ω
  have hs := RowT.start hg hF hT hi'
  have e0 : ((ix (st T (i : Int) (List.replicate r.Enum.Elems.length (0 : Int))) (i : Int)).length : Int) = r.words.length := by
   rw [ix_st _ ω ω ω, if_pos rfl]; simp [hel]
  refine ⟨ω, hlt, ω, ω, ?_⟩
  split
  ·rename_i hp0
   refine ⟨ω, ω, ω, ω, ω, ω, ω, by rw [J06]; omega, ω, ω, J7A hg hF hi' hs fun T hT => hY (i + 1, _, T) ⟨by dsimp only; omega, hpl.step hF hi' (by rw [hp0]; rfl), hT⟩ rfl⟩
  ·rename_i hp0
   refine slices_Contains_ok' ?_
   refine ⟨ω, ω, ω, ω, ω, ω, ω, by rw [J06]; omega, ω, ω, J7c hg hF hi' hs fun T hT => hY (i + 1, _, T) ⟨by dsimp only; omega, hpl.step hF hi' (by rw [Bool.eq_false_iff.2 hp0]; rfl), hT⟩ rfl⟩
 ·have : i = r.words.length := ω
  subst this
  exact ⟨ω, ω, J7y hF hn hP h1 fun L hL hI => h T pl L hT hpl hL hI⟩
theorem J7F (hg : GV gens = true) (hF : Fin gens true r) (hn : r.words.length ≤ 400) (hP : PtI P r) (h1 : 1 ≤ P.length) (h32 : P.length ≤ 1000)
  (h : ∀ (w : List Str) (T : List (List Int)) (pl : List Bool) (L : List (List Bool)), w = r.words → TabI gens r r.words.length T → PlI gens r r.words.length pl → L.length = P.length → (∀ a : Nat, a < P.length → LsI P r L a) → J0h (ix L (0 : Int)) (fun r => K ⟨(gens.length : Int), T, w, im, r, pl⟩ L 0)) :
  LoopWP (S := Nat × List Bool × List Str) (fun s Y => J0H P gens r.Enum im K (fun a b c => Y (a, b, c)) s.1 s.2.1 s.2.2) (1, List.replicate r.Enum.Elems.length false, List.replicate r.Enum.Elems.length ([] : Str)) := by
 have hel := hF.el
 have hplx := hF.1.si.pl
 have hll := hF.1.si.ll
 have hz := hF.w0 hg
 have hk6 := (J0e.1 hg).2.1
 refine LoopWP.to r.words.length (fun s => s.1) (fun s => 1 ≤ s.1 ∧ s.1 ≤ r.words.length ∧ s.2.1.length = r.words.length ∧ (∀ j : Nat, 0 < j → j < s.1 → ix s.2.1 j = true) ∧ ix s.2.1 0 = false ∧ WdI r s.1 s.2.2) ⟨Nat.le_refl _, hz.2, by simp [hel], fun j h0 hj => by dsimp only at hj; omega, ?_, by simp [hel], fun j hj => ?_⟩ (fun s h => h.2.1) ?_
 ·dsimp only
  rw [show (0 : Int) = ((0 : Nat) : Int) from rfl, J0f _ _ ω]
 ·dsimp only at hj ⊢
  have : j = 0 := ω
  subst this
  rw [J0f _ _ ω]
  exact hz.1.symm
 rintro ⟨i, pl, w⟩ Y ⟨h0, hi, hpl, hp1, hp0, hw⟩ hY
 try dsimp only at h0 hi hpl hp1 hp0 hw ⊢
 have hwl := hw.1
 unfold J0H
 split
 ·rename_i hlt
  have hi' : i < r.words.length := ω
  obtain ⟨p, x, hp, e1, hx, e2, e3⟩ := hF.from_ hg hi' ω
  have hwp := hF.1.si.wl p ω
  rw [e1, e3, J4W ω, hw.2 p ω]
  exact ⟨ω, ω, ω, ω, ω, ω, ⟨ω, ω⟩, by simp; omega, ω, ω, ω, ω, hY (i + 1, _, _) ⟨by dsimp only; omega, hi', by simp [hpl], fun j h0 hj => by
   dsimp only at hj ⊢
   rw [ix_st _ ω ω ω]
   by_cases e : j = i
   ·subst e; rw [if_pos rfl]
   ·rw [if_neg ω]; exact hp1 j h0 ω, by
   dsimp only
   rw [ix_st _ ω ω ω, if_neg ω]; exact hp0, hw.step hi' e2.symm⟩ rfl⟩
 ·have : i = r.words.length := ω
  subst this
  have ew : w = r.words := J0b hw.1 fun j hj => hw.2 j ω
  exact fun _ => J7d hg hF hn hP h1 h32 ⟨hpl, hp1, by rw [hp0]; simp⟩ fun T pl L h1 h2 h3 h4 => h w T pl L ew h1 h2 h3 h4
end
end
end Sg
namespace Sg
open Go
section
variable {gens : List (List Int)}
theorem RI.ex0 (hg : GV gens = true) : ∃ r, RI gens true 0 r := by
  have key : ∀ x, x ≤ gens.length → ∃ E Pf Ls R W Bh sg m, BI gens true x E Pf Ls R W Bh sg m := by
    intro x
    induction x with
    | zero => intro _; exact ⟨_, _, _, _, _, _, _, _, BI.start1 hg⟩
    | succ x ih =>
      intro hx
      obtain ⟨E, Pf, Ls, R, W, Bh, sg, m, h⟩ := ih ω
      by_cases hf : ix gens (x : Int) ∈ E
      · exact ⟨_, _, _, _, _, _, _, _, (h.known hg ω hf).2.2⟩
      · exact ⟨_, _, _, _, _, _, _, _, h.new hg ω hf (e := 0) rfl⟩
  obtain ⟨E, Pf, Ls, R, W, Bh, sg, m, h⟩ := key gens.length (Nat.le_refl _)
  exact ⟨_, h.fin hg⟩
theorem RI.exS (hg : GV gens = true) {d : Nat} {r : run} (h : RI gens true d r) (hd : d < r.words.length) : ∃ r', RI gens true (d + 1) r' := by
  classical
  have key : ∀ x, x ≤ gens.length → ∃ row E Pf Ls R W Bh m, PI gens true r.single r.Enum.Right d x row E Pf Ls R W Bh m := by
    intro x
    induction x with
    | zero => intro _; exact ⟨_, _, _, _, _, _, _, _, h.pi hg hd⟩
    | succ x ih =>
      intro hx
      obtain ⟨row, E, Pf, Ls, R, W, Bh, m, hI⟩ := ih ω
      by_cases hf : vl gens (ix W d ++ [lt x]) ∈ E
      · by_cases hu : ix W d = []
        · exact ⟨_, _, _, _, _, _, _, _, hI.skip hg ω hf fun hn => absurd hu hn⟩
        · by_cases hm : MN gens true (ix W d ++ [lt x])
          · exact ⟨_, _, _, _, _, _, _, _, hI.rule hg ω hf hu hm⟩
          · exact ⟨_, _, _, _, _, _, _, _, hI.skip hg ω hf fun _ => hm⟩
      · have hu : ix W d ≠ [] := fun k => hf (hI.J5O hg ω k)
        obtain ⟨hb, hq⟩ := J5r hI.si hI.dl (show x < gens.length by omega) hI.sg hI.rt hu
        rcases hq with ⟨_, q0, q1, q2⟩ | ⟨_, _, _, _, q0, q1, q2⟩
        · exact ⟨_, _, _, _, _, _, _, _, hI.new hg ω hu hf q0 q1 q2⟩
        · exact ⟨_, _, _, _, _, _, _, _, hI.new hg ω hu hf q0 q1 q2⟩
  obtain ⟨row, E, Pf, Ls, R, W, Bh, m, hI⟩ := key gens.length (Nat.le_refl _)
  exact ⟨_, hI.fin hg h⟩
theorem J9k (hg : GV gens = true) {n : Nat} (hn : n ≤ 2000) (hf : ∀ W : List Str, (∀ w ∈ W, LW gens.length w) → (∀ i j : Nat, i < j → j < W.length → vl gens (ix W i) ≠ vl gens (ix W j)) → W.length ≤ n) : ∃ r, Fin gens true r := by
  have few : ∀ {d : Nat} {r : run}, RI gens true d r → r.words.length ≤ n := fun {d r} h => by
    refine hf r.words (fun w hw => ((h.si.rl.mem w).1 hw).1.1.1) fun i j hij hj e => ?_
    have ri := h.si.red (i := (i : Int)) ω ω
    have rj := h.si.red (i := (j : Int)) ω ω
    have := J3L h.si.rl.asc ω hj (ri.uniq rj e)
    omega
  have key : ∀ d, (∃ r, Fin gens true r) ∨ ∃ r, RI gens true d r := by
    intro d
    induction d with
    | zero => exact .inr (RI.ex0 hg)
    | succ d ih =>
      rcases ih with ih | ⟨r, h⟩
      · exact .inl ih
      · by_cases e : d < r.words.length
        · exact .inr (h.exS hg e)
        · have := h.dl
          have e : d = r.words.length := ω
          subst e
          have := few h
          exact .inl ⟨r, h, ω⟩
  rcases key (n + 1) with h | ⟨r, h⟩
  · exact h
  · have := h.dl
    have := few h
    omega
theorem Lim.noFin (hg : GV gens = true) {d : Nat} (h : Lim gens true d) (r : run) : ¬ Fin gens true r := fun hr => by
 obtain ⟨_, ⟨s, hs, hd⟩, hl⟩ := h
 have := hr.1.J2v hg hs
 have := hl r.words.length r ω hr.1
 have := hr.2
 omega
theorem J9M {α : Type} {k : Nat} {ρ : Str → α} {s : Syntactic} (h : Mon k ρ s) (W : List Str) (hw : ∀ w ∈ W, LW k w) (hd : ∀ i j : Nat, i < j → j < W.length → ρ (ix W i) ≠ ρ (ix W j)) : W.length ≤ s.Words.length := by
 apply Classical.byContradiction
 intro hc
 have rep : ∀ i : Nat, ∃ j : Nat, i < W.length → j < s.Words.length ∧ ρ (ix s.Words j) = ρ (ix W i) := fun i => by
  by_cases hi : i < W.length
  ·obtain ⟨j, h1, h2⟩ := h.cl.place (hw _ (J0g.2 ⟨i, hi, rfl⟩))
   exact ⟨j, fun _ => ⟨h1, h2⟩⟩
  ·exact ⟨0, fun h => absurd h hi⟩
 obtain ⟨f, hf⟩ := Classical.axiomOfChoice rep
 obtain ⟨a, b, h1, h2, e⟩ := pigeon s.Words.length (fun m => (f m : Int)) fun m hm => by have := (hf m ω).1; omega
 have ea := (hf a ω).2
 have eb := (hf b ω).2
 have : f a = f b := by have e : (f a : Int) = (f b : Int) := e; omega
 rw [this] at ea
 exact hd a b h1 ω (ea.symm.trans eb)
end
structure UniP (k : Nat) (Ms : List DFA) (M : DFA) (cnt : Nat → Nat) (G : List (List Int)) : Prop where
 gl : G.length = k
 cl : ∀ y : Nat, y < k → (ix G (y : Int)).length = PN Ms + cnt y
 old : ∀ i q y : Nat, i < Ms.length → q < (ix Ms (i : Int)).Final.length → y < k → ix (ix G (y : Int)) ((PN (Ms.take i) + q : Nat) : Int) = (PN (Ms.take i) : Int) + ix (ix (ix Ms (i : Int)).Next (q : Int)) (y : Int)
 new : ∀ q y : Nat, y < k → q < cnt y → ix (ix G (y : Int)) ((PN Ms + q : Nat) : Int) = (PN Ms : Int) + ix (ix M.Next (q : Int)) (y : Int)
section
variable {k x q : Nat} {Ms : List DFA} {M : DFA} {cnt cnt' : Nat → Nat} {G : List (List Int)} {v : Int}
theorem UniP.start (h : Uni k Ms G) : UniP k Ms M (fun _ => 0) G := ⟨h.gl, fun y hy => h.cl y hy, fun i q y hi hq hy => h.at_ i q y hi hq hy, fun q y _ h => absurd h (Nat.not_lt_zero _)⟩
theorem UniP.congr (h : UniP k Ms M cnt G) (e : ∀ y, y < k → cnt y = cnt' y) : UniP k Ms M cnt' G :=
 ⟨h.gl, fun y hy => by rw [← e y hy]; exact h.cl y hy, h.old, fun q y hy hq => h.new q y hy (by rw [e y hy]; exact hq)⟩
theorem UniP.step (h : UniP k Ms M cnt G) (hx : x < k) (hc : cnt x = q) (hv : v = (PN Ms : Int) + ix (ix M.Next (q : Int)) (x : Int)) : UniP k Ms M (fun y => if y = x then q + 1 else cnt y) (st G (x : Int) (ix G (x : Int) ++ [v])) := by
 have hg := h.gl
 have hcx := h.cl x hx
 have e1 : ∀ y : Nat, y < k → ix (st G (x : Int) (ix G (x : Int) ++ [v])) (y : Int) = if y = x then ix G (x : Int) ++ [v] else ix G (y : Int) := fun y hy => by
  rw [ix_st _ ω ω ω]
  by_cases e : y = x
  ·subst e; rw [if_pos rfl, if_pos rfl]
  ·rw [if_neg ω, if_neg e]
 refine ⟨by simp [hg], fun y hy => ?_, fun i q y hi hq hy => ?_, fun p y hy hp => ?_⟩
 ·rw [e1 y hy]
  by_cases e : y = x
  ·rw [if_pos e, if_pos e]; simp; omega
  ·rw [if_neg e, if_neg e]; exact h.cl y hy
 ·rw [e1 y hy]
  by_cases e : y = x
  ·subst e
   rw [if_pos rfl, ixA (by have := PN_le hi; omega)]
   exact h.old i q y hi hq hy
  ·rw [if_neg e]; exact h.old i q y hi hq hy
 ·rw [e1 y hy]
  by_cases e : y = x
  ·subst e
   rw [if_pos rfl] at hp ⊢
   by_cases hpq : p = q
   ·subst hpq
    rw [ixL' ω]; exact hv
   ·rw [ixA ω]
    exact h.new p y hy ω
  ·rw [if_neg e] at hp ⊢
   exact h.new p y hy hp
theorem J5s {α : Type} [Inhabited α] {l : List α} {a : α} {i : Nat} (hi : i < (l ++ [a]).length) : (i < l.length ∧ ix (l ++ [a]) (i : Int) = ix l (i : Int)) ∨ (i = l.length ∧ ix (l ++ [a]) (i : Int) = a) := by
 simp only [List.length_append, List.length_singleton] at hi
 by_cases h : i < l.length
 ·exact .inl ⟨h, ixA h⟩
 ·exact .inr ⟨ω, ixL' ω⟩
theorem UniP.all (h : UniP k Ms M (fun _ => M.Final.length) G) : Uni k (Ms ++ [M]) G := by
 refine ⟨h.gl, fun y hy => by rw [h.cl y hy, J4a], fun i q y hi hq hy => ?_⟩
 rcases J5s hi with ⟨h1, e⟩ | ⟨h1, e⟩
 ·rw [e] at hq ⊢
  rw [List.take_append_of_le_length ω]
  exact h.old i q y h1 hq hy
 ·rw [e] at hq ⊢
  subst h1
  rw [List.take_append_of_le_length (Nat.le_refl _), List.take_length]
  exact h.new q y hy hq
theorem Uni.nil (k : Nat) : Uni k [] (List.replicate k ([] : List Int)) := ⟨by simp, fun y hy => by rw [J0f _ _ hy]; rfl, fun i q y hi _ _ => by simp at hi⟩
def cntL (n x q : Nat) (y : Nat) : Nat := if y < x then n else if y = x then q else 0
def cntS (q x : Nat) (y : Nat) : Nat := if y < x then q + 1 else q
theorem UniP.stepL {n : Nat} (h : UniP k Ms M (cntL n x q) G) (hx : x < k) (hv : v = (PN Ms : Int) + ix (ix M.Next (q : Int)) (x : Int)) : UniP k Ms M (cntL n x (q + 1)) (st G (x : Int) (ix G (x : Int) ++ [v])) :=
 (h.step hx (by simp [cntL]) hv).congr fun y _ => by
  unfold cntL
  by_cases e : y = x
  ·subst e; simp
  ·rw [if_neg e]
   by_cases e2 : y < x
   ·rw [if_pos e2, if_pos e2]
   ·rw [if_neg e2, if_neg e2, if_neg e, if_neg e]
theorem UniP.nextL {n : Nat} (h : UniP k Ms M (cntL n x n) G) : UniP k Ms M (cntL n (x + 1) 0) G :=
 h.congr fun y _ => by
  unfold cntL
  by_cases e : y = x
  ·subst e; simp
  ·by_cases e2 : y < x
   ·rw [if_pos e2, if_pos ω]
   ·rw [if_neg e2, if_neg e, if_neg ω]; split <;> rfl
theorem UniP.stepS (h : UniP k Ms M (cntS q x) G) (hx : x < k) (hv : v = (PN Ms : Int) + ix (ix M.Next (q : Int)) (x : Int)) : UniP k Ms M (cntS q (x + 1)) (st G (x : Int) (ix G (x : Int) ++ [v])) :=
 (h.step hx (by simp [cntS]) hv).congr fun y _ => by
  unfold cntS
  by_cases e : y = x
  ·subst e; simp
  ·rw [if_neg e]
   by_cases e2 : y < x
   ·rw [if_pos e2, if_pos ω]
   ·rw [if_neg e2, if_neg ω]
theorem UniP.nextS (h : UniP k Ms M (cntS q k) G) : UniP k Ms M (cntS (q + 1) 0) G :=
 h.congr fun y hy => by
  unfold cntS
  rw [if_pos hy, if_neg ω]
end
structure SynJ (k : Nat) (ds : List DFA) (s : Syntactic) (L : List (List Bool)) : Prop where
 mon : Mon k (syJ ds k) s
 ll : L.length = ds.length
 la : ∀ i : Nat, i < ds.length → (ix L (i : Int)).length = s.Words.length ∧ ∀ j : Nat, j < s.Words.length → ix (ix L (i : Int)) j = acc (ix ds (i : Int)) (ix s.Words j)
 ac : s.Accept = ix L 0
 n : s.Words.length ≤ 400
 few : ∃ Ms, Mins k ds Ms ∧ PN Ms ≤ 32
section
variable {k : Nat} {ds Ms : List DFA} {gens : List (List Int)} {r : run} {s s' : Syntactic} {L L' : List (List Bool)}
theorem SynJ.acc_ (h : SynJ k ds s L) (h1 : 1 ≤ ds.length) : Acc (acc (ix ds 0)) s := by
 have := h.la 0 ω
 rw [show ((0 : Nat) : Int) = 0 from rfl, ← h.ac] at this
 exact ⟨this.1, this.2⟩
theorem SynJ.uniq (h : SynJ k ds s L) (h' : SynJ k ds s' L') (h1 : 1 ≤ ds.length) : s = s' ∧ L = L' := by
 have e := h.mon.uniq h'.mon (h.acc_ h1) (h'.acc_ h1)
 subst e
 refine ⟨rfl, J0b (h.ll.trans h'.ll.symm) fun i hi => ?_⟩
 have hi : i < ds.length := by rw [← h.ll]; exact hi
 have a := h.la i hi
 have b := h'.la i hi
 refine J0b (a.1.trans b.1.symm) fun j hj => ?_
 have hj : j < s.Words.length := by rw [← a.1]; exact hj
 rw [a.2 j hj, b.2 j hj]
theorem Mins.uniq {Ms' : List DFA} (h : Mins k ds Ms) (h' : Mins k ds Ms') : Ms = Ms' :=
 J0b (h.len.trans h'.len.symm) fun i hi => (h.min i (by rw [← h.len]; exact hi)).uniq (h'.min i (by rw [← h.len]; exact hi))
theorem SynJ.fin (h : SynJ k ds s L) (hg : GV gens = true) (hgl : gens.length = k) (he : Eqv k (vl gens) (syJ ds k)) : ∃ r, Fin gens true r ∧ r.words.length ≤ 400 := by
 have hk6 := (J0e.1 hg).2.1
 have hm := h.mon.congr ω he.symm
 obtain ⟨r, hr⟩ := J9k hg (n := 400) ω fun W hW hd => Nat.le_trans (J9M (k := k) hm W (fun w hw => by rw [← hgl]; exact hW w hw) hd) h.n
 refine ⟨r, hr, ?_⟩
 have c := hr.CL_ hg
 rw [hgl] at c
 have := c.uniq hm.cl
 rw [this]; exact h.n
structure PartsOk (Ms : List DFA) (P : List part) : Prop where
 len : P.length = Ms.length
 at_ : ∀ a : Nat, a < Ms.length → (ix P (a : Int)).start = (PN (Ms.take a) : Int) ∧ (ix P (a : Int)).final = (ix Ms (a : Int)).Final ∧ (ix P (a : Int)).shift = (PN (Ms.take a) : Int)
theorem PartsOk.nil : PartsOk [] [] := ⟨rfl, fun a h => by simp at h⟩
theorem PartsOk.push {P : List part} (h : PartsOk Ms P) {M : DFA} (hs : M.Start = 0) : PartsOk (Ms ++ [M]) (P ++ [⟨(PN Ms : Int) + M.Start, M.Final, (PN Ms : Int)⟩]) := by
 have hl := h.len
 refine ⟨by simp [hl], fun a ha => ?_⟩
 rcases J5s ha with ⟨h1, e⟩ | ⟨h1, e⟩
 ·rw [e, ixA ω, List.take_append_of_le_length ω]
  exact h.at_ a h1
 ·rw [e]
  subst h1
  rw [ixL' ω, List.take_append_of_le_length (Nat.le_refl _), List.take_length]
  exact ⟨by rw [hs]; simp, rfl, rfl⟩
section
variable {P : List part}
theorem J7M (hu : Uni k Ms gens) (hm : Mins k ds Ms) (hg : GV gens = true) (h1 : 1 ≤ k) (h6 : k ≤ 6) (h32 : PN Ms ≤ 32) (hP : PartsOk Ms P) (hF : Fin gens true r) {a i : Nat} (ha : a < Ms.length) (hi : i < r.words.length) :
  (ix P (a : Int)).start < (ix r.Enum.Elems i).length ∧ 0 ≤ (ix P (a : Int)).start ∧ 0 ≤ ix (ix r.Enum.Elems i) (ix P (a : Int)).start - (ix P (a : Int)).shift ∧ ix (ix r.Enum.Elems i) (ix P (a : Int)).start - (ix P (a : Int)).shift < (ix P (a : Int)).final.length ∧ (ix P (a : Int)).final.length ≤ 32 ∧
   ix (ix P (a : Int)).final (ix (ix r.Enum.Elems i) (ix P (a : Int)).start - (ix P (a : Int)).shift) = acc (ix ds (a : Int)) (ix r.words i) := by
 have hgl := hu.gl
 have c := hF.CL_ hg
 rw [hgl] at c
 have hw := c.lw hi
 obtain ⟨e1, e2, e3⟩ := hP.at_ a ha
 have hle := PN_le ha
 have M := hm.min a (by rw [← hm.len]; exact ha)
 have hpos := M.pos
 have hv := hu.vl_at hm hg h1 h6 h32 ha (q := 0) ω hw
 have hok := vl_ok hg (w := ix r.words i) (by rw [hgl]; exact hw)
 have hl0 := hu.len h1
 have Dm := M.da h1 h6 ω
 have hin := rn_lw Dm M.le.symm hw (q := 0) ω ω
 rw [hF.1.si.eix (i := (i : Int)) ω ω, e1, e2, e3]
 simp only [Nat.add_zero] at hv
 rw [show ((0 : Nat) : Int) = 0 from rfl] at hv
 rw [hv]
 have e4 : (PN (Ms.take a) : Int) + rn (ix Ms (a : Int)) 0 (ix r.words i) - (PN (Ms.take a) : Int) = rn (ix Ms (a : Int)) 0 (ix r.words i) := ω
 rw [e4, ← M.acc_ ω hw, acc, M.st]
 exact ⟨ω, ω, hin.1, hin.2, ω, rfl⟩
theorem J8A (hu : Uni k Ms gens) (hm : Mins k ds Ms) (hg : GV gens = true) (h1 : 1 ≤ k) (h6 : k ≤ 6) (h32 : PN Ms ≤ 32) (hP : PartsOk Ms P) (hF : Fin gens true r) : PtI P r := fun a i ha hi => by
 have := J7M hu hm hg h1 h6 h32 hP hF (a := a) (i := i) (by rw [← hP.len]; exact ha) hi
 exact ⟨this.2.1, this.1, ⟨ω, ω⟩, this.2.2.1, this.2.2.2.1⟩
theorem J8j (hu : Uni k Ms gens) (hm : Mins k ds Ms) (hg : GV gens = true) (h1 : 1 ≤ k) (h6 : k ≤ 6) (hd : 1 ≤ ds.length) (h32 : PN Ms ≤ 32) (hP : PartsOk Ms P) (hF : Fin gens true r) (hn : r.words.length ≤ 400)
  {T : List (List Int)} {pl : List Bool} (hT : TabI gens r r.words.length T) (hpl : PlI gens r r.words.length pl) (hL : L.length = P.length) (hLs : ∀ a : Nat, a < P.length → LsI P r L a) {im : List Int} (him : im = ix r.Enum.Right 0) :
  SynJ k ds ⟨(gens.length : Int), T, r.words, im, ix L 0, pl⟩ L := by
 have hgl := hu.gl
 have hz := hF.w0 hg
 have hPl := hP.len
 have hml := hm.len
 obtain ⟨r1, r2⟩ := hF.1.rt.2 0 hz.2
 rw [show ((0 : Nat) : Int) = 0 from rfl, ← him] at r1 r2
 have hmon : Mon k (vl gens) ⟨(gens.length : Int), T, r.words, im, ix L 0, pl⟩ :=
  J9t hg hgl hF (by rw [hgl]) hT.1 (fun i hi => (hT.2 i hi).1) (fun i j hi hj => (hT.2 i hi).2 j hj) ω
   (fun x hx => by
    obtain ⟨a1, a2, a3⟩ := r2 x ω
    obtain ⟨v, ev⟩ := Int.eq_ofNat_of_zero_le a1
    rw [hz.1] at a3
    exact ⟨v, ev, ω, by rw [← ev]; exact a3⟩) hpl.len hpl.pos (by rw [hpl.all hg hF, hgl])
 refine ⟨hmon.congr ω (hu.eqv hm hg h1 h6 h32), ω, fun i hi => ?_, rfl, hn, Ms, hm, h32⟩
 have := hLs i ω
 refine ⟨this.1, fun j hj => ?_⟩
 rw [this.2 j hj]
 exact (J7M hu hm hg h1 h6 h32 hP hF ω hj).2.2.2.2.2
end
end
theorem J6b {k : Nat} {d M : DFA} {W : List Str} (D : Da d) (hk : (k : Int) = d.Letters) (c : Can k (nero d k) (acc d) M W) : W.length ≤ d.Final.length := by
 apply Classical.byContradiction
 intro hc
 obtain ⟨a, b, q1, q2, e⟩ := pigeon d.Final.length (fun m => rho d (ix W (m : Int))) fun m hm => J67 D hk (c.cl.lw ω)
 have : nero d k (ix W (a : Int)) = nero d k (ix W (b : Int)) := by
  rw [J4u]
  intro w hw
  have e : rn d d.Start (ix W (a : Int)) = rn d d.Start (ix W (b : Int)) := e
  rw [J0D, J0D, e]
 have := c.cl.inj (show a < W.length by omega) (show b < W.length by omega) this
 omega
theorem few4 {gens : List (List Int)} (hg : GV gens = true) (h4 : (ix gens 0).length ≤ 4) : ∃ r, Fin gens true r ∧ r.words.length ≤ 256 := by
 have key : ∀ W : List Str, (∀ w ∈ W, LW gens.length w) → (∀ i j : Nat, i < j → j < W.length → vl gens (ix W i) ≠ vl gens (ix W j)) → W.length ≤ 256 := fun W hW hd => by
  apply Classical.byContradiction
  intro hc
  have ok : ∀ i : Nat, i < W.length → VF (vl gens (ix W i)) = true ∧ (vl gens (ix W i)).length = (ix gens 0).length := fun i hi => vl_ok hg (hW _ (J0g.2 ⟨i, hi, rfl⟩))
  obtain ⟨a, b, hab, hb, he⟩ := pigeon 256 (fun m => code4 (vl gens (ix W (m : Int)))) (fun m hm => by
   obtain ⟨h1, h2⟩ := ok m ω
   have e0 := entry4 h1 ω 0
   have e1 := entry4 h1 ω 1
   have e2 := entry4 h1 ω 2
   have e3 := entry4 h1 ω 3
   simp only [code4]; omega)
  obtain ⟨a1, a2⟩ := ok a ω
  obtain ⟨b1, b2⟩ := ok b ω
  have p0 := entry4 a1 ω 0
  have p1 := entry4 a1 ω 1
  have p2 := entry4 a1 ω 2
  have p3 := entry4 a1 ω 3
  have q0 := entry4 b1 ω 0
  have q1 := entry4 b1 ω 1
  have q2 := entry4 b1 ω 2
  have q3 := entry4 b1 ω 3
  simp only [code4] at he
  refine hd a b hab ω (J0b ω fun j hj => ?_)
  have hj4 : j < 4 := ω
  rcases (by omega : j = 0 ∨ j = 1 ∨ j = 2 ∨ j = 3) with rfl | rfl | rfl | rfl <;> omega
 obtain ⟨r, hr⟩ := J9k hg (n := 256) ω key
 refine ⟨r, hr, key r.words (fun w hw => ((hr.CL_ hg).mem w).1 hw |>.1.1) fun i j hij hj e => ?_⟩
 have := (hr.CL_ hg).inj ω hj e
 omega
theorem SynJ.one {k : Nat} {d : DFA} {s : Syntactic} {L : List (List Bool)} (hk : d.Letters = k) (hk9 : k < 159) (h : SynJ k [d] s L) : SynD d s := by
 obtain ⟨Ms, hm, h32⟩ := h.few
 have hml : Ms.length = 1 := hm.len
 have hle := PN_le (Ms := Ms) (i := 0) ω
 have M := hm.min 0 (by simp)
 obtain ⟨W, c⟩ := M
 exact ⟨⟨k, hk, ⟨h.mon.congr hk9 (J8y d k), h.acc_ (by simp)⟩, _, W, c, by have := c.fl; omega⟩, h.n⟩
theorem SynD.joint {k : Nat} {d : DFA} {s : Syntactic} (hk : d.Letters = k) (hk9 : k < 159) (h : SynD d s) : SynJ k [d] s [s.Accept] := by
 obtain ⟨k', e, hs, M, W, c, hW⟩ := h.k
 have : k' = k := ω
 subst this
 refine ⟨hs.mon.congr hk9 (J8y d k').symm, rfl, fun i hi => ?_, rfl, h.n, [M], ⟨rfl, fun i hi => ?_⟩, ?_⟩
 ·have : i = 0 := by simpa using hi
  subst this
  exact ⟨hs.acc.al, hs.acc.ac⟩
 ·have : i = 0 := by simpa using hi
  subst this
  exact ⟨W, c⟩
 ·have := c.fl
  simp [PN]; omega
abbrev zeroS : Syntactic := ⟨0, [], [], [], [], []⟩
section
variable {d : DFA} {k : Nat}
theorem J8Z {M : DFA} (h : MinOf k d M) : Mins k [d] [M] := ⟨rfl, fun i hi => by
 have : i = 0 := by simpa using hi
 subst this
 exact h⟩
theorem J5H {K : Syntactic → Int → Prop} (h1 : ¬ Da d → K zeroS (daC d)) (h3 : Da d → 4 < d.Final.length → (∀ s, ¬ SynD d s) → K zeroS 3) (h0 : Da d → ∀ s, SynD d s → K s 0) : J1I d K := by
 unfold J1I
 refine J0L ?_
 by_cases hv : DV d = true
 case neg =>
  rw [if_neg (fun hh => hv (daC0.1 hh))]
  exact h1 fun D => hv (J3J.2 D)
 rw [if_pos (daC0.2 hv)]
 have D := J3J.1 hv
 have l1 := D.l1
 have l6 := D.l6
 obtain ⟨k, hk⟩ := Int.eq_ofNat_of_zero_le (show 0 ≤ d.Letters by omega)
 refine J2f D hk.symm fun M W c => ?_
 have hM : MinOf k d M := ⟨W, c⟩
 have hms := J8Z hM
 have hMl := hM.le
 have hst := hM.st
 have hpn : PN [M] = M.Final.length := by simp [PN]
 have hfew := c.fl
 refine fun _ => ?_
 by_cases h32 : 32 < M.Final.length
 ·have hno : ∀ s, ¬ SynD d s := fun s hs => by
   obtain ⟨k', e, _, M', W', c', hW'⟩ := hs.k
   have : k' = k := ω
   subst this
   have := (c.uniq c').2
   subst this
   omega
  have hle := J6b D hk.symm c
  have := D.f2
  refine ⟨⟨ω, ω⟩, ?_⟩
  rw [if_pos ω]
  exact h3 D ω hno
 ·refine ⟨⟨ω, ω⟩, ?_⟩
  rw [if_neg ω]
  have DM := hM.da ω ω ω
  have hMn := DM.nx
  have hkn : M.Letters.toNat = k := ω
  refine ⟨ω, ω, ?_⟩
  rw [hkn]
  refine LoopWP.to k (fun s => s.1) (fun s => s.1 ≤ k ∧ UniP k [] M (cntL M.Final.length s.1 0) s.2) ⟨Nat.zero_le _, (UniP.start (Uni.nil k)).congr fun y _ => by simp [cntL]⟩ (fun s h => h.1) ?_
  rintro ⟨x, G⟩ X ⟨hx, hG⟩ hX
  try dsimp only at hx hG ⊢
  unfold J3G
  rw [List.length_replicate, hkn]
  have hgl := hG.gl
  split
  ·rename_i hlt
   have hxk : x < k := ω
   refine LoopWP.to M.Final.length (fun s => s.1) (fun s => s.1 ≤ M.Final.length ∧ UniP k [] M (cntL M.Final.length x s.1) s.2) ⟨Nat.zero_le _, hG⟩ (fun s h => h.1) ?_
   rintro ⟨q, G⟩ Y ⟨hq, hG⟩ hY
   try dsimp only at hq hG ⊢
   have hgl := hG.gl
   unfold J3A
   split
   ·rename_i hlt2
    have hat := DM.at_ (q := q) (x := x) ω ω ω ω
    have hcl := hG.cl x hxk
    have hc0 : cntL M.Final.length x q x = q := by simp [cntL]
    rw [hc0, J8l] at hcl
    exact ⟨ω, ω, ω, ω, ω, ω, ⟨ω, ω⟩, by simp; omega, ω, ω, hY (q + 1, _) ⟨by dsimp only; omega, hG.stepL hxk (by simp [J8l])⟩ rfl⟩
   ·have : q = M.Final.length := ω
    subst this
    exact ⟨⟨ω, ω⟩, hX (x + 1, _) ⟨by dsimp only; omega, hG.nextL⟩ rfl⟩
  ·rename_i hlt
   have : x = k := ω
   subst this
   have hu : Uni x [M] G := (hG.congr (cnt' := fun _ => M.Final.length) fun y hy => by simp [cntL, hy]).all
   have hg := hu.GV_ hms ω ω (by simp) ω
   have he := hu.eqv hms hg ω ω ω
   refine ⟨⟨ω, ω⟩, by simp, ⟨ω, ω⟩, ?_⟩
   refine J2K hg (fun d' hl => ?_) fun r hr h2000 => ?_
   ·rw [if_neg (by decide)]
    have hle := J6b D hk.symm c
    have hl0 := hu.len ω
    refine h3 D (by
     apply Classical.byContradiction
     intro hc
     obtain ⟨r, hr, _⟩ := few4 hg ω
     exact hl.noFin hg r hr) fun s hs => ?_
    obtain ⟨r, hr, _⟩ := (hs.joint hk ω).fin hg hu.gl he
    exact hl.noFin hg r hr
   ·rw [if_pos rfl]
    have hF : Fin G true r := ⟨hr, h2000⟩
    have hel := hF.el
    refine fun _ => ?_
    by_cases h400 : 400 < r.words.length
    ·rw [if_pos ω]
     have hle := J6b D hk.symm c
     have hl0 := hu.len ω
     refine h3 D (by
      apply Classical.byContradiction
      intro hc
      obtain ⟨r', hr', h4⟩ := few4 hg ω
      have := (hF.uniq hg hr').2
      rw [this] at h400
      omega) fun s hs => ?_
     obtain ⟨r', hr', h4⟩ := (hs.joint hk ω).fin hg hu.gl he
     have := (hF.uniq hg hr').2
     rw [this] at h400
     omega
    ·rw [if_neg ω]
     have hz := hF.w0 hg
     have hrt := hF.1.rt.1
     have hr0 := (hF.1.rt.2 0 hz.2).1
     rw [show ((0 : Nat) : Int) = 0 from rfl] at hr0
     refine fun _ => ⟨ω, ω, J1t ω ⟨ω, ω, ω, ω, ω, ω, ?_⟩⟩
     have hP : PartsOk [M] (([] : List part) ++ [(⟨(0 : Int) + M.Start, M.Final, (0 : Int)⟩ : part)]) := by
      have := PartsOk.nil.push (M := M) hst
      rw [J8l] at this
      exact this
     refine J7x hg hF ω (J8A hu hms hg ω ω ω hP hF) (by simp) (by simp) fun w T pl L hw hT hpl hL hLs => ?_
     subst hw
     exact h0 D _ ((J8j hu hms hg ω ω (by simp) ω hP hF ω hT hpl hL hLs rfl).one hk ω)
end
end Sg
namespace Sg
open Go
section
variable {α : Type} {k : Nat} {ρ : Str → α} {s : Syntactic}
theorem Mon.sh (h : Mon k ρ s) (hn : s.Words.length ≤ 400) : SH s.Table = true := by
 have hp := h.pos
 have ht := h.tl
 refine J9s.2 ⟨ω, ω, fun i hi => J6L.2 ⟨by rw [h.rl i ω, ht], fun j hj => ?_⟩⟩
 rw [h.rl i ω] at hj
 obtain ⟨m, e, hm, _⟩ := h.tb i j ω hj
 rw [e, ht]; omega
theorem Mon.imB (h : Mon k ρ s) : inB s.Table.length s.Images = true := J9B.2 fun x hx => by
 rw [h.il] at hx
 obtain ⟨m, e, hm, _⟩ := h.im x hx
 rw [e, h.tl]; omega
theorem Mon.clo (h : Mon k ρ s) (hk : k < 159) (hr : RC k ρ) (hl : LCm k ρ) {x : Int} : Clo s.Table s.Images x ↔ ∃ w, LW k w ∧ w ≠ [] ∧ vlS s w = x := by
  constructor
  · intro hc
    induction hc with
    | @gen x hg =>
      obtain ⟨j, hj, e⟩ := J0g.1 hg
      rw [h.il] at hj
      refine ⟨[lt j], LW.lt hj hk, by simp, ?_⟩
      have := J6N s [] (x := j) ω
      rw [List.nil_append, J8g, e] at this
      rw [this]
      obtain ⟨m, em, hm, _⟩ := h.im j hj
      rw [e] at em
      rw [em]
      exact (h.one_l hk hr hl hm).1
    | mul _ _ ih1 ih2 =>
      obtain ⟨u, u1, u2, u3⟩ := ih1
      obtain ⟨v, v1, v2, v3⟩ := ih2
      exact ⟨u ++ v, LW.app.2 ⟨u1, v1⟩, by simp [u2], by rw [h.J4L hk hr hl u1 v1, u3, v3]; rfl⟩
  · rintro ⟨w, hw, hne, rfl⟩
    revert hw hne
    induction w using snocRec with
    | nil => intro _ hne; exact absurd rfl hne
    | snoc p b ih =>
      intro hw _
      obtain ⟨hp, hb⟩ := LW.app.1 hw
      obtain ⟨x, hx, rfl⟩ := LW.letter hk hb
      have hgen : Clo s.Table s.Images (vlS s [lt x]) := by
        have := J6N s [] (x := x) ω
        rw [List.nil_append, J8g] at this
        obtain ⟨m, em, hm, _⟩ := h.im x hx
        rw [this, em, (h.one_l hk hr hl hm).1, ← em]
        exact .gen (J0U ω (by rw [h.il]; omega))
      by_cases hp0 : p = []
      · subst hp0; exact hgen
      · rw [h.J4L hk hr hl hp hb]
        exact .mul (ih hp hp0) hgen
end
section
variable {k : Nat} {ds Ms : List DFA} {gens : List (List Int)} {r : run} {fin : List Bool}
structure FinU (Ms : List DFA) (fin : List Bool) : Prop where
 len : fin.length = PN Ms
 at_ : ∀ i q : Nat, i < Ms.length → q < (ix Ms (i : Int)).Final.length → ix fin ((PN (Ms.take i) + q : Nat) : Int) = ix (ix Ms (i : Int)).Final (q : Int)
theorem FinU.nil : FinU [] [] := ⟨rfl, fun i q h => by simp at h⟩
theorem FinU.push (h : FinU Ms fin) (M : DFA) : FinU (Ms ++ [M]) (fin ++ M.Final) := by
 have hl := h.len
 refine ⟨by rw [J4a, List.length_append, hl], fun i q hi hq => ?_⟩
 rcases J5s hi with ⟨h1, e⟩ | ⟨h1, e⟩
 ·rw [e] at hq ⊢
  have := PN_le h1
  rw [List.take_append_of_le_length ω, ixA ω]
  exact h.at_ i q h1 hq
 ·rw [e] at hq ⊢
  subst h1
  rw [List.take_append_of_le_length (Nat.le_refl _), List.take_length]
  have e2 : ((PN Ms + q : Nat) : Int) = (fin.length : Int) + (q : Int) := ω
  rw [e2]
  simp only [ix, List.getD_eq_getElem?_getD]
  rw [show ((fin.length : Int) + (q : Int)).toNat = fin.length + q by omega, List.getElem?_append_right ω, show fin.length + q - fin.length = q by omega]
  simp
theorem FinU.val (h : FinU Ms fin) (hu : Uni k Ms gens) (hm : Mins k ds Ms) (hg : GV gens = true) (h1 : 1 ≤ k) (h6 : k ≤ 6) (h32 : PN Ms ≤ 32) {a : Nat} (ha : a < Ms.length) {w : Str} (hw : LW k w) :
  (PN (Ms.take a) : Int) < (vl gens w).length ∧ 0 ≤ ix (vl gens w) (PN (Ms.take a) : Int) ∧ ix (vl gens w) (PN (Ms.take a) : Int) < fin.length ∧ ix fin (ix (vl gens w) (PN (Ms.take a) : Int)) = acc (ix ds (a : Int)) w := by
 have hgl := hu.gl
 have hle := PN_le ha
 have M := hm.min a (by rw [← hm.len]; exact ha)
 have hpos := M.pos
 have hv := hu.vl_at hm hg h1 h6 h32 ha (q := 0) ω hw
 have hok := vl_ok hg (w := w) (by rw [hgl]; exact hw)
 have hl0 := hu.len h1
 have hfl := h.len
 have Dm := M.da h1 h6 ω
 have hin := rn_lw Dm M.le.symm hw (q := 0) ω ω
 simp only [Nat.add_zero] at hv
 rw [show ((0 : Nat) : Int) = 0 from rfl] at hv
 rw [hv]
 obtain ⟨q, eq⟩ := Int.eq_ofNat_of_zero_le hin.1
 rw [eq] at hin ⊢
 have := h.at_ a q ha ω
 refine ⟨ω, ω, ω, ?_⟩
 rw [show (PN (Ms.take a) : Int) + (q : Int) = ((PN (Ms.take a) + q : Nat) : Int) by omega, this, ← M.acc_ ω hw, acc, M.st, eq]
structure SynF (k : Nat) (ds : List DFA) (s : Syntactic) : Prop where
 mon : Mon k (syJ ds k) s
 acc : Acc (Sg.acc (ix ds 0)) s
 n : s.Words.length ≤ 400
theorem J5W {im : List Int} {l : List Int} {n : Nat} {p : Int → Prop} (hn : n ≤ 400) {ac : List Bool} {T : List (List Int)} {wd : List Str} {K : Syntactic → Int → Prop} (hl : AscOfM p l) (hp : ∀ x, p x → 0 ≤ x ∧ x < n)
  (h : ∀ P : List Bool, P.length = n → (∀ i : Nat, i < n → (ix P i = true ↔ p i)) → K ⟨(gens.length : Int), T, wd, im, ac, P⟩ 0) : LoopWP (S := Nat × List Bool) (fun s Y => J49 gens T ac wd im l K (fun a b => Y (a, b)) s.1 s.2) (0, List.replicate n false) := by
 refine LoopWP.to l.length (fun s => s.1) (fun s => s.1 ≤ l.length ∧ s.2.length = n ∧ ∀ i : Nat, i < n → (ix s.2 i = true ↔ ∃ j : Nat, j < s.1 ∧ ix l j = i)) ⟨Nat.zero_le _, by simp, fun i hi => ?_⟩ (fun s h => h.1) ?_
 ·dsimp only; rw [J0f _ _ hi]; simp
 rintro ⟨b, P⟩ Y ⟨hb, hP, hI⟩ hY
 try dsimp only at hb hP hI ⊢
 unfold J49
 split
 ·rename_i hlt
  have hx := hp _ ((hl.2 (ix l b)).1 (J0U ω hlt))
  refine ⟨ω, hlt, hx.1, ω, hY (b + 1, _) ⟨by dsimp only; omega, by simp [hP], fun i hi => ?_⟩ rfl⟩
  dsimp only
  rw [ix_st _ hx.1 ω ω]
  by_cases e : (i : Int) = ix l b
  ·rw [if_pos e]
   exact ⟨fun _ => ⟨b, ω, e.symm⟩, fun _ => rfl⟩
  ·rw [if_neg e, hI i hi]
   constructor
   ·rintro ⟨j, h1, h2⟩; exact ⟨j, ω, h2⟩
   ·rintro ⟨j, h1, h2⟩
    by_cases ej : j = b
    ·subst ej; exact absurd h2.symm e
    ·exact ⟨j, ω, h2⟩
 ·have : b = l.length := ω
  subst this
  exact h P hP fun i hi => by rw [hI i hi, ← hl.2, J0g]
theorem J7C (hu : Uni k Ms gens) (hm : Mins k ds Ms) (hg : GV gens = true) (h1 : 1 ≤ k) (h6 : k ≤ 6) (hd : 1 ≤ ds.length) (h32 : PN Ms ≤ 32) (hf : FinU Ms fin) {K : Syntactic → Int → Prop}
  (h3 : (∀ r, Fin gens true r → 400 < r.words.length) → K zeroS 3) (h0 : ∀ s, SynF k ds s → K s 0) : J4E gens 0 fin K := by
 have hgl := hu.gl
 have hml := hm.len
 have he := hu.eqv hm hg h1 h6 h32
 unfold J4E
 refine J62 (fun hn => absurd ⟨(J0e.1 hg).1, (J0e.1 hg).2.1⟩ hn) (fun _ hn => by rw [hg] at hn; cases hn) (fun _ _ hn => ?_) fun _ r hF => ?_
 ·rw [if_neg (by decide)]
  exact h3 fun r hr => absurd hr (hn r)
 rw [if_pos rfl]
 have hel := hF.el
 have hz := hF.w0 hg
 have c := hF.CL_ hg
 rw [hgl] at c
 refine fun _ => ?_
 by_cases h400 : 400 < r.words.length
 ·rw [if_pos ω]
  exact h3 fun r' hr' => by rw [← (hF.uniq hg hr').2]; exact h400
 rw [if_neg ω]
 refine fun _ => J60 hg hF ⟨ω, ω, ?_⟩
 refine LoopWP.to r.words.length (fun s => s.1) (fun s => s.1 ≤ r.words.length ∧ s.2.1.length = s.1 ∧ s.2.2.length = s.1 ∧ ∀ j : Nat, j < s.1 → ix s.2.1 j = acc (ix ds 0) (ix r.words j) ∧ ix s.2.2 j = ix r.words j) ⟨Nat.zero_le _, rfl, rfl, fun j hj => by simp at hj⟩ (fun s h => h.1) ?_
 rintro ⟨i, A, W⟩ Y ⟨hi, hA, hW, hI⟩ hY
 try dsimp only at hi hA hW hI ⊢
 unfold J5Q
 split
 ·rename_i hlt
  have hi' : i < r.words.length := ω
  have hwl := hF.1.si.wl i hi'
  obtain ⟨v1, v2, v3, v4⟩ := hf.val hu hm hg h1 h6 h32 (a := 0) ω (c.lw hi')
  rw [show (PN (Ms.take 0) : Int) = 0 by simp [PN]] at v1 v2 v3 v4
  have ee : ix r.Enum.Elems (i : Int) = vl gens (ix r.words i) := hF.1.si.eix ω ω
  refine ⟨ω, hlt, J1r hg hF.1.si rfl rfl ω ω ω ?_⟩
  rw [ee]
  refine ⟨by simp; omega, ω, v1, v2, v3, by simp; omega, hY (i + 1, _, _) ⟨by dsimp only; omega, by simp [hA], by simp [hW], fun j hj => ?_⟩ rfl⟩
  dsimp only at hj ⊢
  by_cases e : j = i
  ·subst e
   rw [ixL' ω, ixL' ω]
   exact ⟨v4, rfl⟩
  ·rw [ixA ω, ixA ω]
   exact hI j ω
 ·have hir : i = r.words.length := ω
  subst hir
  have eW : W = r.words := J0b hW fun j hj => (hI j ω).2
  subst eW
  refine LoopWP.to k (fun s => s.1) (fun s => s.1 ≤ k ∧ s.2.length = s.1 ∧ ∀ x : Nat, x < s.1 → ix s.2 x = fnd r.Enum.Elems (ix gens x)) ⟨Nat.zero_le _, rfl, fun j hj => by simp at hj⟩ (fun s h => h.1) ?_
  rintro ⟨x, im⟩ Z ⟨hx, him, hJ⟩ hZ
  try dsimp only at hx him hJ ⊢
  unfold J5L
  split
  ·rename_i hlt2
   refine ⟨ω, hlt2, J24 ⟨by simp; omega, hZ (x + 1, _) ⟨by dsimp only; omega, by simp [him], fun y hy => ?_⟩ rfl⟩⟩
   dsimp only at hy ⊢
   by_cases e : y = x
   ·subst e; rw [ixL' ω]
   ·rw [ixA ω]; exact hJ y ω
  ·have hxk : x = k := ω
   subst hxk
   have him2 : ∀ y : Nat, y < x → ∃ m : Nat, ix im y = m ∧ m < r.words.length ∧ vl gens (ix r.words m) = vl gens [lt y] := fun y hy => by
    have hmem : vl gens [lt y] ∈ r.Enum.Elems := by
     obtain ⟨j, hj, ej⟩ := c.place (LW.lt hy ω : LW x [lt y])
     exact (hF.1.si.mem).2 ⟨ix r.words j, J0g.2 ⟨j, hj, rfl⟩, ej⟩
    rw [J5w hg ω] at hmem ⊢
    obtain ⟨f1, f2, f3⟩ := J6F hmem
    obtain ⟨m, em⟩ := Int.eq_ofNat_of_zero_le f1
    refine ⟨m, by rw [hJ y hy, em], ω, ?_⟩
    rw [← f3, em, hF.1.si.eix ω ω]
   have mk : ∀ P : List Bool, P.length = r.words.length → (∀ i : Nat, 0 < i → i < r.words.length → ix P i = true) → (ix P 0 = true ↔ ∃ w, LW x w ∧ w ≠ [] ∧ vl gens w = vl gens []) → Mon x (vl gens) ⟨(gens.length : Int), tabT r.Enum.Elems, r.words, im, A, P⟩ := fun P p1 p2 p3 =>
    J9t hg hgl hF (by rw [hgl]) (by simp [tabT, hel]) (fun i hi => by rw [J7I ω]; exact hel)
     (fun i j hi hj => by
      obtain ⟨a1, a2, a3⟩ := J9P hg hF.1 hi hj
      obtain ⟨v, ev⟩ := Int.eq_ofNat_of_zero_le a1
      exact ⟨v, ev, ω, by rw [← ev]; exact a3⟩) him him2 p1 p2 p3
   classical
   let P0 : List Bool := (iota r.words.length).map fun i => if i = 0 then decide (∃ w, LW x w ∧ w ≠ [] ∧ vl gens w = vl gens []) else true
   have hP0 : ∀ i : Nat, i < r.words.length → ix P0 i = if (i : Int) = 0 then decide (∃ w, LW x w ∧ w ≠ [] ∧ vl gens w = vl gens []) else true := fun i hi => by
    show ix ((iota r.words.length).map _) (i : Int) = _
    rw [J4F _ ω (by simp; omega), J4d hi]
   have m0 := mk P0 (by simp [P0]) (fun i h0 hi => by rw [hP0 i hi, if_neg ω]) (by have := hP0 0 hz.2; rw [show ((0 : Nat) : Int) = 0 from rfl, if_pos rfl] at this; rw [this]; simp)
   have rc : RC x (vl gens) := fun u v b hu hv hb e => by rw [J2k, J2k, e]
   have lc : LCm x (vl gens) := fun u v w hu hv hw e => by
    rw [J5K hg (by rw [hgl]; exact hw) (by rw [hgl]; exact hu), J5K hg (by rw [hgl]; exact hw) (by rw [hgl]; exact hv), e]
   refine J4y (m0.sh (by show r.words.length ≤ 400; omega)) m0.imB fun l hl => ?_
   rw [hel]
   refine J5W ω hl (fun y hy => ?_) fun P hPl hP => ?_
   ·obtain ⟨w, w1, w2, w3⟩ := (m0.clo ω rc lc).1 hy
    obtain ⟨m, em, hm', _⟩ := m0.val ω rc lc w1
    rw [em] at w3
    have hm' : m < r.words.length := hm'
    omega
   ·have hPi : ∀ i : Nat, i < r.words.length → (ix P i = true ↔ ∃ w, LW x w ∧ w ≠ [] ∧ vl gens w = vl gens (ix r.words i)) := fun i hi => by
     rw [hP i hi, m0.clo ω rc lc]
     refine exists_congr fun w => and_congr_right fun w1 => and_congr_right fun _ => ?_
     obtain ⟨m, em, hm', rm⟩ := m0.val ω rc lc w1
     have hm' : m < r.words.length := hm'
     have rm : vl gens (ix r.words m) = vl gens w := rm
     rw [em]
     constructor
     ·intro e
      have : m = i := ω
      subst this
      exact rm.symm
     ·intro e
      rw [c.inj hm' hi (rm.trans e)]
    have hmon := mk P hPl (fun i h0 hi => (hPi i hi).2 (J7P c hi h0)) (by
     have := hPi 0 hz.2
     rw [show ((0 : Nat) : Int) = 0 from rfl, hz.1] at this
     exact this)
    exact h0 _ ⟨hmon.congr ω he, ⟨hA, fun i hi => (hI i hi).1⟩, by show r.words.length ≤ 400; omega⟩
end
section
variable {d : DFA}
end
end Sg
namespace Sg
open Go
theorem J4I {a b : List Str} {K : Bool → Prop} (h1 : a = b → K true) (h0 : a ≠ b → K false) : J27 a b K := by
 unfold J27
 intro _ _
 split
 ·rename_i hl
  refine LoopWP.scan a.length (fun j => ix a (j : Int) = ix b (j : Int)) ?_
  intro k X hk hI hX
  show J37 a b K X k
  unfold J37
  split
  ·refine ⟨ω, ω, ω, ω, ?_⟩
   split
   ·rename_i he; exact hX ω he
   ·rename_i hne; exact h0 fun e => hne (by rw [e])
  ·exact h1 (J0b ω fun j hj => hI j ω)
 ·rename_i hl; exact h0 fun e => hl (by rw [e])
theorem J19 {a b : List Bool} {K : Bool → Prop} (h1 : a = b → K true) (h0 : a ≠ b → K false) : J0s a b K := by
 unfold J0s
 intro _ _
 split
 ·rename_i hl
  refine LoopWP.scan a.length (fun j => ix a (j : Int) = ix b (j : Int)) ?_
  intro k X hk hI hX
  show J1n a b K X k
  unfold J1n
  split
  ·refine ⟨ω, ω, ?_⟩
   by_cases ea : ix a (k : Int) = true
   ·rw [if_pos ea]
    refine ⟨ω, ω, ?_⟩
    by_cases eb : ix b (k : Int) = true
    ·rw [if_pos eb]; exact hX ω (ea.trans eb.symm)
    ·rw [if_neg eb]; exact h0 fun e => eb (by rw [← e]; exact ea)
   ·rw [if_neg ea]
    refine ⟨ω, ω, ?_⟩
    by_cases eb : ix b (k : Int) = true
    ·rw [if_pos eb]; exact h0 fun e => ea (by rw [e]; exact eb)
    ·rw [if_neg eb]; exact hX ω (by rw [Bool.not_eq_true] at ea eb; exact ea.trans eb.symm)
  ·exact h1 (J0b ω fun j hj => hI j ω)
 ·rename_i hl; exact h0 fun e => hl (by rw [e])
theorem J6B {a b : Syntactic} {K : Bool → Prop} (h1 : a = b → K true) (h0 : a ≠ b → K false) : J2X a b K := by
 unfold J2X
 split
 ·rename_i e1
  refine J4X ?_
  split
  ·rename_i e2
   have e2 := of_decide_eq_true e2
   refine J4I (fun e3 => ?_) fun n => ?_
   ·rw [if_pos rfl]
    refine J22 ?_
    split
    ·rename_i e4
     have e4 := of_decide_eq_true e4
     refine J19 (fun e5 => ?_) fun n => ?_
     ·rw [if_pos rfl]
      refine J19 (fun e6 => h1 ?_) fun n => h0 fun e => n (by rw [e])
      obtain ⟨a1, a2, a3, a4, a5, a6⟩ := a
      obtain ⟨b1, b2, b3, b4, b5, b6⟩ := b
      simp only at e1 e2 e3 e4 e5 e6
      rw [e1, e2, e3, e4, e5, e6]
     ·rw [if_neg (by decide)]; exact h0 fun e => n (by rw [e])
    ·rename_i n; exact h0 fun e => n (by rw [e]; simp)
   ·rw [if_neg (by decide)]; exact h0 fun e => n (by rw [e])
  ·rename_i n; exact h0 fun e => n (by rw [e]; simp)
 ·rename_i n; exact h0 fun e => n (by rw [e])
theorem J3R {s : List Bool} (hs : s.length ≤ 1099511627776) {K : List Bool → Prop} (h : K s) : J0h s K := by
 unfold J0h
 intro z hz
 split
 ·rename_i h1; rw [hz h1] at h; exact h
 ·exact ⟨by simpa using hs, by simpa using h⟩
structure ShS (s : Syntactic) : Prop where
 l1 : 1 ≤ s.Letters
 l6 : s.Letters ≤ 6
 sh : SH s.Table = true
 wl : s.Words.length = s.Table.length
 al : s.Accept.length = s.Table.length
 pl : s.Plus.length = s.Table.length
 il : (s.Images.length : Int) = s.Letters
 ib : inB s.Table.length s.Images = true
end Sg
namespace Sg
open Go
def abD : DFA := ⟨2, 0, [true, false, false], [[1, 2], [2, 0], [2, 2]]⟩
def abW : List Str := [[], [97], [98], [97, 97], [97, 98], [98, 97]]
def abF (w : Str) : Int × Int × Int := (rn abD 0 w, rn abD 1 w, rn abD 2 w)
instance (u v : Str) : Decidable (SL u v) := by unfold SL; infer_instance
theorem J9w : Da abD := J3J.1 (by decide +kernel)
theorem J8z (u v : Str) : abF (u ++ v) = (rn abD (abF u).1 v, rn abD (abF u).2.1 v, rn abD (abF u).2.2 v) := by
 simp only [abF, J0D]
theorem ab_in {w : Str} (hw : LW 2 w) {q : Int} (h0 : 0 ≤ q) (h1 : q < 3) : 0 ≤ rn abD q w ∧ rn abD q w < 3 := rn_lw J9w (k := 2) rfl hw h0 h1
theorem J6o {q : Int} (h0 : 0 ≤ q) (h1 : q < 3) : q = 0 ∨ q = 1 ∨ q = 2 := ω
theorem J9y : Eqv 2 abF (syn (acc abD) 2) := fun u v hu hv => by
 rw [J45]
 constructor
 ·intro h x y hx hy
  have hx' := ab_in hx (q := 0) ω ω
  have e : rn abD (rn abD 0 x) u = rn abD (rn abD 0 x) v := by
   have h1 : rn abD 0 u = rn abD 0 v := congrArg (·.1) h
   have h2 : rn abD 1 u = rn abD 1 v := congrArg (·.2.1) h
   have h3 : rn abD 2 u = rn abD 2 v := congrArg (·.2.2) h
   rcases J6o hx'.1 hx'.2 with e | e | e <;> rw [e] <;> assumption
  show ix abD.Final (rn abD 0 (x ++ u ++ y)) = ix abD.Final (rn abD 0 (x ++ v ++ y))
  rw [J0D, J0D, J0D, J0D, e]
 ·intro h
  have tell : ∀ p q : Int, 0 ≤ p → p < 3 → 0 ≤ q → q < 3 → ix abD.Final p = ix abD.Final q → ix abD.Final (rn abD p [98]) = ix abD.Final (rn abD q [98]) → p = q := fun p q p0 p1 q0 q1 => by
   rcases J6o p0 p1 with rfl | rfl | rfl <;> rcases J6o q0 q1 with rfl | rfl | rfl <;> decide
  have lb : LW 2 [98] := LW.one.2 (by decide)
  have la : LW 2 [97] := LW.one.2 (by decide)
  have at_ : ∀ x : Str, LW 2 x → rn abD (rn abD 0 x) u = rn abD (rn abD 0 x) v := fun x hx => by
   have hx' := ab_in hx (q := 0) ω ω
   have hu' := ab_in hu hx'.1 hx'.2
   have hv' := ab_in hv hx'.1 hx'.2
   have k1 := h x [] hx (LW.nil _)
   have k2 := h x [98] hx lb
   change ix abD.Final (rn abD 0 (x ++ u ++ [])) = ix abD.Final (rn abD 0 (x ++ v ++ [])) at k1
   change ix abD.Final (rn abD 0 (x ++ u ++ [98])) = ix abD.Final (rn abD 0 (x ++ v ++ [98])) at k2
   rw [List.append_nil, List.append_nil, J0D, J0D] at k1
   rw [J0D, J0D, J0D, J0D] at k2
   exact tell _ _ hu'.1 hu'.2 hv'.1 hv'.2 k1 k2
  have e0 : rn abD 0 u = rn abD 0 v := at_ [] (LW.nil _)
  have e1 : rn abD 1 u = rn abD 1 v := at_ [97] la
  have e2 : rn abD 2 u = rn abD 2 v := at_ [98] lb
  show (rn abD 0 u, rn abD 1 u, rn abD 2 u) = (rn abD 0 v, rn abD 1 v, rn abD 2 v)
  rw [e0, e1, e2]
theorem J95 {v : Str} (h : LW 2 v) (hl : v.length ≤ 2) : v ∈ ([[], [97], [98], [97, 97], [97, 98], [98, 97], [98, 98]] : List Str) := by
  have let_ : ∀ b : UInt8, LW 2 [b] → b = 97 ∨ b = 98 := fun b hb => by
    obtain ⟨x, hx, rfl⟩ := LW.letter ω hb
    rcases (by omega : x = 0 ∨ x = 1) with rfl | rfl
    · exact .inl rfl
    · exact .inr rfl
  match v, h, hl with
  | [], _, _ => simp
  | [a], h, _ => rcases let_ a h with rfl | rfl <;> decide
  | [a, b], h, _ =>
    obtain ⟨h1, h2⟩ := LW.app.1 (show LW 2 ([a] ++ [b]) from h)
    rcases let_ a h1 with rfl | rfl <;> rcases let_ b h2 with rfl | rfl <;> decide
  | a :: b :: c :: v, _, hl => simp at hl
theorem J9j {w : Str} (hw : w ∈ abW) : Lst 2 abF w := by
 have hlw : ∀ w ∈ abW, w.length ≤ 2 ∧ ∀ b ∈ w, 97 ≤ b.toNat ∧ b.toNat < 97 + 2 := by decide +kernel
 have key : ∀ w ∈ abW, ∀ v ∈ ([[], [97], [98], [97, 97], [97, 98], [98, 97], [98, 98]] : List Str), abF v = abF w → ¬ SL v w := by decide +kernel
 refine ⟨(hlw w hw).2, fun v hv he hs => ?_⟩
 refine key w hw v (J95 hv ?_) he hs
 have := (hlw w hw).1
 rcases hs with h | ⟨h, _⟩ <;> omega
theorem Ja9 {w : Str} : LW 2 w → ∃ u ∈ abW, abF u = abF w := by
  induction w using snocRec with
  | nil => exact fun _ => ⟨[], by decide, rfl⟩
  | snoc w b ih =>
    intro h
    obtain ⟨h1, h2⟩ := LW.app.1 h
    obtain ⟨u, hu, e⟩ := ih h1
    obtain ⟨x, hx, rfl⟩ := LW.letter ω h2
    have key : ∀ u ∈ abW, ∀ x < 2, ∃ r ∈ abW, abF r = abF (u ++ [lt x]) := by decide +kernel
    obtain ⟨r, hr, er⟩ := key u hu x hx
    exact ⟨r, hr, by rw [er, J8z, J8z, e]⟩
theorem ab_CL : CL 2 (syn (acc abD) 2) abW (fun _ => True) := by
 refine CL.congrR J9y ⟨by decide +kernel, fun w => ⟨fun hw => ⟨J9j hw, trivial⟩, fun ⟨hw, _⟩ => ?_⟩⟩
 obtain ⟨u, hu, e⟩ := Ja9 hw.1
 have := (J9j hu).uniq hw e
 rw [← this]; exact hu
theorem law21_awake_ok {K : Bool → Prop} (h : K true) : law21_awake K := by
 unfold law21_awake law21_ab
 refine J5H (d := abD) (fun n => absurd J9w n) (fun _ h4 _ => absurd h4 (by decide)) fun D s hs => ?_
 obtain ⟨k, ek, o, _⟩ := hs.k
 obtain rfl : k = 2 := by
  have : (2 : Int) = k := ek
  omega
 have ew : s.Words = abW := o.mon.cl.uniq ab_CL
 have hl : s.Accept.length = 6 := by rw [o.acc.al, ew]; rfl
 have a4 : ix s.Accept (4 : Int) = true := by
  have := o.acc.ac 4 (by rw [ew]; decide)
  rw [ew] at this
  exact this.trans (by decide +kernel)
 have a1 : ix s.Accept (1 : Int) = false := by
  have := o.acc.ac 1 (by rw [ew]; decide)
  rw [ew] at this
  exact this.trans (by decide +kernel)
 rw [if_pos rfl]
 refine J4I (fun _ => ?_) fun n => absurd ew n
 rw [if_pos rfl]
 refine fun _ => ?_
 rw [if_pos ω]
 refine ⟨ω, ω, ?_⟩
 rw [if_pos a4]
 refine ⟨ω, ω, ?_⟩
 rw [if_neg (by rw [a1]; decide)]
 exact h
end Sg
namespace Sg
open Go
theorem SynD.le {d : DFA} {s : Syntactic} (h : SynD d s) : s.Letters = d.Letters := by
 obtain ⟨k, e, hs, _⟩ := h.k
 have e2 : s.Letters = k := hs.mon.le
 omega
theorem CL.len {α : Type} {k : Nat} {ρ : Str → α} {W : List Str} (h : CL k ρ W (fun _ => True)) (hr : RC k ρ) : ∀ n i : Nat, i < n → i < W.length → (ix W (i : Int)).length ≤ i
  | 0, i, hn, _ => absurd hn (Nat.not_lt_zero _)
  | n + 1, i, hn, hi => by
    have hw := ((h.mem _).1 (J0g.2 ⟨i, hi, rfl⟩)).1
    by_cases h0 : ix W (i : Int) = []
    · rw [h0]; simp
    · obtain ⟨p, b, e⟩ := snocEx h0
      rw [e] at hw
      obtain ⟨j, hj, ej⟩ := J0g.1 ((h.mem p).2 ⟨hw.pre hr, trivial⟩)
      have hs : SL (ix W (j : Int)) (ix W (i : Int)) := by rw [ej, e]; exact .inl (by simp)
      have hji := J35 h.asc hj hi hs
      have ih := CL.len h hr n j ω hj
      rw [e, List.length_append]
      rw [ej] at ih
      simp; omega
theorem SynD.len {d : DFA} {s : Syntactic} (h : SynD d s) {i : Int} (h0 : 0 ≤ i) (h1 : i < s.Words.length) : (ix s.Words i).length ≤ 400 := by
 obtain ⟨k, _, o, _⟩ := h.k
 obtain ⟨j, rfl⟩ := Int.eq_ofNat_of_zero_le h0
 have := o.mon.cl.len (J9r _ _) (j + 1) j ω ω
 have := h.n
 omega
end Sg
namespace Sg
open Go
end Sg
namespace Sg
open Go
end Sg
namespace Sg
open Go
section
variable {d : DFA} {s : Syntactic}
end
end Sg
namespace Sg
open Go
end Sg
namespace Sg
open Go
end Sg
namespace Sg
open Go
structure GN (t : List (List Int)) (els gens nx : List Int) (inn : List Bool) : Prop where
 il : inn.length = t.length
 nl : nx.length = t.length
 el : ∀ x ∈ els, 0 ≤ x ∧ x < t.length
 me : ∀ x : Nat, x < t.length → (ix inn (x : Int) = true ↔ (x : Int) ∈ els)
 nd : els.Nodup
 cl : ∀ x ∈ els, Clo t gens x
 gl : ∀ g ∈ gens, 0 ≤ g ∧ g < t.length
 nx : ∀ x : Nat, x < t.length → 0 ≤ ix nx (x : Int) ∧ ix nx (x : Int) ≤ gens.length
theorem GN.add {t : List (List Int)} {els gens nx : List Int} {inn : List Bool} (h : GN t els gens nx inn) {y : Int} (h0 : 0 ≤ y) (h1 : y < t.length) (hn : ¬ ix inn y = true) (hc : Clo t gens y) : GN t (els ++ [y]) gens nx (st inn y true) := by
 have il := h.il
 obtain ⟨m, rfl⟩ := Int.eq_ofNat_of_zero_le h0
 refine ⟨by simp [il], h.nl, fun x hx => ?_, fun x hx => ?_, ?_, fun x hx => ?_, h.gl, h.nx⟩
 ·rcases List.mem_append.1 hx with hx | hx
  ·exact h.el x hx
  ·rw [List.mem_singleton.1 hx]; exact ⟨h0, h1⟩
 ·rw [ix_st _ ω ω ω, List.mem_append, List.mem_singleton]
  by_cases e : (x : Int) = m
  ·rw [if_pos e]; exact ⟨fun _ => .inr e, fun _ => rfl⟩
  ·rw [if_neg e, h.me x hx]; exact ⟨.inl, fun k => k.resolve_right e⟩
 ·rw [List.nodup_append]
  refine ⟨h.nd, by simp, fun a ha b hb => ?_⟩
  rw [List.mem_singleton.1 hb]
  rintro rfl
  exact hn ((h.me m ω).2 ha)
 ·rcases List.mem_append.1 hx with hx | hx
  ·exact h.cl x hx
  ·rw [List.mem_singleton.1 hx]; exact hc
theorem GN.gen {t : List (List Int)} {els gens nx : List Int} {inn : List Bool} (h : GN t els gens nx inn) {g : Int} (g0 : 0 ≤ g) (g1 : g < t.length) : GN t els (gens ++ [g]) nx inn :=
 ⟨h.il, h.nl, h.el, h.me, h.nd, fun x hx => (h.cl x hx).mono fun y hy => List.mem_append.2 (.inl hy), fun x hx => by
  rcases List.mem_append.1 hx with hx | hx
  ·exact h.gl x hx
  ·rw [List.mem_singleton.1 hx]; exact ⟨g0, g1⟩, fun x hx => by have := h.nx x hx; simp; omega⟩
end Sg
namespace Sg
open Go
def cod (im c : List Int) (x : Nat) : Int := (ix c (x : Int)) * (c.length : Int) + (ix c (ix im (x : Int)))
structure SPI (n : Nat) (im c : List Int) (R : Int) (x : Nat) (cnt : Int) (label mark nx : List Int) : Prop where
 ll : label.length = n * n
 ml : mark.length = n * n
 nl : nx.length = n
 le : ∀ v : Nat, v < n * n → ix mark (v : Int) ≤ R
 ex : ∃ m : List (Int × Int), NumI (cod im c) x (nx.take x) m ∧ cnt = m.length ∧ ∀ v : Nat, v < n * n → (ix mark (v : Int) = R ↔ mhas m (v : Int) = true) ∧ (mhas m (v : Int) = true → ix label (v : Int) = mgt m (v : Int))
end Sg
namespace Sg
open Go
theorem SPI.start {n : Nat} {im c label mark nx : List Int} {R : Int} (ll : label.length = n * n) (ml : mark.length = n * n) (nl : nx.length = n) (le : ∀ v : Nat, v < n * n → ix mark (v : Int) < R) : SPI n im c R 0 0 label mark nx :=
 ⟨ll, ml, nl, fun v hv => by have := le v hv; omega, [], by simpa using NumI.start, rfl, fun v hv => ⟨⟨fun e => by have := le v hv; omega, fun h => by simp [mhas] at h⟩, fun h => by simp [mhas] at h⟩⟩
theorem Ja7 {n : Nat} {im c : List Int} (cl : c.length = n) (cr : ∀ j : Nat, j < n → 0 ≤ ix c (j : Int) ∧ ix c (j : Int) < n) (ir : ∀ j : Nat, j < n → 0 ≤ ix im (j : Int) ∧ ix im (j : Int) < n) {x y : Nat} (hx : x < n) (hy : y < n) (e : cod im c x = cod im c y) :
  ix c (x : Int) = ix c (y : Int) ∧ ix c (ix im (x : Int)) = ix c (ix im (y : Int)) := by
 have at_ : ∀ z : Nat, z < n → 0 ≤ ix c (ix im (z : Int)) ∧ ix c (ix im (z : Int)) < n := fun z hz => by
  have i := ir z hz
  obtain ⟨w, ew⟩ := Int.eq_ofNat_of_zero_le i.1
  rw [ew]
  exact cr w ω
 have a := at_ x hx
 have b := at_ y hy
 unfold cod at e
 rw [cl] at e
 have h1 : (ix c (ix im (x : Int)) + (n : Int) * ix c (x : Int)) / n = ix c (x : Int) := by
  rw [Int.add_mul_ediv_left _ _ ω, Int.ediv_eq_zero_of_lt a.1 a.2]; omega
 have h2 : (ix c (ix im (y : Int)) + (n : Int) * ix c (y : Int)) / n = ix c (y : Int) := by
  rw [Int.add_mul_ediv_left _ _ ω, Int.ediv_eq_zero_of_lt b.1 b.2]; omega
 have e2 : ix c (ix im (x : Int)) + (n : Int) * ix c (x : Int) = ix c (ix im (y : Int)) + (n : Int) * ix c (y : Int) := by
  rw [Int.mul_comm (n : Int), Int.mul_comm (n : Int)]; omega
 have e3 : ix c (x : Int) = ix c (y : Int) := by rw [← h1, ← h2, e2]
 refine ⟨e3, ?_⟩
 rw [e3] at e2
 omega
structure SPO (n : Nat) (im c : List Int) (R : Int) (cnt : Int) (label mark nx : List Int) : Prop where
 ll : label.length = n * n
 ml : mark.length = n * n
 nl : nx.length = n
 le : ∀ v : Nat, v < n * n → ix mark (v : Int) ≤ R
 nm : ∃ k : Nat, cnt = k ∧ Nmb nx k
 fin : ∀ x y : Nat, x < n → y < n → ix nx (x : Int) = ix nx (y : Int) → ix c (x : Int) = ix c (y : Int) ∧ ix c (ix im (x : Int)) = ix c (ix im (y : Int))
theorem SPI.out {n : Nat} {im c label mark nx : List Int} {cnt R : Int} (cl : c.length = n) (cr : ∀ j : Nat, j < n → 0 ≤ ix c (j : Int) ∧ ix c (j : Int) < n) (ir : ∀ j : Nat, j < n → 0 ≤ ix im (j : Int) ∧ ix im (j : Int) < n)
  (h : SPI n im c R n cnt label mark nx) : SPO n im c R cnt label mark nx := by
 obtain ⟨m, hm, hc, _⟩ := h.ex
 have nl := h.nl
 have e : nx.take n = nx := List.take_of_length_le ω
 rw [e] at hm
 exact ⟨h.ll, h.ml, nl, h.le, ⟨_, hc, hm.nmb⟩, fun x y hx hy he => Ja7 cl cr ir hx hy ((hm.eq hx hy).1 he)⟩
structure CCc (n : Nat) (c : List Int) (cnt : Int) : Prop where
 cl : c.length = n
 nm : ∃ k : Nat, cnt = k ∧ Nmb c k
theorem CCc.rg {n : Nat} {c : List Int} {cnt : Int} (h : CCc n c cnt) : ∀ j : Nat, j < n → 0 ≤ ix c (j : Int) ∧ ix c (j : Int) < n := fun j hj => by
 obtain ⟨k, _, hn⟩ := h.nm
 have hcl := h.cl
 obtain ⟨a, e, ha⟩ := hn.rg j ω
 have hk : k ≤ n := by
  apply Classical.byContradiction
  intro hc
  obtain ⟨g, hg⟩ : ∃ g : Nat → Nat, ∀ a, a < k → g a < n ∧ ix c (g a : Int) = a := by
   have : ∀ a : Nat, ∃ q : Nat, a < k → q < n ∧ ix c (q : Int) = a := fun a => by
    by_cases ha : a < k
    ·obtain ⟨q, h1, h2⟩ := hn.on a ha
     exact ⟨q, fun _ => ⟨ω, h2⟩⟩
    ·exact ⟨0, fun h => absurd h ha⟩
   exact Classical.axiomOfChoice this
  obtain ⟨a, b, hab, hb, e⟩ := pigeon n (fun a => (g a : Int)) fun a ha => ⟨ω, by have := (hg a ω).1; omega⟩
  have h1 := (hg a ω).2
  have h2 := (hg b ω).2
  rw [e] at h1
  omega
 omega
theorem CCc.le {n : Nat} {c : List Int} {cnt : Int} (h : CCc n c cnt) : cnt ≤ n := by
 obtain ⟨k, e, hn⟩ := h.nm
 by_cases h0 : k = 0
 ·omega
 ·obtain ⟨q, h1, h2⟩ := hn.on (k - 1) ω
  have := h.rg q (by rw [← h.cl]; exact h1)
  omega
def Stb (t : List (List Int)) (c0 c : List Int) (n : Nat) (g : Int) : Prop := ∀ x y : Nat, x < n → y < n → ix c (x : Int) = ix c (y : Int) → ix c0 (ix (ix t g) (x : Int)) = ix c0 (ix (ix t g) (y : Int)) ∧ ix c0 (ix (ix t (x : Int)) g) = ix c0 (ix (ix t (y : Int)) g)
structure GOc (t : List (List Int)) (n : Nat) (c : List Int) (g R : Int) (cnt : Int) (im label mark sp c' : List Int) : Prop where
 il : im.length = n
 ll : label.length = n * n
 ml : mark.length = n * n
 sl : sp.length = n
 le : ∀ v : Nat, v < n * n → ix mark (v : Int) ≤ R
 cc : CCc n c' cnt
 fin : ∀ x y : Nat, x < n → y < n → ix c' (x : Int) = ix c' (y : Int) → ix c (x : Int) = ix c (y : Int)
 stb : Stb t c c' n g
structure GSc (t : List (List Int)) (n : Nat) (gens c0 : List Int) (k : Nat) (R cnt : Int) (im label mark sp c : List Int) : Prop where
 il : im.length = n
 ll : label.length = n * n
 ml : mark.length = n * n
 sl : sp.length = n
 le : ∀ v : Nat, v < n * n → ix mark (v : Int) ≤ R
 cc : CCc n c cnt
 fin : ∀ x y : Nat, x < n → y < n → ix c (x : Int) = ix c (y : Int) → ix c0 (x : Int) = ix c0 (y : Int)
 stb : ∀ h : Nat, h < k → Stb t c0 c n (ix gens (h : Int))
structure Sta (t : List (List Int)) (n : Nat) (gens p c : List Int) (cnt : Int) : Prop where
 cc : CCc n c cnt
 fin : ∀ x y : Nat, x < n → y < n → ix c (x : Int) = ix c (y : Int) → ix p (x : Int) = ix p (y : Int)
 stb : ∀ h : Nat, h < gens.length → Stb t c c n (ix gens (h : Int))
end Sg
namespace Sg
open Go
theorem CanP.nmb {p : List Int} (hp : CanP p) {c : Int} (h1 : ∀ j : Nat, j < p.length → ix p (j : Int) + 1 ≤ c) (h2 : c = 0 ∨ ∃ j : Nat, j < p.length ∧ ix p (j : Int) + 1 = c) : ∃ k : Nat, c = k ∧ Nmb p k := by
 have h0 : 0 ≤ c := by
  rcases h2 with h2 | ⟨j, hj, e⟩
  ·omega
  ·have := (hp j hj).1; omega
 obtain ⟨k, rfl⟩ := Int.eq_ofNat_of_zero_le h0
 refine ⟨k, rfl, fun q hq => ?_, fun a ha => ?_, fun q a hq ha => ?_⟩
 ·obtain ⟨a, ea⟩ := Int.eq_ofNat_of_zero_le (hp q hq).1
  exact ⟨a, ea, by have := h1 q hq; omega⟩
 ·rcases h2 with h2 | ⟨j, hj, e⟩
  ·omega
  ·by_cases e2 : ix p (j : Int) = a
   ·exact ⟨j, hj, e2⟩
   ·obtain ⟨i, hi, ei⟩ := (hp j hj).2 a ω ω
    exact ⟨i, ω, ei⟩
 ·obtain ⟨i, hi, ei⟩ := (hp q hq).2 a ω ha
  exact ⟨i, hi, ei⟩
end Sg
namespace Sg
open Go
end Sg
namespace Sg
open Go
structure AllD (k : Nat) (ds : List DFA) : Prop where
 d : 1 ≤ ds.length
 k1 : 1 ≤ k
 k6 : k ≤ 6
 da : ∀ i : Nat, i < ds.length → Da (ix ds (i : Int)) ∧ (ix ds (i : Int)).Letters = k
section
variable {k : Nat} {ds Ms Ms' : List DFA} {i : Nat}
theorem Mins.nil : Mins k [] [] := ⟨rfl, fun i h => by simp at h⟩
theorem Mins.push {A : List DFA} {d M : DFA} (h : Mins k A Ms) (hM : MinOf k d M) : Mins k (A ++ [d]) (Ms ++ [M]) := by
 have hl := h.len
 refine ⟨by simp [hl], fun i hi => ?_⟩
 rcases J5s hi with ⟨h1, e⟩ | ⟨h1, e⟩
 ·rw [e, ixA ω]; exact h.min i h1
 ·rw [e, h1, ixL' hl.symm]; exact hM
theorem J9h {α : Type} [Inhabited α] {xs : List α} {i j : Nat} (h : j < i) : ix (xs.take i) (j : Int) = ix xs (j : Int) := by
 simp [ix, List.getD_eq_getElem?_getD, List.getElem?_take, h]
theorem Mins.take (h : Mins k ds Ms) (i : Nat) : Mins k (ds.take i) (Ms.take i) := by
 have hl := h.len
 refine ⟨by simp [hl], fun j hj => ?_⟩
 have hj : j < i ∧ j < ds.length := by rw [List.length_take] at hj; omega
 rw [J9h hj.1, J9h hj.1]
 exact h.min j hj.2
theorem J65 (Ms : List DFA) (i : Nat) : PN (Ms.take i) ≤ PN Ms := by
 have e : PN Ms = PN (Ms.take i) + PN (Ms.drop i) := by rw [← J9o, List.take_append_drop]
 omega
theorem noJ (h : Mins k (ds.take i) Ms) (h32 : 32 < PN Ms) (s : Syntactic) (L : List (List Bool)) : ¬ SynJ k ds s L := fun hs => by
 obtain ⟨Mt, hm, hle⟩ := hs.few
 have := (hm.take i).uniq h
 have := J65 Mt i
 rename_i e
 rw [e] at this
 omega
theorem AllD.at_ (h : AllD k ds) (hi : i < ds.length) : Da (ix ds (i : Int)) ∧ (k : Int) = (ix ds (i : Int)).Letters := ⟨(h.da i hi).1, (h.da i hi).2.symm⟩
theorem J9q (hv : ∀ j : Nat, j < ds.length → Da (ix ds (j : Int))) (hl : ∀ j : Nat, j < ds.length → (ix ds (j : Int)).Letters = (ix ds 0).Letters) (h1 : 1 ≤ ds.length) : ∃ k, AllD k ds := by
 have D := hv 0 ω
 rw [show ((0 : Nat) : Int) = 0 from rfl] at D
 have l1 := D.l1
 have l6 := D.l6
 obtain ⟨k, hk⟩ := Int.eq_ofNat_of_zero_le (show 0 ≤ (ix ds 0).Letters by omega)
 exact ⟨k, h1, ω, ω, fun j hj => ⟨hv j hj, by rw [hl j hj, hk]⟩⟩
structure JnOk (ds : List DFA) (K : Syntactic → List (List Bool) → Int → Prop) : Prop where
 h0 : ds.length = 0 → K zeroS [] 1
 hv : ∀ i : Nat, i < ds.length → (∀ j : Nat, j < i → Da (ix ds (j : Int))) → ¬ Da (ix ds (i : Int)) → K zeroS [] (daC (ix ds (i : Int)))
 hl : (∀ j : Nat, j < ds.length → Da (ix ds (j : Int))) → ∀ i : Nat, i < ds.length → (ix ds (i : Int)).Letters ≠ (ix ds 0).Letters → K zeroS [] 1
 h3 : ∀ k, AllD k ds → (∀ s L, ¬ SynJ k ds s L) → K zeroS [] 3
 hs : ∀ k, AllD k ds → ∀ s L, SynJ k ds s L → K s L 0
theorem J4P {d : DFA} : daC d = 0 ↔ Da d := daC0.trans J3J
structure JI (k : Nat) (ds : List DFA) (i : Nat) (cnt : Int) (P : List part) (G : List (List Int)) (z : Bool) (Ms : List DFA) : Prop where
 m : Mins k (ds.take i) Ms
 n : PN Ms ≤ 32
 c : cnt = PN Ms
 p : PartsOk Ms P
 u : if z = true then i = 0 else Uni k Ms G
theorem PN_ge (hm : Mins k (ds.take i) Ms) (hi : i ≤ ds.length) : i ≤ PN Ms := by
  induction i generalizing Ms with
  | zero => exact Nat.zero_le _
  | succ i ih =>
    have hml := hm.len
    rw [List.length_take] at hml
    have h1 := ih (Ms := Ms.take i) (by have := hm.take i; rwa [List.take_take, Nat.min_eq_left ω] at this) ω
    have h2 := J7u (Ms := Ms) (i := i) ω
    have h3 := hm.min i (by rw [List.length_take]; omega)
    have h4 := h3.pos
    have h5 := J65 Ms (i + 1)
    omega
theorem J3w {M : DFA} (DM : Da M) (hk : M.Letters = k) {G : List (List Int)} {x : Nat} (hx : x < k) (hn : PN Ms + M.Final.length ≤ 32) (hG : UniP k Ms M (cntL M.Final.length x 0) G) {X4 : Nat → List (List Int) → Prop} {K : Syntactic → List (List Bool) → Int → Prop}
  (h : ∀ G, UniP k Ms M (cntL M.Final.length (x + 1) 0) G → X4 (x + 1) G) : LoopWP (S := Nat × List (List Int)) (fun s X => J1f (PN Ms : Int) M x X4 K (fun a b => X (a, b)) s.1 s.2) (0, G) := by
 have hMn := DM.nx
 have l6 := DM.l6
 refine LoopWP.to M.Final.length (fun s => s.1) (fun s => s.1 ≤ M.Final.length ∧ UniP k Ms M (cntL M.Final.length x s.1) s.2) ⟨Nat.zero_le _, hG⟩ (fun s h => h.1) ?_
 rintro ⟨q, G⟩ Y ⟨hq, hG⟩ hY
 try dsimp only at hq hG ⊢
 have hgl := hG.gl
 unfold J1f
 split
 ·rename_i hlt2
  have hat := DM.at_ (q := q) (x := x) ω ω ω ω
  have hcl := hG.cl x hx
  have hc0 : cntL M.Final.length x q x = q := by simp [cntL]
  rw [hc0] at hcl
  have hat2 := DM.row q ω
  exact ⟨ω, ω, ω, ω, ω, ω, ⟨ω, ω⟩, by simp; omega, ω, ω, hY (q + 1, _) ⟨by dsimp only; omega, hG.stepL hx rfl⟩ rfl⟩
 ·have : q = M.Final.length := ω
  subst this
  exact ⟨⟨ω, ω⟩, h _ hG.nextL⟩
theorem J3B {M : DFA} (DM : Da M) (hk : M.Letters = k) {G : List (List Int)} {x : Nat} (hx : x < k) (hn : PN Ms + M.Final.length ≤ 32) (hG : UniP k Ms M (cntL M.Final.length x 0) G) {X4 : Nat → List (List Int) → Prop} {K : Syntactic → List (List Bool) → Int → Prop}
  (h : ∀ G, UniP k Ms M (cntL M.Final.length (x + 1) 0) G → X4 (x + 1) G) : LoopWP (S := Nat × List (List Int)) (fun s X => J1d (PN Ms : Int) M x X4 K (fun a b => X (a, b)) s.1 s.2) (0, G) := by
 have hMn := DM.nx
 have l6 := DM.l6
 refine LoopWP.to M.Final.length (fun s => s.1) (fun s => s.1 ≤ M.Final.length ∧ UniP k Ms M (cntL M.Final.length x s.1) s.2) ⟨Nat.zero_le _, hG⟩ (fun s h => h.1) ?_
 rintro ⟨q, G⟩ Y ⟨hq, hG⟩ hY
 try dsimp only at hq hG ⊢
 have hgl := hG.gl
 unfold J1d
 split
 ·rename_i hlt2
  have hat := DM.at_ (q := q) (x := x) ω ω ω ω
  have hcl := hG.cl x hx
  have hc0 : cntL M.Final.length x q x = q := by simp [cntL]
  rw [hc0] at hcl
  have hat2 := DM.row q ω
  exact ⟨ω, ω, ω, ω, ω, ω, ⟨ω, ω⟩, by simp; omega, ω, ω, hY (q + 1, _) ⟨by dsimp only; omega, hG.stepL hx rfl⟩ rfl⟩
 ·have : q = M.Final.length := ω
  subst this
  exact ⟨⟨ω, ω⟩, h _ hG.nextL⟩
theorem J8o {K : Syntactic → List (List Bool) → Int → Prop} {G : List (List Int)} {P : List part} (hK : JnOk ds K) (hA : AllD k ds) (hm : Mins k ds Ms) (h32 : PN Ms ≤ 32) (hu : Uni k Ms G) (hP : PartsOk Ms P) :
  J0r G true fun r494 r495 => (if r495 = (0 : Int) then (r494.Elems.length ≤ mx → (if (400 : Int) < (r494.Elems.length : Int) then (K zeroS (([] : List (List Bool))) ((3 : Int))) else (G.length ≤ mx → (0 ≤ (0 : Int) ∧ (0 : Int) < (r494.Right.length : Int) ∧ (J07 (ix r494.Right (0 : Int)) fun r541 => (0 ≤ (r494.Elems.length : Int) ∧ (r494.Elems.length : Int) ≤ 1099511627776 ∧ (0 ≤ (r494.Elems.length : Int) ∧ (r494.Elems.length : Int) ≤ 1099511627776 ∧ (0 ≤ (r494.Elems.length : Int) ∧ (r494.Elems.length : Int) ≤ 1099511627776 ∧ (LoopWP (S := Nat × List Bool × List Str) (fun s X => J0H P G r494 r541 K (fun a b c => X (a, b, c)) s.1 s.2.1 s.2.2) (1, List.replicate r494.Elems.length false, List.replicate r494.Elems.length (([] : Str)))))))))))) else (K zeroS (([] : List (List Bool))) r495)) := by
 have k1 := hA.k1
 have k6 := hA.k6
 have hd := hA.d
 have hml := hm.len
 have hpl := hP.len
 have hg := hu.GV_ hm k1 k6 hd h32
 have he := hu.eqv hm hg k1 k6 h32
 have hgl := hu.gl
 refine J2K hg (fun d' hl => ?_) fun r hr h2000 => ?_
 ·rw [if_neg (by decide)]
  refine hK.h3 k hA fun s L hs => ?_
  obtain ⟨r, hr, _⟩ := hs.fin hg hu.gl he
  exact hl.noFin hg r hr
 ·rw [if_pos rfl]
  have hF : Fin G true r := ⟨hr, h2000⟩
  have hel := hF.el
  refine fun _ => ?_
  by_cases h400 : 400 < r.words.length
  ·rw [if_pos ω]
   refine hK.h3 k hA fun s L hs => ?_
   obtain ⟨r', hr', h4⟩ := hs.fin hg hu.gl he
   have := (hF.uniq hg hr').2
   rw [this] at h400
   omega
  ·rw [if_neg ω]
   have hz := hF.w0 hg
   have hrt := hF.1.rt.1
   have hr0 := (hF.1.rt.2 0 hz.2).1
   rw [show ((0 : Nat) : Int) = 0 from rfl] at hr0
   refine fun _ => ⟨ω, ω, J46 ω ⟨ω, ω, ω, ω, ω, ω, ?_⟩⟩
   have hge := PN_ge (ds := ds) (i := ds.length) (by rw [List.take_length]; exact hm) (Nat.le_refl _)
   refine J7F hg hF ω (J8A hu hm hg k1 k6 h32 hP hF) ω ω fun w T pl L hw hT hpl' hL hLs => ?_
   subst hw
   have hS := J8j hu hm hg k1 k6 hd h32 hP hF ω hT hpl' hL hLs rfl
   have hL0 := (hLs 0 ω).1
   rw [show ((0 : Nat) : Int) = 0 from rfl] at hL0
   exact J3R ω (hK.hs k hA _ _ hS)
theorem J4o {K : Syntactic → List (List Bool) → Int → Prop} (hK : JnOk ds K) : J0K ds K := by
 unfold J0K
 intro hmx
 by_cases h0 : ds.length = 0
 ·rw [if_pos ω]; exact hK.h0 h0
 rw [if_neg ω]
 refine LoopWP.to ds.length (fun s => s) (fun s => s ≤ ds.length ∧ ∀ j : Nat, j < s → Da (ix ds (j : Int))) ⟨Nat.zero_le _, fun j h => absurd h (Nat.not_lt_zero _)⟩ (fun s h => h.1) ?_
 rintro i X ⟨hi, hd⟩ hX
 unfold J2H
 split
 ·rename_i hlt
  refine ⟨ω, hlt, ?_⟩
  show J0p (ix ds (i : Int)) _
  refine J0L ?_
  by_cases hD : Da (ix ds (i : Int))
  ·rw [if_pos (J4P.2 hD)]
   refine hX (i + 1) ⟨ω, fun j hj => ?_⟩ rfl
   by_cases e : j = i
   ·subst e; exact hD
   ·exact hd j ω
  ·rw [if_neg (fun h => hD (J4P.1 h))]
   exact hK.hv i ω hd hD
 have : i = ds.length := ω
 subst this
 clear hX
 refine LoopWP.to ds.length (fun s => s) (fun s => s ≤ ds.length ∧ ∀ j : Nat, j < s → (ix ds (j : Int)).Letters = (ix ds 0).Letters) ⟨Nat.zero_le _, fun j h => absurd h (Nat.not_lt_zero _)⟩ (fun s h => h.1) ?_
 rintro i X ⟨hi, hl⟩ hX
 unfold J2I
 split
 ·rename_i hlt
  refine ⟨ω, hlt, ω, ω, ?_⟩
  split
  ·rename_i e
   refine hX (i + 1) ⟨ω, fun j hj => ?_⟩ rfl
   by_cases ej : j = i
   ·subst ej; exact e
   ·exact hl j ω
  ·rename_i e
   exact hK.hl hd i ω e
 have : i = ds.length := ω
 subst this
 clear hX
 obtain ⟨k, hA⟩ := J9q hd hl ω
 have k1 := hA.k1
 have k6 := hA.k6
 refine LoopWP.to ds.length (fun s => s.1) (fun s => s.1 ≤ ds.length ∧ ∃ Ms, JI k ds s.1 s.2.1 s.2.2.1 s.2.2.2.1 s.2.2.2.2 Ms) ⟨Nat.zero_le _, [], ⟨by simpa using Mins.nil, by simp [PN], by simp [PN], PartsOk.nil, by simp⟩⟩ (fun s h => h.1) ?_
 rintro ⟨i, cnt, P, G, z⟩ X ⟨hi, Ms, hI⟩ hX
 try dsimp only at hi hI ⊢
 obtain ⟨hm, hn, hc, hP, hu⟩ := hI
 subst hc
 unfold J2M
 split
 ·rename_i hlt
  have hi' : i < ds.length := ω
  obtain ⟨D, hk⟩ := hA.at_ hi'
  refine ⟨ω, hlt, ?_⟩
  show J0o (ix ds (i : Int)) _
  refine J2f D hk fun M W c => ?_
  have hM : MinOf k (ix ds (i : Int)) M := ⟨W, c⟩
  have hMl := hM.le
  have hst := hM.st
  have hle := J6b D hk c
  have hfl := c.fl
  have hf2 := D.f2
  have DM := hM.da k1 k6 ω
  have hmi : Mins k (ds.take (i + 1)) (Ms ++ [M]) := by rw [J2A hi']; exact hm.push hM
  refine fun _ => ⟨⟨ω, ω⟩, ?_⟩
  split
  ·rename_i h32
   exact hK.h3 k hA (noJ hmi (by rw [J4a]; omega))
  rename_i h32
  have hpl := hP.len
  have hml := hm.len
  have hge := PN_ge hm ω
  rw [List.length_take] at hml
  have hkn : M.Letters.toNat = k := ω
  have fin : ∀ G', UniP k Ms M (cntL M.Final.length k 0) G' → X (i + 1, (PN Ms : Int) + (M.Final.length : Int), P ++ [(⟨(PN Ms : Int) + M.Start, M.Final, (PN Ms : Int)⟩ : part)], G', false) := fun G' hG' =>
   hX (i + 1, _, _, _, _) ⟨by dsimp only; omega, Ms ++ [M], hmi, by rw [J4a]; omega, by rw [J4a]; simp, hP.push hst, by
    dsimp only
    rw [if_neg (by decide)]
    exact (hG'.congr (cnt' := fun _ => M.Final.length) fun y hy => by simp [cntL, hy]).all⟩ rfl
  split
  ·rename_i hz
   subst hz
   rw [if_pos rfl] at hu
   subst hu
   have hMs : Ms = [] := List.eq_nil_of_length_eq_zero (by rw [hml]; simp)
   refine ⟨ω, ω, ?_⟩
   rw [hkn]
   have hs0 : UniP k Ms M (cntL M.Final.length 0 0) (List.replicate k ([] : List Int)) := by
    subst hMs
    exact (UniP.start (Uni.nil k)).congr fun y _ => by simp [cntL]
   refine LoopWP.to k (fun s => s.1) (fun s => s.1 ≤ k ∧ UniP k Ms M (cntL M.Final.length s.1 0) s.2) ⟨Nat.zero_le _, hs0⟩ (fun s h => h.1) ?_
   rintro ⟨x, G'⟩ Z ⟨hx, hG⟩ hZ
   try dsimp only at hx hG ⊢
   unfold J2N
   rw [List.length_replicate, hkn]
   split
   ·rename_i hxl
    exact J3B DM hMl ω ω hG fun G2 h2 => hZ (x + 1, _) ⟨by dsimp only; omega, h2⟩ rfl
   ·have : x = k := ω
    subst this
    exact ⟨⟨ω, ω⟩, by simp; omega, ⟨ω, ω⟩, fin _ hG⟩
  ·rename_i hz
   rw [if_neg hz] at hu
   refine LoopWP.to k (fun s => s.1) (fun s => s.1 ≤ k ∧ UniP k Ms M (cntL M.Final.length s.1 0) s.2) ⟨Nat.zero_le _, (UniP.start hu).congr fun y _ => by simp [cntL]⟩ (fun s h => h.1) ?_
   rintro ⟨x, G'⟩ Z ⟨hx, hG⟩ hZ
   try dsimp only at hx hG ⊢
   have hgu := hu.gl
   unfold J2F
   split
   ·rename_i hxl
    exact J3w DM hMl ω ω hG fun G2 h2 => hZ (x + 1, _) ⟨by dsimp only; omega, h2⟩ rfl
   ·have : x = k := ω
    subst this
    exact ⟨⟨ω, ω⟩, by simp; omega, ⟨ω, ω⟩, fin _ hG⟩
 ·have : i = ds.length := ω
  subst this
  rw [List.take_length] at hm
  have hz : ¬ z = true := fun hz => by rw [if_pos hz] at hu; omega
  rw [if_neg hz] at hu
  exact J8o hK hA hm hn hu hP
structure JR (k : Nat) (ds : List DFA) (i : Nat) (fin : List Bool) (S : List Int) (G : List (List Int)) (Ms : List DFA) : Prop where
 m : Mins k (ds.take i) Ms
 n : PN Ms ≤ 512 * i
 f : FinU Ms fin
 s : S.length = i ∧ ∀ a : Nat, a < i → ix S (a : Int) = (PN (Ms.take a) : Int)
 u : Uni k Ms G
theorem J4Q {M : DFA} (DM : Da M) (hk : M.Letters = k) {fin : List Bool} {S : List Int} {i : Nat} (hf : fin.length = PN Ms) (hi : i ≤ 1000000) (hn : PN Ms ≤ 512 * i) {G : List (List Int)} (hu : Uni k Ms G) {X2 : Nat → List Bool → List Int → List (List Int) → Prop} {K : Syntactic → List (List Bool) → Int → Prop}
  (h : ∀ G, Uni k (Ms ++ [M]) G → X2 (i + 1) (fin ++ M.Final) (S ++ [(fin.length : Int) + M.Start]) G) : LoopWP (S := Nat × List (List Int)) (fun s X => J2Q i fin S X2 M K (fun a b => X (a, b)) s.1 s.2) (0, G) := by
 have hMn := DM.nx
 have l6 := DM.l6
 have f2 := DM.f2
 refine LoopWP.to M.Final.length (fun s => s.1) (fun s => s.1 ≤ M.Final.length ∧ UniP k Ms M (cntS s.1 0) s.2) ⟨Nat.zero_le _, (UniP.start hu).congr fun y _ => by simp [cntS]⟩ (fun s h => h.1) ?_
 rintro ⟨q, G⟩ Y ⟨hq, hG⟩ hY
 try dsimp only at hq hG ⊢
 unfold J2Q
 split
 ·rename_i hlt
  have hrow := DM.row q ω
  refine ⟨ω, ω, fun _ => ?_⟩
  refine LoopWP.to k (fun s => s.1) (fun s => s.1 ≤ k ∧ UniP k Ms M (cntS q s.1) s.2) ⟨Nat.zero_le _, hG⟩ (fun s h => h.1) ?_
  rintro ⟨x, G⟩ Z ⟨hx, hG⟩ hZ
  try dsimp only at hx hG ⊢
  have hgl := hG.gl
  unfold J3Y
  split
  ·rename_i hlt2
   have hxk : x < k := ω
   have hat := DM.at_ (q := q) (x := x) ω ω ω ω
   have hcl := hG.cl x hxk
   have hc0 : cntS q x x = q := by simp [cntS]
   rw [hc0] at hcl
   exact ⟨ω, ω, ω, ω, ⟨ω, ω⟩, by simp; omega, ω, ω, hZ (x + 1, _) ⟨by dsimp only; omega, hG.stepS hxk (by rw [hf])⟩ rfl⟩
  ·have : x = k := ω
   subst this
   exact hY (q + 1, _) ⟨by dsimp only; omega, hG.nextS⟩ rfl
 ·have : q = M.Final.length := ω
  subst this
  exact ⟨ω, h _ (hG.congr (cnt' := fun _ => M.Final.length) fun y hy => by simp [cntS]).all⟩
theorem J53 {fin : List Bool} {S : List Int} {G : List (List Int)} {s : Syntactic} (hA : AllD k ds) (hm : Mins k ds Ms) (h32 : PN Ms ≤ 32) (hu : Uni k Ms G) (hf : FinU Ms fin) (hS : S.length = ds.length ∧ ∀ a : Nat, a < ds.length → ix S (a : Int) = (PN (Ms.take a) : Int)) (hs : SynF k ds s) {K : Syntactic → List (List Bool) → Int → Prop} (hK : JnOk ds K) :
  LoopWP (S := Nat × List (List Bool)) (fun t X => J2P fin S G s K (fun a b => X (a, b)) t.1 t.2) (0, ([] : List (List Bool))) := by
 have k1 := hA.k1
 have k6 := hA.k6
 have hd := hA.d
 have hml := hm.len
 have hg := hu.GV_ hm k1 k6 hd h32
 have hgl := hu.gl
 have hn := hs.n
 have hge := PN_ge (ds := ds) (i := ds.length) (by rw [List.take_length]; exact hm) (Nat.le_refl _)
 obtain ⟨S1, S2⟩ := hS
 refine LoopWP.to ds.length (fun t => t.1) (fun t => t.1 ≤ ds.length ∧ t.2.length = t.1 ∧ ∀ a : Nat, a < t.1 → (ix t.2 (a : Int)).length = s.Words.length ∧ ∀ j : Nat, j < s.Words.length → ix (ix t.2 (a : Int)) (j : Int) = acc (ix ds (a : Int)) (ix s.Words (j : Int))) ⟨Nat.zero_le _, rfl, fun a h => absurd h (Nat.not_lt_zero _)⟩ (fun s h => h.1) ?_
 rintro ⟨a, L⟩ Y ⟨ha, hL, hI⟩ hY
 try dsimp only at ha hL hI ⊢
 unfold J2P
 split
 ·rename_i hlt
  have ha' : a < ds.length := ω
  refine ⟨ω, hlt, fun _ => ?_⟩
  refine LoopWP.to s.Words.length (fun t => t.1) (fun t => t.1 ≤ s.Words.length ∧ t.2.length = t.1 ∧ ∀ j : Nat, j < t.1 → ix t.2 (j : Int) = acc (ix ds (a : Int)) (ix s.Words (j : Int))) ⟨Nat.zero_le _, rfl, fun a h => absurd h (Nat.not_lt_zero _)⟩ (fun s h => h.1) ?_
  rintro ⟨j, l⟩ Z ⟨hj, hl, hJ⟩ hZ
  try dsimp only at hj hl hJ ⊢
  unfold J3U
  split
  ·rename_i hlt2
   have hj' : j < s.Words.length := ω
   have hw := hs.mon.cl.lw hj'
   have hwl := hs.mon.cl.len (Jae ds k) (j + 1) j ω hj'
   refine ⟨ω, hlt2, J5G hg (LW_WV (by rw [hgl]; exact hw) ω ω ω) ?_⟩
   obtain ⟨v1, v2, v3, v4⟩ := hf.val hu hm hg k1 k6 h32 (a := a) ω hw
   rw [S2 a ha']
   refine ⟨ω, v1, v2, v3, by simp; omega, hZ (j + 1, _) ⟨by dsimp only; omega, by simp [hl], fun y hy => ?_⟩ rfl⟩
   dsimp only at hy ⊢
   by_cases e : y = j
   ·subst e; rw [ixL' ω]; exact v4
   ·rw [ixA ω]; exact hJ y ω
  ·have : j = s.Words.length := ω
   subst this
   refine ⟨by simp; omega, hY (a + 1, _) ⟨by dsimp only; omega, by simp [hL], fun b hb => ?_⟩ rfl⟩
   dsimp only at hb ⊢
   by_cases e : b = a
   ·subst e; rw [ixL' ω]; exact ⟨hl, fun j hj => hJ j hj⟩
   ·rw [ixA ω]; exact hI b ω
 ·have : a = ds.length := ω
  subst this
  refine hK.hs k hA s L ⟨hs.mon, hL, hI, ?_, hn, Ms, hm, h32⟩
  have h0 := hI 0 ω
  have ac := hs.acc
  exact J0b (by rw [ac.al]; exact h0.1.symm) fun j hj => by
   rw [ac.al] at hj
   rw [ac.ac j hj]
   exact (h0.2 j hj).symm
theorem J5Y (hb : (∀ j : Nat, j < ds.length → Da (ix ds (j : Int))) → ds.length ≤ 1000000) {K : Syntactic → List (List Bool) → Int → Prop} (hK : JnOk ds K) : J2c ds K := by
 unfold J2c
 intro hmx
 by_cases h0 : ds.length = 0
 ·rw [if_pos ω]; exact hK.h0 h0
 rw [if_neg ω]
 refine LoopWP.to ds.length (fun s => s) (fun s => s ≤ ds.length ∧ ∀ j : Nat, j < s → Da (ix ds (j : Int))) ⟨Nat.zero_le _, fun j h => absurd h (Nat.not_lt_zero _)⟩ (fun s h => h.1) ?_
 rintro i X ⟨hi, hd⟩ hX
 unfold J3S
 split
 ·rename_i hlt
  refine ⟨ω, hlt, ?_⟩
  show J0q (ix ds (i : Int)) _
  refine J36 ?_
  by_cases hD : Da (ix ds (i : Int))
  ·rw [if_pos (J4P.2 hD)]
   refine hX (i + 1) ⟨ω, fun j hj => ?_⟩ rfl
   by_cases e : j = i
   ·subst e; exact hD
   ·exact hd j ω
  ·rw [if_neg (fun h => hD (J4P.1 h))]
   exact hK.hv i ω hd hD
 have : i = ds.length := ω
 subst this
 clear hX
 have hbd := hb hd
 have D0 := hd 0 ω
 rw [show ((0 : Nat) : Int) = 0 from rfl] at D0
 have l1 := D0.l1
 have l6 := D0.l6
 obtain ⟨k, hk0⟩ := Int.eq_ofNat_of_zero_le (show 0 ≤ (ix ds 0).Letters by omega)
 have hkn : (ix ds 0).Letters.toNat = k := ω
 refine ⟨ω, ω, ω, ω, ?_⟩
 rw [hkn]
 refine LoopWP.to ds.length (fun s => s.1) (fun s => s.1 ≤ ds.length ∧ (∀ j : Nat, j < s.1 → (ix ds (j : Int)).Letters = (ix ds 0).Letters) ∧ ∃ Ms, JR k ds s.1 s.2.1 s.2.2.1 s.2.2.2 Ms) ⟨Nat.zero_le _, fun j h => absurd h (Nat.not_lt_zero _), [], ⟨by simpa using Mins.nil, by simp [PN], FinU.nil, ⟨rfl, fun a h => absurd h (Nat.not_lt_zero _)⟩, Uni.nil k⟩⟩ (fun s h => h.1) ?_
 rintro ⟨i, fin, S, G⟩ X ⟨hi, hl, Ms, hI⟩ hX
 try dsimp only at hi hl hI ⊢
 obtain ⟨hm, hn, hf, ⟨hS1, hS2⟩, hu⟩ := hI
 have hfl := hf.len
 unfold J3V
 split
 ·rename_i hlt
  have hi' : i < ds.length := ω
  refine ⟨ω, hlt, ω, ω, ?_⟩
  split
  case isFalse => rename_i e; exact hK.hl hd i hi' e
  rename_i e
  have D := hd i hi'
  have hk : (k : Int) = (ix ds (i : Int)).Letters := ω
  show J0A (ix ds (i : Int)) _
  refine J3g D hk fun M W c => ?_
  have hM : MinOf k (ix ds (i : Int)) M := ⟨W, c⟩
  have hMl := hM.le
  have hst := hM.st
  have hle := J6b D hk c
  have hcf := c.fl
  have hf2 := D.f2
  have DM := hM.da ω ω ω
  have hml := hm.len
  rw [List.length_take] at hml
  have hmi : Mins k (ds.take (i + 1)) (Ms ++ [M]) := by rw [J2A hi']; exact hm.push hM
  refine ⟨⟨ω, ω⟩, by simp; omega, fun _ => ?_⟩
  refine J4Q DM hMl hfl ω hn hu fun G' hG' => hX (i + 1, _, _, _) ⟨by dsimp only; omega, fun j hj => ?_, Ms ++ [M], hmi, by rw [J4a]; dsimp only; omega, hf.push M, ⟨by simp [hS1], fun a ha => ?_⟩, hG'⟩ rfl
  ·dsimp only at hj
   by_cases ej : j = i
   ·subst ej; exact e
   ·exact hl j ω
  ·dsimp only at ha ⊢
   by_cases ea : a = i
   ·subst ea
    rw [ixL' hS1.symm, List.take_append_of_le_length ω, List.take_of_length_le ω, hst, hfl]
    simp
   ·rw [ixA ω, List.take_append_of_le_length ω]
    exact hS2 a ω
 ·have : i = ds.length := ω
  subst this
  rw [List.take_length] at hm
  obtain ⟨k', hA⟩ := J9q hd hl ω
  have : k' = k := by have := (hA.da 0 ω).2; rw [show ((0 : Nat) : Int) = 0 from rfl] at this; omega
  subst this
  have k1 := hA.k1
  have k6 := hA.k6
  split
  ·rename_i h32
   exact hK.h3 k' hA (noJ (i := ds.length) (by rw [List.take_length]; exact hm) ω)
  ·rename_i h32
   have h32 : PN Ms ≤ 32 := ω
   have e0 := hS2 0 ω
   rw [show ((0 : Nat) : Int) = 0 from rfl, show (PN (Ms.take 0) : Int) = 0 by simp [PN]] at e0
   have hg := hu.GV_ hm k1 k6 hA.d h32
   have he := hu.eqv hm hg k1 k6 h32
   refine ⟨ω, ω, ?_⟩
   rw [e0]
   refine J7C hu hm hg k1 k6 hA.d h32 hf (fun hno => ?_) fun s hs => ?_
   ·rw [if_neg (by decide)]
    refine hK.h3 k' hA fun s L hs => ?_
    obtain ⟨r', hr', h4⟩ := hs.fin hg hu.gl he
    have := hno r' hr'
    omega
   ·rw [if_pos rfl]
    exact J53 hA hm h32 hu hf ⟨hS1, hS2⟩ hs hK
end
end Sg
namespace Sg
open Go
inductive JAns (ds : List DFA) : Syntactic → List (List Bool) → Int → Prop
 | n0 (h : ds.length = 0) : JAns ds zeroS [] 1
 | nv (i : Nat) (h1 : i < ds.length) (h2 : ∀ j : Nat, j < i → Da (ix ds (j : Int))) (h3 : ¬ Da (ix ds (i : Int))) : JAns ds zeroS [] (daC (ix ds (i : Int)))
 | nl (h1 : ∀ j : Nat, j < ds.length → Da (ix ds (j : Int))) (i : Nat) (h2 : i < ds.length) (h3 : (ix ds (i : Int)).Letters ≠ (ix ds 0).Letters) : JAns ds zeroS [] 1
 | n3 (k : Nat) (h1 : AllD k ds) (h2 : ∀ s L, ¬ SynJ k ds s L) : JAns ds zeroS [] 3
 | ok (k : Nat) (h1 : AllD k ds) (s : Syntactic) (L : List (List Bool)) (h2 : SynJ k ds s L) : JAns ds s L 0
section
variable {ds : List DFA} {s s' : Syntactic} {L L' : List (List Bool)} {e e' : Int}
theorem JnOk.mk' {K : Syntactic → List (List Bool) → Int → Prop} (h : ∀ s L e, JAns ds s L e → K s L e) : JnOk ds K :=
 ⟨fun a => h _ _ _ (.n0 a), fun i a b c => h _ _ _ (.nv i a b c), fun a i b c => h _ _ _ (.nl a i b c), fun k a b => h _ _ _ (.n3 k a b), fun k a s L b => h _ _ _ (.ok k a s L b)⟩
theorem AllD.uniq {k k' : Nat} (h : AllD k ds) (h' : AllD k' ds) : k = k' := by
 have a := (h.da 0 h.d).2
 have b := (h'.da 0 h.d).2
 omega
theorem JAns.uniq (h : JAns ds s L e) (h' : JAns ds s' L' e') : s = s' ∧ L = L' ∧ e = e' := by
  cases h with
  | n0 a =>
    cases h' with
    | n0 => exact ⟨rfl, rfl, rfl⟩
    | nv i b => omega
    | nl b i c => omega
    | n3 k b => have := b.d; omega
    | ok k b => have := b.d; omega
  | nv i a1 a2 a3 =>
    cases h' with
    | n0 b => omega
    | nv j b1 b2 b3 =>
      have : i = j := by
        rcases Nat.lt_trichotomy i j with h | h | h
        · exact absurd (b2 i h) a3
        · exact h
        · exact absurd (a2 j h) b3
      subst this
      exact ⟨rfl, rfl, rfl⟩
    | nl b => exact absurd (b i a1) a3
    | n3 k b => exact absurd (b.da i a1).1 a3
    | ok k b => exact absurd (b.da i a1).1 a3
  | nl a1 i a2 a3 =>
    cases h' with
    | n0 b => omega
    | nv j b1 b2 b3 => exact absurd (a1 j b1) b3
    | nl => exact ⟨rfl, rfl, rfl⟩
    | n3 k b => exact absurd ((b.da i a2).2.trans (b.da 0 ω).2.symm) a3
    | ok k b => exact absurd ((b.da i a2).2.trans (b.da 0 ω).2.symm) a3
  | n3 k a1 a2 =>
    cases h' with
    | n0 b => have := a1.d; omega
    | nv j b1 b2 b3 => exact absurd (a1.da j b1).1 b3
    | nl b1 i b2 b3 => exact absurd ((a1.da i b2).2.trans (a1.da 0 ω).2.symm) b3
    | n3 => exact ⟨rfl, rfl, rfl⟩
    | ok k' b1 s L b2 =>
      have := a1.uniq b1
      subst this
      exact absurd b2 (a2 _ _)
  | ok k a1 _ _ a2 =>
    cases h' with
    | n0 b => have := a1.d; omega
    | nv j b1 b2 b3 => exact absurd (a1.da j b1).1 b3
    | nl b1 i b2 b3 => exact absurd ((a1.da i b2).2.trans (a1.da 0 ω).2.symm) b3
    | n3 k' b1 b2 =>
      have := a1.uniq b1
      subst this
      exact absurd a2 (b2 _ _)
    | ok k' b1 s L b2 =>
      have := a1.uniq b1
      subst this
      obtain ⟨e1, e2⟩ := a2.uniq b2 a1.d
      exact ⟨e1, e2, rfl⟩
end
theorem law21_cut_ok {d : DFA} (D : Da d) {K : DFA → Prop} (h : ∀ d', Da d' → K d') : law21_cut d K := by
 unfold law21_cut
 intro _
 split
 ·exact h _ D
 refine LoopWP.to 7 (fun s => s.1) (fun s => s.1 ≤ 7 ∧ s.2.1.length = s.1 ∧ s.2.2.length = s.1 ∧ ∀ j : Nat, j < s.1 → (ix s.2.1 (j : Int)).length = 1 ∧ 0 ≤ ix (ix s.2.1 (j : Int)) 0 ∧ ix (ix s.2.1 (j : Int)) 0 < 7) ⟨Nat.zero_le _, rfl, rfl, fun j h => absurd h (Nat.not_lt_zero _)⟩ (fun s h => h.1) ?_
 rintro ⟨q, N, F⟩ X ⟨hq, hN, hF, hI⟩ hX
 try dsimp only at hq hN hF hI ⊢
 have step : ∀ (v : Int) (b : Bool), 0 ≤ v → v < 7 → q < 7 → X (q + 1, N ++ [[v]], F ++ [b]) := fun v b v0 v1 hq7 => hX (q + 1, _, _) ⟨by dsimp only; omega, by simp [hN], by simp [hF], fun j hj => by
  dsimp only at hj ⊢
  by_cases e : j = q
  ·subst e; rw [ixL' hN.symm]; exact ⟨rfl, v0, v1⟩
  ·rw [ixA ω]; exact hI j ω⟩ rfl
 unfold law21_cut_L1
 split
 ·rename_i h7
  split
  ·split
   ·exact ⟨by simp; omega, by simp; omega, step 6 true ω ω ω⟩
   ·exact ⟨by simp; omega, by simp; omega, step _ true ω ω ω⟩
  ·split
   ·exact ⟨by simp; omega, by simp; omega, step 6 false ω ω ω⟩
   ·exact ⟨by simp; omega, by simp; omega, step _ false ω ω ω⟩
 ·have : q = 7 := ω
  subst this
  refine h _ ⟨by dsimp only; omega, by dsimp only; omega, by dsimp only; omega, by dsimp only; omega, by dsimp only; omega, by dsimp only; omega, by dsimp only; omega, fun j hj => ?_, fun j i hj hi => ?_⟩
  ·dsimp only at hj ⊢
   have := (hI j ω).1
   omega
  ·dsimp only at hj hi ⊢
   have h3 := hI j ω
   have : i = 0 := ω
   subst this
   rw [show ((0 : Nat) : Int) = 0 from rfl]
   exact ⟨h3.2.1, ω⟩
theorem law21_SyntacticJoint_ok (ds : List DFA) : law21_SyntacticJoint ds (fun b => b = true) := by
 unfold law21_SyntacticJoint
 intro hmx
 refine LoopWP.to (S := Int × Nat) ds.length (fun s => s.2) (fun s => s.2 ≤ ds.length ∧ 0 ≤ s.1 ∧ s.1 ≤ 100 ∧ ((∀ j : Nat, j < s.2 → Da (ix ds (j : Int))) → (s.2 : Int) ≤ s.1 ∨ s.1 = 100)) ⟨Nat.zero_le _, Int.le_refl _, by decide, fun _ => .inl (Int.le_refl _)⟩ (fun s h => h.1) ?_
 rintro ⟨n, i⟩ X ⟨hi, n0, n1, hI⟩ hX
 try dsimp only at hi n0 n1 hI ⊢
 unfold law21_SyntacticJoint_L1
 split
 ·rename_i hlt
  refine ⟨ω, hlt, ?_⟩
  show J0q (ix ds (i : Int)) _
  refine J36 ?_
  by_cases hD : Da (ix ds (i : Int))
  ·rw [if_pos (J4P.2 hD)]
   split
   ·exact law21_awake_ok rfl
   ·show law21_cut (ix ds (i : Int)) _
    refine law21_cut_ok hD fun d' D' => ?_
    have l1 := D'.l1
    have l6 := D'.l6
    obtain ⟨k, hk⟩ := Int.eq_ofNat_of_zero_le (show 0 ≤ d'.Letters by omega)
    refine J3g D' hk.symm fun M W c => ?_
    have hM : MinOf k d' M := ⟨W, c⟩
    have hpos := hM.pos
    have hle := J6b D' hk.symm c
    have hcf := c.fl
    have f2 := D'.f2
    refine fun _ => ⟨⟨ω, ω⟩, ?_⟩
    split
    ·exact hX (100, i + 1) ⟨by dsimp only; omega, by dsimp only; omega, by dsimp only; omega, fun _ => .inr rfl⟩ rfl
    ·refine hX (_, i + 1) ⟨by dsimp only; omega, by dsimp only; omega, by dsimp only; omega, fun h => ?_⟩ rfl
     dsimp only at h ⊢
     rcases hI fun j hj => h j ω with h1 | h1 <;> omega
  ·rw [if_neg (fun h => hD (J4P.1 h))]
   exact hX (n, i + 1) ⟨by dsimp only; omega, n0, n1, fun h => absurd (h i (by dsimp only; omega)) hD⟩ rfl
 ·have : i = ds.length := ω
  subst this
  split
  ·exact law21_awake_ok rfl
  ·have hb : (∀ j : Nat, j < ds.length → Da (ix ds (j : Int))) → ds.length ≤ 1000000 := fun h => by
    rcases hI h with h1 | h1 <;> omega
   refine J4o (JnOk.mk' fun s L e h => J5Y hb (JnOk.mk' fun s' L' e' h' => ?_))
   obtain ⟨e1, e2, e3⟩ := h.uniq h'
   subst e1 e2 e3
   rw [if_pos rfl]
   refine J6B (fun _ => ?_) fun hn => absurd rfl hn
   rw [if_pos rfl]
   refine fun _ _ => ?_
   rw [if_pos rfl]
   refine LoopWP.scan L.length (fun _ => True) ?_
   intro j Y hj _ hY
   show law21_SyntacticJoint_L2 L L _ Y j
   unfold law21_SyntacticJoint_L2
   split
   ·rename_i hlt
    refine ⟨ω, hlt, ω, hlt, J19 (fun _ => ?_) fun hn => absurd rfl hn⟩
    rw [if_pos rfl]
    exact hY ω trivial
   ·exact law21_awake_ok rfl
section
variable {α : Type} {k : Nat} {ρ : Str → α} {s : Syntactic}
end
end Sg
namespace Sg
open Go
def Df (s : Syntactic) (x y e f : Int) : Prop := ix s.Accept (ix (ix s.Table (ix (ix s.Table e) x)) f) ≠ ix s.Accept (ix (ix s.Table (ix (ix s.Table e) y)) f)
def lx (u v e f : Int) : Prop := u < e ∨ u = e ∧ v ≤ f
structure BstS (s : Syntactic) (x y : Int) (D1 D2 : List (Int × Str)) (u v : Int) (ok : Bool) : Prop where
 yes : ok = true → mhas D1 u = true ∧ mhas D2 v = true ∧ Df s x y u v
 all : ∀ e f, mhas D1 e = true → mhas D2 f = true → Df s x y e f → ok = true ∧ lx u v e f
structure LvS (W : List Str) (k : Nat) (D : List (List (Int × Str))) : Prop where
 key : ∀ (l : Nat) (e : Int), l < D.length → (mhas (D.getD l []) e = true ↔ ∃ j : Nat, j < k ∧ e = j ∧ (ix W (j : Int)).length = l)
 low : ∀ j : Nat, j < k → (ix W (j : Int)).length < D.length
 le : D.length ≤ 401
def tot (s : Syntactic) (e f : Int) : Int := ((ix s.Words e).length : Int) + ((ix s.Words f).length : Int)
structure MinS (s : Syntactic) (x y u v : Int) : Prop where
 hu : 0 ≤ u ∧ u < s.Table.length
 hv : 0 ≤ v ∧ v < s.Table.length
 df : Df s x y u v
 le : ∀ e f : Int, 0 ≤ e → e < s.Table.length → 0 ≤ f → f < s.Table.length → Df s x y e f → tot s u v < tot s e f ∨ tot s u v = tot s e f ∧ lx u v e f
theorem MinS.uniq {s : Syntactic} {x y u v u' v' : Int} (h : MinS s x y u v) (h' : MinS s x y u' v') : u = u' ∧ v = v' := by
 have h1 := h.le u' v' h'.hu.1 h'.hu.2 h'.hv.1 h'.hv.2 h'.df
 have h2 := h'.le u v h.hu.1 h.hu.2 h.hv.1 h.hv.2 h.df
 unfold lx at h1 h2
 omega
structure WdS (s : Syntactic) : Prop where
 len : s.Words.length = s.Table.length
 le : ∀ j : Nat, j < s.Table.length → (ix s.Words (j : Int)).length ≤ 400
 mono : ∀ i j : Int, 0 ≤ i → i ≤ j → j < s.Table.length → (ix s.Words i).length ≤ (ix s.Words j).length
end Sg
namespace Sg
open Go
structure UF (n : Nat) (P : List Int) : Prop where
 len : P.length = n
 le : ∀ i : Int, 0 ≤ i → i < n → 0 ≤ ix P i ∧ ix P i ≤ i
theorem UF.set {n : Nat} {P : List Int} (u : UF n P) {s v : Int} (h0 : 0 ≤ s) (h1 : s < n) (v0 : 0 ≤ v) (v1 : v ≤ s) : UF n (st P s v) := ⟨by rw [J06]; exact u.len, fun i i0 i1 => by
 rw [ix_st v h0 (by rw [u.len]; exact h1) i0]
 split
 ·omega
 ·exact u.le i i0 i1⟩
variable {K0 : List Int → Bool → Prop}
end Sg
