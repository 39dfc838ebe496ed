/- -/
import Derived.Test.YtbmaaecppfdjfaaGreatDoorZp
import Derived.Test.YtbmaaecppfdjfaaGreatDoorEv
set_option linter.unusedVariables false
set_option linter.unusedSimpArgs false
namespace Sg
open Go
theorem J5t {d : DFA} {m : Int} {K : Bool → Prop} (h1 : Da d → (d.Final.length : Int) ≤ m → K true) (h0 : K false) : J4u d m K := by
 unfold J4u
 refine fun _ => ?_
 split
 ·rename_i hm
  split
  ·refine JbT ?_
   split
   ·rename_i h; exact h1 (J2X.1 (daC0.1 h)) hm
   ·exact h0
  ·exact h0
 ·exact h0
end Sg
namespace Sg
open Go
section
variable {gens : List (List Int)} {mon : Bool} {r : run}
end
end Sg
namespace Sg
open Go
section
variable {d m : DFA} {k : Nat}
theorem LW.take {w : Str} (h : LW k w) (i : Nat) : LW k (w.take i) := fun b hb => h b (List.mem_of_mem_take hb)
theorem LW.drop {w : Str} (h : LW k w) (i : Nat) : LW k (w.drop i) := fun b hb => h b (List.mem_of_mem_drop hb)
theorem JgF (D : Da d) (hk : (k : Int) = d.Letters) {q : Int} (q0 : 0 ≤ q) (q1 : q < d.Final.length) {w : Str} (hw : LW k w) (hl : d.Final.length ≤ w.length) :
  ∃ i j, i < j ∧ j ≤ d.Final.length ∧ rn d q (w.take i) = rn d q (w.take j) := by
 obtain ⟨a, b, h1, h2, e⟩ := pigeon d.Final.length (fun i => rn d q (w.take i)) fun i _ => rn_lw D hk (hw.take i) q0 q1
 exact ⟨a, b, h1, h2, e⟩
theorem Jhn (D : Da d) (hk : (k : Int) = d.Letters) (h : ∀ w, LW k w → d.Final.length ≤ w.length → w.length < 2 * d.Final.length → acc d w = false) :
    ∀ (n : Nat) (w : Str), w.length = n → LW k w → d.Final.length ≤ w.length → acc d w = false := by
  intro n
  induction n using Nat.strongRecOn with
  | _ n ih =>
    intro w hn hw hl
    by_cases h2 : w.length < 2 * d.Final.length
    · exact h w hw hl h2
    · obtain ⟨i, j, hij, hj, e⟩ := JgF D hk D.s0 D.s1 hw hl
      have hlen : (w.take i ++ w.drop j).length = w.length - (j - i) := by simp only [List.length_append, List.length_take, List.length_drop]; omega
      have := ih (w.take i ++ w.drop j).length ω _ rfl (LW.app.2 ⟨hw.take i, hw.drop j⟩) ω
      unfold acc at this ⊢
      rw [J24, e, ← J24, List.take_append_drop] at this
      exact this
def rep : Nat → Str → Str
 | 0, _ => []
 | n + 1, v => v ++ rep n v
theorem Jgs (v : Str) : ∀ n, (rep n v).length = n * v.length
 | 0 => by simp [rep]
 | n + 1 => by rw [rep, List.length_append, Jgs v n, Nat.add_mul]; omega
theorem JbW {v : Str} (h : LW k v) : ∀ n, LW k (rep n v)
 | 0 => fun _ hb => nomatch hb
 | n + 1 => LW.app.2 ⟨h, JbW h n⟩
theorem JhH {v : Str} {q : Int} (h : rn d q v = q) : ∀ n, rn d q (rep n v) = q
 | 0 => rfl
 | n + 1 => by rw [rep, J24, h, JhH h n]
theorem pump (D : Da m) (hk : (k : Int) = m.Letters) {x w y : Str} (hx : LW k x) (hw : LW k w) (hy : LW k y) (hl : m.Final.length ≤ w.length) (ha : acc m (x ++ w ++ y) = true) (N : Nat) : ∃ z, LW k z ∧ N ≤ z.length ∧ acc m z = true := by
 obtain ⟨q0, q1⟩ := rn_lw D hk hx D.s0 D.s1
 obtain ⟨i, j, hij, hj, e⟩ := JgF D hk q0 q1 hw hl
 have hv : w.take j = w.take i ++ (w.take j).drop i := by
  have := (List.take_append_drop i (w.take j)).symm
  rwa [List.take_take, Nat.min_eq_left ω] at this
 have hlen : 1 ≤ ((w.take j).drop i).length := by simp only [List.length_drop, List.length_take]; omega
 have back : rn m (rn m (rn m m.Start x) (w.take i)) ((w.take j).drop i) = rn m (rn m m.Start x) (w.take i) := by
  rw [← J24, ← hv]; exact e.symm
 refine ⟨x ++ (w.take i ++ (rep N ((w.take j).drop i) ++ (w.drop j ++ y))), ?_, ?_, ?_⟩
 ·exact LW.app.2 ⟨hx, LW.app.2 ⟨hw.take i, LW.app.2 ⟨JbW ((hw.take j).drop i) N, LW.app.2 ⟨hw.drop j, hy⟩⟩⟩⟩
 ·have := Jgs ((w.take j).drop i) N
  have h2 : N * 1 ≤ N * ((w.take j).drop i).length := Nat.mul_le_mul_left N hlen
  simp only [List.length_append]
  omega
 ·have h1 : acc m (x ++ w ++ y) = ix m.Final (rn m (rn m (rn m (rn m m.Start x) (w.take j)) (w.drop j)) y) := by
   unfold acc
   rw [J24, J24, ← J24 m _ (w.take j), List.take_append_drop]
  unfold acc
  rw [J24, J24, J24, JhH back N, J24, e]
  rw [h1] at ha
  exact ha
end
end Sg
namespace Sg
open Go
section
variable {d m : DFA} {k : Nat} {W : List Str} {s : Syntactic}
theorem Jg2 (D : Da d) (hk : (k : Int) = d.Letters) (hf : ∀ z, LW k z → d.Final.length ≤ z.length → acc d z = false) (c : Can k (nero d k) (acc d) m W) (hW : W.length ≤ 512) {w : Str} (hw : LW k w) (hl : m.Final.length ≤ w.length) {x y : Str} (hx : LW k x) (hy : LW k y) : acc d (x ++ w ++ y) = false := by
 have l1 := D.l1
 have l6 := D.l6
 have e : ∀ z, LW k z → acc m z = acc d z := fun z hz => c.acc (JaI d k) ω (fun u v hu hv h => by
  have := J7A.1 h [] (LW.nil k)
  simpa [acc] using this) hz
 have M := c.da ω ω hW
 apply Classical.byContradiction
 intro ha
 rw [Bool.not_eq_false, ← e _ (LW.app.2 ⟨LW.app.2 ⟨hx, hw⟩, hy⟩)] at ha
 obtain ⟨z, hz, hn, hz1⟩ := pump M c.le.symm hx hw hy hl ha d.Final.length
 rw [e z hz, hf z hz hn] at hz1
 cases hz1
theorem Jim (hk : k < 159) (o : SynOf k (acc d) s) {w : Str} (hw : LW k w) (hn : ∀ x y, LW k x → LW k y → acc d (x ++ w ++ y) = false) {i : Nat} (hi : vlS s w = i) (hil : i < s.Words.length) : isZ s.Table i := by
 have R := J4s (acc d) k
 have L := J4I (acc d) k
 have M := o.mon
 intro j hj
 rw [M.tl] at hj
 have lj := M.cl.lw hj
 have ej := M.J1J hk R L hj
 unfold mu
 have h1 := M.J55 hk R L hw lj
 have h2 := M.J55 hk R L lj hw
 rw [ej, hi] at h1 h2
 rw [← h1, ← h2, ← hi]
 constructor
 ·refine (M.JbU hk R L (LW.app.2 ⟨hw, lj⟩) hw).2 (J1S.2 fun x y hx hy => ?_)
  rw [hn x y hx hy, show x ++ (w ++ ix s.Words (j : Int)) ++ y = x ++ w ++ (ix s.Words (j : Int) ++ y) by simp, hn _ _ hx (LW.app.2 ⟨lj, hy⟩)]
 ·refine (M.JbU hk R L (LW.app.2 ⟨lj, hw⟩) hw).2 (J1S.2 fun x y hx hy => ?_)
  rw [hn x y hx hy, show x ++ (ix s.Words (j : Int) ++ w) ++ y = (x ++ ix s.Words (j : Int)) ++ w ++ y by simp, hn _ _ (LW.app.2 ⟨hx, lj⟩) hy]
theorem Jhu (D : Da d) (hk : (k : Int) = d.Letters) (o : SynOf k (acc d) s) (hf : ∀ z, LW k z → d.Final.length ≤ z.length → acc d z = false) (c : Can k (nero d k) (acc d) m W) (hW : W.length ≤ 512) {w : Str} (hw : LW k w) (hl : m.Final.length ≤ w.length) {r : Int} (hz : zeR s.Table r) : vlS s w = r := by
 have l6 := D.l6
 obtain ⟨i, ei, hi, _⟩ := o.mon.val ω (J4s (acc d) k) (J4I (acc d) k) hw
 have z := Jim ω o hw (fun x y hx hy => Jg2 D hk hf c hW hw hl hx hy) ei hi
 have tl := o.mon.tl
 rcases hz with ⟨a, ha, rfl, hza, _⟩ | ⟨_, hno⟩
 ·have h1 := (z a ω).1
  have h2 := (hza i ω).2
  unfold mu at h1 h2
  rw [ei]
  omega
 ·exact absurd z (hno i ω)
end
end Sg
namespace Sg
section
variable {α : Type} {m : α → α → α} {e a b : α}
end
end Sg
namespace Sg
open Go
section
variable {k : Nat} {φ : Str → Bool} {s : Syntactic}
end
end Sg
namespace Sg
open Go
end Sg
namespace Sg
open Go
section
variable {d : DFA} {k : Nat}
def RW (d : DFA) (k n : Nat) (q : Int) : Prop := ∃ w, LW k w ∧ w.length = n ∧ ix d.Final (rn d q w) = true
theorem RW.zero {q : Int} : RW d k 0 q ↔ ix d.Final q = true :=
 ⟨fun ⟨w, _, h0, h⟩ => by
  have : w = [] := List.length_eq_zero_iff.1 h0
  subst this; exact h, fun h => ⟨[], LW.nil k, rfl, h⟩⟩
theorem RW.succ (hk : k < 159) {n : Nat} {q : Int} : RW d k (n + 1) q ↔ ∃ x : Nat, x < k ∧ RW d k n (ix (ix d.Next q) (x : Int)) := by
  constructor
  · rintro ⟨w, hw, hl, h⟩
    match w, hw, hl, h with
    | b :: v, hw, hl, h =>
      have hb : LW k [b] := fun c hc => hw c (by simp at hc; simp [hc])
      obtain ⟨x, hx, rfl⟩ := LW.letter hk hb
      refine ⟨x, hx, v, fun c hc => hw c (by simp [hc]), by simpa using hl, ?_⟩
      rw [JgU, J0m ω] at h
      rw [show ((97 + x : Nat) : Int) - 97 = x by omega] at h
      exact h
  · rintro ⟨x, hx, v, hv, hl, h⟩
    refine ⟨lt x :: v, fun c hc => ?_, by simp [hl], ?_⟩
    · rcases List.mem_cons.1 hc with rfl | hc
      · exact LW.lt hx hk _ (by simp)
      · exact hv c hc
    · rw [JgU, J0m ω, show ((97 + x : Nat) : Int) - 97 = x by omega]
      exact h
theorem Jei (D : Da d) (hk : (k : Int) = d.Letters) {F : List (List Bool)} {n : Nat} (hF : F.length = n + 1) (hn : n < 2048) (hl : (ix F (n : Int)).length = d.Final.length)
  (hr : ∀ q : Nat, q < d.Final.length → (ix (ix F (n : Int)) (q : Int) = true ↔ RW d k n q)) {X1 : Nat → List (List Bool) → Prop} {K : Bool → Prop}
  (h : ∀ row : List Bool, row.length = d.Final.length → (∀ q : Nat, q < d.Final.length → (ix row (q : Int) = true ↔ RW d k (n + 1) q)) → X1 (n + 1) (F ++ [row])) :
  LoopWP (S := Nat × List Bool) (fun s X => J2O d n F X1 K (fun k2 r => X (k2, r)) s.1 s.2) (0, List.replicate ((ix F (n : Int)).length) false) := by
 have l6 := D.l6
 have f2 := D.f2
 have nx := D.nx
 refine LoopWP.fold d.Final.length (fun q (r : List Bool) => r.length = d.Final.length ∧ (∀ j : Nat, j < q → (ix r (j : Int) = true ↔ RW d k (n + 1) j)) ∧ ∀ j : Nat, q ≤ j → j < d.Final.length → ix r (j : Int) = false)
  ⟨by simp [hl], fun j hj => absurd hj (Nat.not_lt_zero _), fun j _ hj => J0f _ _ ω⟩ ?_
 rintro q r X hq ⟨h1, h2, h3⟩ hX
 show J2O d n F X1 K _ q r
 unfold J2O
 split
 ·rename_i hlt
  have hrow := D.row q ω
  refine ⟨ω, ω, fun _ => ?_⟩
  refine LoopWP.fold k (fun x (r : List Bool) => r.length = d.Final.length ∧ (∀ j : Nat, j < q → (ix r (j : Int) = true ↔ RW d k (n + 1) j)) ∧ (∀ j : Nat, q < j → j < d.Final.length → ix r (j : Int) = false) ∧ (ix r (q : Int) = true ↔ ∃ y : Nat, y < x ∧ RW d k n (ix (ix d.Next (q : Int)) (y : Int))))
   ⟨h1, h2, fun j hj hj2 => h3 j ω hj2, by rw [h3 q (Nat.le_refl _) ω]; simp⟩ ?_
  rintro x r X hx ⟨g1, g2, g3, g4⟩ hX3
  show J6l d F q _ K _ x r
  unfold J6l
  split
  ·have hxk : x < k := ω
   have hix := (D.at_ (q := (q : Int)) (x := (x : Int)) ω ω ω ω).2
   have step : ∀ b : Bool, (b = true ↔ (ix r (q : Int) = true ∨ RW d k n (ix (ix d.Next (q : Int)) (x : Int)))) → X (x + 1, st r (q : Int) b) := fun b hb => hX3 _ hxk ⟨by simp [g1], fun j hj => by rw [ix_st _ ω ω ω, if_neg ω]; exact g2 j hj, fun j hj hj2 => by rw [ix_st _ ω ω ω, if_neg ω]; exact g3 j hj hj2, by
    rw [ix_st _ ω ω ω, if_pos rfl, hb, g4]
    constructor
    ·rintro (⟨y, hy, h⟩ | h)
     ·exact ⟨y, ω, h⟩
     ·exact ⟨x, ω, h⟩
    ·rintro ⟨y, hy, h⟩
     by_cases e : y = x
     ·subst e; exact .inr h
     ·exact .inl ⟨y, ω, h⟩⟩
   have eF : (F.length : Int) - 1 = n := ω
   rw [eF]
   refine ⟨ω, ω, ω, ω, ?_⟩
   split
   ·rename_i ht
    exact ⟨ω, ω, step true (by simp [ht])⟩
   ·rename_i ht
    refine ⟨hix.1, ω, ?_⟩
    obtain ⟨y, ey⟩ := Int.eq_ofNat_of_zero_le hix.1
    have hy := hr y ω
    rw [← ey] at hy
    split
    ·rename_i h5
     exact ⟨ω, ω, step true (by simp [hy.1 h5])⟩
    ·rename_i h5
     exact ⟨ω, ω, step false (by
      constructor
      ·intro e; cases e
      ·rintro (e | e)
       ·exact absurd e ht
       ·exact absurd (hy.2 e) h5)⟩
  ·have : x = k := ω
   subst this
   refine hX _ ω ⟨g1, fun j hj => ?_, fun j hj hj2 => g3 j ω hj2⟩
   by_cases e : j = q
   ·subst e
    rw [g4, RW.succ ω]
   ·exact g2 j ω
 ·have : q = d.Final.length := ω
  subst this
  refine ⟨by simp; omega, ⟨ω, ω⟩, h r h1 fun q hq => h2 q hq⟩
theorem JiC : J9o = J2O := rfl
theorem JcC (D : Da d) (hk : (k : Int) = d.Letters) {K : Bool → Prop} (h1 : K true)
  (h0 : (∀ w, LW k w → d.Final.length ≤ w.length → w.length < 2 * d.Final.length → acc d w = false) → K false) : J5E d K := by
 have f1 := D.f1
 have f2 := D.f2
 unfold J5E
 refine J12 ?_
 rw [if_pos (daC0.2 (J2X.2 D))]
 refine fun _ => ⟨⟨ω, ω⟩, ?_⟩
 refine LoopWP.fold (2 * d.Final.length) (fun n (F : List (List Bool)) => F.length = n + 1 ∧ (∀ i : Nat, i ≤ n → (ix F (i : Int)).length = d.Final.length ∧ ∀ q : Nat, q < d.Final.length → (ix (ix F (i : Int)) (q : Int) = true ↔ RW d k i q)) ∧ ∀ i : Nat, d.Final.length ≤ i → i < n → ¬ RW d k i d.Start)
  ⟨rfl, fun i hi => ?_, fun i _ hi => absurd hi (Nat.not_lt_zero _)⟩ ?_
 ·have : i = 0 := ω
  subst this
  exact ⟨rfl, fun q hq => RW.zero.symm⟩
 rintro n F X hn ⟨g1, g2, g3⟩ hX
 show J7h d K _ n F
 unfold J7h
 have hg := g2 n (Nat.le_refl _)
 have eF : (F.length : Int) - 1 = n := ω
 split
 ·rename_i hlt
  have go : ∀ row : List Bool, row.length = d.Final.length → (∀ q : Nat, q < d.Final.length → (ix row (q : Int) = true ↔ RW d k (n + 1) q)) → (d.Final.length ≤ n → ¬ RW d k n d.Start) → X (n + 1, F ++ [row]) := fun row e1 e2 e3 => hX _ ω ⟨by simp [g1], fun i hi => by
   by_cases e : i ≤ n
   ·rw [Jen ω]; exact g2 i e
   ·have : i = n + 1 := ω
    subst this
    rw [show ((n + 1 : Nat) : Int) = (F.length : Int) by omega, ix_lt (by simp), List.getElem_append_right (Nat.le_refl _)]
    simp only [Nat.sub_self, List.getElem_cons_zero]
    exact ⟨e1, e2⟩, fun i h1 h2 => by
   by_cases e : i = n
   ·subst e; exact e3 h1
   ·exact g3 i h1 ω⟩
  rw [eF]
  split
  ·rename_i hge
   have s0 := D.s0
   have s1 := D.s1
   refine ⟨ω, ω, s0, ω, ?_⟩
   obtain ⟨s, es⟩ := Int.eq_ofNat_of_zero_le s0
   have hs := hg.2 s ω
   rw [← es] at hs
   split
   ·exact h1
   ·rename_i hno
    exact ⟨⟨ω, ω⟩, ω, ω, fun _ => ⟨ω, ω, fun _ => Jei D hk g1 ω hg.1 hg.2 fun row e1 e2 => go row e1 e2 fun _ hw => hno (hs.2 hw)⟩⟩
  ·simp only [JiC]
   exact ⟨⟨ω, ω⟩, ω, ω, fun _ => ⟨ω, ω, fun _ => Jei D hk g1 ω hg.1 hg.2 fun row e1 e2 => go row e1 e2 fun h => by omega⟩⟩
 ·refine h0 fun w hw a b => ?_
  have := g3 w.length a ω
  rw [Bool.eq_false_iff]
  exact fun e => this ⟨w, hw, rfl, e⟩
theorem Jc4 (d : DFA) (w : Str) (_ : w.length ≤ 140737488351232) : J6g d w (fun b => b = true) := by
 unfold J6g
 refine J5t (fun D hf => ?_) ?_
 case refine_2 => exact J0a rfl
 rw [if_pos rfl]
 have l1 := D.l1
 have l6 := D.l6
 obtain ⟨k, hk⟩ := Int.eq_ofNat_of_zero_le (show 0 ≤ d.Letters by omega)
 have hk' : (k : Int) = d.Letters := hk.symm
 refine J5l ?_
 split
 case isFalse => exact J0a rfl
 rename_i hw
 refine J1C D ω fun s hs => ?_
 have v := hs.vs D
 have n1 := (SH.tb v.1.sh).n1
 rw [if_pos rfl]
 refine fun _ => ?_
 rw [if_neg ω]
 refine JcC D hk' (by rw [if_pos rfl]; exact J0a rfl) fun hfin => ?_
 rw [if_neg (by decide)]
 refine fun _ => J0Z D hk' fun m W c => ?_
 refine fun _ => ?_
 split
 ·exact J0a rfl
 rename_i hlen
 have hle := hs.le
 refine Jbv v (by rw [hle]; exact hw) (Je4 fun r hr => ?_)
 rw [if_pos (hs.vt D)] at hr
 obtain ⟨k', e, o, m', W', c', hW'⟩ := hs.k
 have : k' = k := ω
 subst this
 have hlw : LW k' w := WV_LW (n := k') (by rw [hk']; exact hw)
 have := Jhu D hk' o (fun z hz hl => Jhn D hk' hfin _ z rfl hz hl) c (by
  have := c.uniq c'
  rw [this.2]; omega) hlw ω hr
 rw [if_pos this]
 exact J0a rfl
end
end Sg
namespace Sg
open Go
section
variable {f : List Int}
variable {a p : Nat}
section
variable {r : run} (hf : VF f = true) (h : IP f a p) (hF : Fin [f] false r)
include hf h hF
end
end
end Sg
namespace Sg
open Go
section
variable {f g : List Int}
end
section
variable {gens : List (List Int)} {mon : Bool} {r : run} (hg : GV gens = true) (h : Fin gens mon r)
include hg h
end
end Sg
namespace Sg
open Go
section
variable {t : List (List Int)} (hv : VT t = true) (h1 : ∀ x : Nat, x < t.length → mu t 0 x = x ∧ mu t x 0 = x)
end
section
variable {k : Nat} {d m : DFA} {W : List Str} {s : Syntactic}
end
end Sg
namespace Sg
open Go
end Sg
namespace Sg
open Go
section
variable {t u : List (List Int)} {f F D : List Int}
end
end Sg
namespace Sg
open Go
section
variable {k : Nat} {φ φ' : Str → Bool} {s a : Syntactic}
def hq (s a : Syntactic) (i : Int) : Int := vlS a (ix s.Words i)
end
end Sg
namespace Sg
open Go
section
variable {k : Nat} {φ φ' : Str → Bool} {s a : Syntactic}
end
section
variable {k : Nat} {d : DFA}
end
end Sg
namespace Sg
open Go
section
variable {d : DFA} {r : run} {s : Syntactic} {gens G : List (List Int)} {φ : Str → Bool} {c : List Int} {set : List Bool} {L : List Int} {q : List (List Int)} {cnt : Nat}
end
end Sg
namespace Sg
open Go
section
variable {t : List (List Int)} {c : List Int} {cnt : Nat}
end
end Sg
namespace Sg
open Go
section
variable {k : Nat} {d t : DFA}
end
end Sg
