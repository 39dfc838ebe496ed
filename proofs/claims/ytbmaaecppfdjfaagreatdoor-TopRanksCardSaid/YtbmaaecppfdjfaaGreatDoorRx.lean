/- -/
import Derived.Test.YtbmaaecppfdjfaaGreatDoorAgg
import Derived.Test.YtbmaaecppfdjfaaGreatDoorPA
namespace Sg
open Go Go.RowKit
set_option linter.unusedVariables false
set_option linter.unusedSimpArgs false
def rE : Nat → Rp Expr
 | 0 => { sz := 3, pos := by decide, R := fun _ _ _ _ => False, ch := fun _ h => h, ext := fun _ h => h, one := fun h => nomatch h }
 | n + 1 => Rp.iso (Rp.prod (Rp.int .i64) (Rp.prod (Rp.int .i64) (Rp.sl (rE n)))) fun e => (e.Op, e.Letter, e.Kids)
theorem rE_sz (n : Nat) : (rE n).sz = 3 := by cases n <;> rfl
theorem rE_up : ∀ (n : Nat) {A : List Nat} {w : World} {cs : Nat → Option Value} {x : Expr}, (rE n).R A w cs x → (rE (n + 1)).R A w cs x
  | 0, _, _, _, _, h => nomatch h
  | n + 1, A, w, cs, x, h => by
    obtain ⟨h0, h1, p, c, h2, hs⟩ := h
    refine ⟨h0, h1, p, c, h2, hs.cap, hs.bd, hs.nil, fun a ha k hk => ?_⟩
    obtain ⟨g1, g2, g3, g4⟩ := hs.at_ a ha k hk
    rw [rE_sz] at g4
    exact ⟨g1, g2, g3, rE_up n g4⟩
theorem rE_le {n m : Nat} (h : n ≤ m) {A : List Nat} {w : World} {cs : Nat → Option Value} {x : Expr} (hr : (rE n).R A w cs x) : (rE m).R A w cs x := by
  induction m with
  | zero => obtain rfl : n = 0 := by omega
            exact hr
  | succ m ih =>
    by_cases hn : n = m + 1
    · subst hn; exact hr
    · exact rE_up m (ih (by omega))
def rpExpr : Rp Expr where
 sz := 3
 pos := by decide
 R A w cs x := ∃ n, (rE n).R A w cs x
 ch hc h := let ⟨n, h⟩ := h; ⟨n, (rE n).ch hc h⟩
 ext e h := let ⟨n, h⟩ := h; ⟨n, (rE n).ext (fun i hi => e i (by rw [rE_sz] at hi; exact hi)) h⟩
 one h i hi := let ⟨n, h⟩ := h; (rE n).one h i (by rw [rE_sz]; exact hi)
section
variable {A : List Nat} {w : World} {cs : Nat → Option Value} {x : Expr}
theorem Jgw {n : Nat} {p : Option Addr} {c : Nat} {xs : List Expr} (h : ISl (rE n) A w p c xs) : ISl rpExpr A w p c xs := by
 refine ⟨h.cap, h.bd, h.nil, fun a ha k hk => ?_⟩
 obtain ⟨g1, g2, g3, g4⟩ := h.at_ a ha k hk
 rw [rE_sz] at g4
 exact ⟨g1, g2, g3, n, g4⟩
theorem JiL {p : Option Addr} {c : Nat} {xs : List Expr} (h : ISl rpExpr A w p c xs) : ∃ n, ISl (rE n) A w p c xs := by
  cases p with
  | none => exact ⟨0, h.cap, h.bd, h.nil, fun _ ha => nomatch ha⟩
  | some a =>
    have key : ∀ m, m ≤ xs.length → ∃ n, ∀ k (hk : k < xs.length), k < m → (rE n).R A w (fun i => cel w a (k * 3 + i)) xs[k] := by
      intro m
      induction m with
      | zero => exact fun _ => ⟨0, fun k _ hk => absurd hk (Nat.not_lt_zero _)⟩
      | succ m ih =>
        intro hm
        obtain ⟨n, hn⟩ := ih (by omega)
        obtain ⟨_, _, _, n2, h2⟩ := h.at_ a rfl m (by omega)
        refine ⟨n + n2, fun k hk hkm => ?_⟩
        by_cases e : k = m
        · subst e; exact rE_le (by omega) h2
        · exact rE_le (by omega) (hn k hk (by omega))
    obtain ⟨n, hn⟩ := key xs.length (Nat.le_refl _)
    refine ⟨n, h.cap, h.bd, h.nil, fun b hb k hk => ?_⟩
    obtain rfl := Option.some.inj hb
    obtain ⟨g1, g2, g3, _⟩ := h.at_ a rfl k hk
    rw [rE_sz]
    exact ⟨g1, g2, g3, hn k hk hk⟩
theorem J09 : rpExpr.R A w cs x ↔ cs 0 = some (.int .i64 x.Op) ∧ cs 1 = some (.int .i64 x.Letter) ∧ ∃ p c, cs 2 = some (.slice p x.Kids.length c) ∧ ISl rpExpr A w p c x.Kids := by
  constructor
  · rintro ⟨n, h⟩
    cases n with
    | zero => exact nomatch h
    | succ n =>
      obtain ⟨h0, h1, p, c, h2, hs⟩ := h
      exact ⟨h0, h1, p, c, h2, Jgw hs⟩
  · rintro ⟨h0, h1, p, c, h2, hs⟩
    obtain ⟨n, hn⟩ := JiL hs
    exact ⟨n + 1, h0, h1, p, c, h2, hn⟩
end
section
variable {P : Program} {w : World} {e : TypeId} {A : List Nat} {E : List Ent} {n0 : Nat} {α : Type} {r : Rp α}
theorem ostR {p : Option Addr} {n c : Nat} {vs us : List Value} {xs : List α} (j : Nat) (hO : Owns n0 w E A) (hj : E[j]? = some (.row e r.sz p n c vs)) (hE : Els r (bl E ++ A) w vs xs) {i : Int} (h0 : 0 ≤ i) (h1 : i < xs.length) {u : α} (hu : us.length = r.sz) (hR : r.R (bl E ++ A) w (fun j => us[j]?) u) :
  ∃ w' vs', Stp n0 A w E w' (E.set j (.row e r.sz p n c vs')) ∧ Els r (bl (E.set j (.row e r.sz p n c vs')) ++ A) w' vs' (st xs i u) ∧ ∀ {P : Program} {σ : Nat → Value} {t ty : TypeId} {x y : Operand} {v : Value} {zz : Option Value} {b : Nat}, ti P t = some (zz, r.sz, b) →
   ev σ x = .pointer (padd p (i.toNat * r.sz)) → ev σ y = v → v.cells.toList = us → OpV P (.store t x y) ty σ w undef w' := by
 have hh := hO.at_ _ (List.mem_of_getElem? hj)
 have hlen : vs.length = xs.length * r.sz := hE.len
 have hil : i.toNat < xs.length := by omega
 have h3 : (i.toNat + 1) * r.sz ≤ xs.length * r.sz := Nat.mul_le_mul_right r.sz (by omega)
 rw [Nat.add_mul, Nat.one_mul] at h3
 have hps := r.pos
 have hl : i.toNat * r.sz < vs.length := by omega
 obtain ⟨g, cur, rfl, hg, hb, q1, q2, q3, q4, _⟩ := J3J hh hl
 have hfit : i.toNat * r.sz + us.length ≤ cur.size := by
  have : vs.length ≤ cur.size := by rw [← q4]; simp; omega
  omega
 have hvl : vs.length ≤ cur.toList.length := by rw [← q4]; simp only [List.length_take]; omega
 have hcl : n * r.sz ≤ cur.toList.length := by rw [Array.length_toList, q3]; exact Nat.mul_le_mul_right r.sz q1
 have hnl : n = xs.length := hE.n_eq (r := r) hh
 have hone : ∀ v ∈ us, v.oneCell' = true := fun v hv => by
  obtain ⟨m, hm, rfl⟩ := List.getElem_of_mem hv
  obtain ⟨v', hv', h1⟩ := r.one hR m (by omega)
  rw [List.getElem?_eq_getElem hm] at hv'
  rw [Option.some.inj hv']; exact h1
 have hs : Stp n0 A w E (w.setRow g (cur.toList.take (i.toNat * r.sz) ++ us ++ cur.toList.drop (i.toNat * r.sz + us.length)).toArray) (E.set j (.row e r.sz (some ⟨g, 0, none⟩) n c (segs vs (i.toNat * r.sz) us))) := by
  refine Stp.turn hO hj ⟨rfl, rfl, rfl⟩ (by simp) (fun k hk hn => JbN w g _ k (by simpa [Ent.fp] using hn)) (by simp [Ent.fp]) (fun k hk => .inl (by simpa [Ent.fp] using hk)) ?_
  refine ⟨by rw [J8p (by omega)]; exact hh.1, .inr ⟨g, c, _, rfl, hb, setRow_heap w g cur _ e (0, 0) hg, q1, q2, ?_, ?_⟩⟩
  ·have := J8p (l := cur.toList) (a := i.toNat * r.sz) (us := us) (by simpa using hfit)
   simp only [segs] at this
   simp only [List.size_toArray]
   rw [this, Array.length_toList, q3]
  ·have := JdY (l := cur.toList) (a := i.toNat * r.sz) (us := us) (m := n * r.sz) (by rw [hnl]; omega) hcl
   rw [q4] at this
   exact this
 refine ⟨_, _, hs, ?_, fun he hx hy hv => ?_⟩
 ·refine ⟨by rw [J8p (by omega), J04]; exact hlen, by rw [J04]; exact hE.bd, fun k hk => ?_⟩
  simp only [J04] at hk
  have hkk : (k + 1) * r.sz ≤ xs.length * r.sz := Nat.mul_le_mul_right r.sz (by omega)
  rw [Nat.add_mul, Nat.one_mul] at hkk
  simp only [st, List.getElem_set]
  by_cases hki : i.toNat = k
  ·subst hki
   rw [if_pos rfl]
   refine r.ext (fun m hm => ?_) (r.ch hs.ch hR)
   rw [JdW (by omega) (by omega)]
  ·rw [if_neg hki]
   refine r.ext (fun m hm => ?_) (r.ch hs.ch (hE.at_ k hk))
   rw [Jcl (by omega) ?_]
   rcases Nat.lt_or_ge k i.toNat with h | h
   ·have h6 : (k + 1) * r.sz ≤ i.toNat * r.sz := Nat.mul_le_mul_right r.sz (by omega)
    rw [Nat.add_mul, Nat.one_mul] at h6
    omega
   ·have h6 : (i.toNat + 1) * r.sz ≤ k * r.sz := Nat.mul_le_mul_right r.sz (by omega)
    rw [Nat.add_mul, Nat.one_mul] at h6
    omega
 ·simp only [padd, Option.map_some, Addr.add_lit, Nat.zero_add] at hx
  exact Jaq hg hv hone hfit (by rw [hu]; exact he) hx hy
theorem J0k {a : Expr} {cs : List Value} (hl : cs.length = rpExpr.sz) (h : rpExpr.R A w (fun j => cs[j]?) a) : ∃ p2 c2, cs = [.int .i64 a.Op, .int .i64 a.Letter, .slice p2 a.Kids.length c2] ∧ ISl rpExpr A w p2 c2 a.Kids := by
  obtain ⟨h0, h1, p, c, h2, hs⟩ := J09.1 h
  refine ⟨p, c, ?_, hs⟩
  match cs, hl with
  | [x, y, z], _ =>
    obtain rfl := Option.some.inj h0
    obtain rfl := Option.some.inj h1
    obtain rfl := Option.some.inj h2
    rfl
end
end Sg
