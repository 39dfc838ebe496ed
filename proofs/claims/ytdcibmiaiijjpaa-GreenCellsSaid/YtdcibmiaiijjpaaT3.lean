/- -/
import Derived.Test.YtdcibmiaiijjpaaTreeB
namespace Sg
open Go Go.RowKit
set_option linter.unusedVariables false
set_option linter.unusedSimpArgs false
def famE (n : Nat) (G : Nat → Ent) : Ent := .any {
 F := (List.range n).flatMap fun k => (G k).fp
 H := fun n0 w => ∀ k, k < n → (G k).holds n0 w
 lt := fun h b hb => by
  obtain ⟨k, hk, hb⟩ := List.mem_flatMap.1 hb
  exact Ent.lt (h k (by simpa using hk)) b hb
 keep := fun h hk k hkl => Ent.keep (h k hkl) fun b hb => hk b (List.mem_flatMap.2 ⟨k, by simpa using hkl, hb⟩)
 base := fun hn h k hk => Ent.base hn (h k hk) }
def famH (n : Nat) (G : Nat → Ent) (i : Nat) : Ent := .any {
 F := (List.range n).flatMap fun k => if k = i then [] else (G k).fp
 H := fun n0 w => ∀ k, k < n → k ≠ i → (G k).holds n0 w
 lt := fun h b hb => by
  obtain ⟨k, hk, hb⟩ := List.mem_flatMap.1 hb
  split at hb
  ·simp at hb
  ·rename_i hki; exact Ent.lt (h k (by simpa using hk) hki) b hb
 keep := fun h hk k hkl hki => Ent.keep (h k hkl hki) fun b hb => hk b (List.mem_flatMap.2 ⟨k, by simpa using hkl, by rw [if_neg hki]; exact hb⟩)
 base := fun hn h k hk hki => Ent.base hn (h k hk hki) }
def gup (G : Nat → Ent) (i : Nat) (e : Ent) : Nat → Ent := fun k => if k = i then e else G k
def gcat (G : Nat → Ent) (n : Nat) (G' : Nat → Ent) : Nat → Ent := fun k => if k < n then G k else G' (k - n)
section
variable {P : Program} {σ : Nat → Value} {w : World} {t t' ty e e1 e2 e3 : TypeId} {x y z : Operand} {A : List Nat} {E R : List Ent} {n0 n i m : Nat} {G G' : Nat → Ent}
theorem J3v : (famE n G).fp = (List.range n).flatMap fun k => (G k).fp := rfl
theorem J65 : (famH n G i).fp = (List.range n).flatMap fun k => if k = i then [] else (G k).fp := rfl
theorem J4c {n i : Nat} (h : i < n) (f : Nat → List Nat) : ((List.range n).flatMap f).Perm (f i ++ (List.range n).flatMap fun k => if k = i then [] else f k) := by
  induction n with
  | zero => omega
  | succ n ih =>
    rw [List.range_succ, List.flatMap_append, List.flatMap_append]
    simp only [List.flatMap_cons, List.flatMap_nil, List.append_nil]
    by_cases hn : i < n
    · rw [if_neg (by omega), ← List.append_assoc]
      exact (ih hn).append_right _
    · obtain rfl : i = n := by omega
      rw [if_pos rfl, List.append_nil]
      have : ((List.range i).flatMap fun k => if k = i then [] else f k) = (List.range i).flatMap f := by
        rw [List.flatMap_def, List.flatMap_def]
        congr 1
        refine List.map_congr_left fun k hk => ?_
        rw [if_neg (by have := List.mem_range.1 hk; omega)]
      rw [this]
      exact List.perm_append_comm
theorem Owns.reP {E' : List Ent} (h : Owns n0 w E A) (hp : (bl E').Perm (bl E)) (ha : ∀ e ∈ E', e.holds n0 w) : Stp n0 A w E w E' :=
 Owns.re h (hp.nodup_iff.2 h.nd) (fun b hb => hp.mem_iff.1 hb) ha
theorem J6l (hO : Owns n0 w (famE n G :: R) A) (hi : i < n) : Stp n0 A w (famE n G :: R) w (G i :: famH n G i :: R) := by
 have hh : ∀ k, k < n → (G k).holds n0 w := hO.at_ (famE n G) (by simp)
 refine Owns.reP hO ?_ fun e he => ?_
 ·simp only [J1g, J3v, J65, ← List.append_assoc]
  exact ((J4c hi fun k => (G k).fp).symm).append_right _
 ·rcases List.mem_cons.1 he with rfl | he
  ·exact hh i hi
  ·rcases List.mem_cons.1 he with rfl | he
   ·exact fun k hk _ => hh k hk
   ·exact hO.at_ _ (by simp [he])
theorem J6o {e : Ent} (hO : Owns n0 w (e :: famH n G i :: R) A) (hi : i < n) : Stp n0 A w (e :: famH n G i :: R) w (famE n (gup G i e) :: R) := by
 have hh : ∀ k, k < n → k ≠ i → (G k).holds n0 w := hO.at_ (famH n G i) (by simp)
 refine Owns.reP hO ?_ fun e' he => ?_
 ·simp only [J1g, J3v, J65, ← List.append_assoc]
  refine List.Perm.append_right _ ?_
  refine (J4c hi fun k => (gup G i e k).fp).trans ?_
  rw [show gup G i e i = e from by simp [gup]]
  refine List.Perm.of_eq ?_
  congr 1
  rw [List.flatMap_def, List.flatMap_def]
  congr 1
  refine List.map_congr_left fun k _ => ?_
  by_cases hk : k = i <;> simp [gup, hk]
 ·rcases List.mem_cons.1 he with rfl | he
  ·intro k hk
   unfold gup
   split
   ·exact hO.at_ _ List.mem_cons_self
   ·rename_i hki; exact hh k hk hki
  ·exact hO.at_ _ (by simp [he])
theorem J75 {e : Ent} (hO : Owns n0 w (e :: R) A) : Stp n0 A w (e :: R) w (famE 1 (fun _ => e) :: R) := by
 refine Owns.reP hO ?_ fun e' he => ?_
 ·simp [J1g, J3v, List.range_succ]
 ·rcases List.mem_cons.1 he with rfl | he
  ·exact fun k _ => hO.at_ _ List.mem_cons_self
  ·exact hO.at_ _ (by simp [he])
theorem J6a (hO : Owns n0 w R A) : Stp n0 A w R w (famE 0 G :: R) := by
 refine Owns.reP hO ?_ fun e' he => ?_
 ·simp [J1g, J3v]
 ·rcases List.mem_cons.1 he with rfl | he
  ·exact fun k hk => by omega
  ·exact hO.at_ _ he
theorem J71 (hO : Owns n0 w (famE n G :: famE m G' :: R) A) : Stp n0 A w (famE n G :: famE m G' :: R) w (famE (n + m) (gcat G n G') :: R) := by
 have h1 : ∀ k, k < n → (G k).holds n0 w := hO.at_ (famE n G) (by simp)
 have h2 : ∀ k, k < m → (G' k).holds n0 w := hO.at_ (famE m G') (by simp)
 refine Owns.reP hO (List.Perm.of_eq ?_) fun e' he => ?_
 ·simp only [J1g, J3v, ← List.append_assoc]
  congr 1
  rw [List.range_add, List.flatMap_append]
  congr 1
  ·rw [List.flatMap_def, List.flatMap_def]
   congr 1
   refine List.map_congr_left fun k hk => ?_
   have hk' : k < n := by simpa using hk
   simp [gcat, hk']
  ·rw [List.flatMap_map]
   congr 1
   funext k
   have h1 : ¬ n + k < n := by omega
   simp [gcat, h1]
 ·rcases List.mem_cons.1 he with rfl | he
  ·intro k hk
   unfold gcat
   split
   ·rename_i hkn; exact h1 k hkn
   ·exact h2 _ (by omega)
  ·exact hO.at_ _ (by simp [he])
theorem J3Z (hO : Owns n0 w (famE n G :: R) A) (h : ∀ k, k < n → G k = G' k) : Stp n0 A w (famE n G :: R) w (famE n G' :: R) := by
 have h1 : ∀ k, k < n → (G k).holds n0 w := hO.at_ (famE n G) (by simp)
 refine Owns.reP hO (List.Perm.of_eq ?_) fun e' he => ?_
 ·simp only [J1g, J3v]
  congr 1
  rw [List.flatMap_def, List.flatMap_def]
  congr 1
  exact List.map_congr_left fun k hk => by rw [h k (by simpa using hk)]
 ·rcases List.mem_cons.1 he with rfl | he
  ·exact fun k hk => by rw [← h k hk]; exact h1 k hk
  ·exact hO.at_ _ (by simp [he])
end
def lay3 {α : Type} {r : Rp α} (hf : Fl r) (e1 e2 : TypeId) (ps : Hd) (hss : Nat → Hd) (xs : List (List (List α))) : Nat → Ent := fun k => t2 hf e1 e2 (ps k).1 (ix xs (k : Int)).length (ps k).2 (hss k) (ix xs (k : Int))
section
variable {P : Program} {σ : Nat → Value} {w : World} {t t' ty e e1 e2 : TypeId} {x y z : Operand} {A : List Nat} {E R : List Ent} {n0 : Nat}
variable {α : Type} {r : Rp α} {hf : Fl r} {p : Option Addr} {n c : Nat} {ps : Hd} {hss : Nat → Hd} {xs : List (List (List α))}
theorem t3head (j : Nat) (hO : Owns n0 w E A) (hj : E[j]? = some (.row e 1 p n c (hcells ps xs))) {i : Int} (h0 : 0 ≤ i) (h1 : i < (xs.length : Int)) {d : TypeDesc} (ht : P.underlying t = some d) (hd : scB d = true)
  (hx : ev σ x = .pointer (padd p (i.toNat * 1))) (w' : World) (hw : Same w w') : OpV P (.load t x) ty σ w' (.slice (ps i.toNat).1 (ix xs i).length (ps i.toNat).2) w' := by
 obtain ⟨m, rfl⟩ := Int.eq_ofNat_of_zero_le h0
 have h := hO.at_ _ (List.mem_of_getElem? hj)
 have hm : m < (hcells ps xs).length := by simp; omega
 obtain ⟨g, cur, rfl, hg, _, _, _, _, _, hc⟩ := J1s h hm
 simp only [padd, Option.map_some, Addr.add_lit, Nat.zero_add, Int.toNat_natCast, Nat.mul_one] at hx ⊢
 refine J2c ht hd hx ?_
 rw [World.cell?_of_block (w := w) (hw.block g (Array.getElem?_eq_some_iff.1 hg).1), hc, J0i (by omega)]
 rfl
theorem t3some (j : Nat) (hO : Owns n0 w E A) (hj : E[j]? = some (.row e 1 p n c (hcells ps xs))) {i : Int} (h0 : 0 ≤ i) (h1 : i < (xs.length : Int)) : p.isSome = true ∧ n = xs.length := by
 have h := hO.at_ _ (List.mem_of_getElem? hj)
 have hn : n = xs.length := by have := h.1; simpa using this.symm
 exact ⟨J3P h (by omega), hn⟩
theorem t3take {R : List Ent} (hO : Owns n0 w (famE xs.length (lay3 hf e1 e2 ps hss xs) :: R) A) {i : Int} (h0 : 0 ≤ i) (h1 : i < (xs.length : Int)) :
  Stp n0 A w (famE xs.length (lay3 hf e1 e2 ps hss xs) :: R) w (t2 hf e1 e2 (ps i.toNat).1 (ix xs i).length (ps i.toNat).2 (hss i.toNat) (ix xs i) :: famH xs.length (lay3 hf e1 e2 ps hss xs) i.toNat :: R) := by
 obtain ⟨m, rfl⟩ := Int.eq_ofNat_of_zero_le h0
 exact J6l hO (by omega)
theorem t3back {R : List Ent} {i : Int} {h : Hd} {ys : List (List α)} {q : Nat} (hO : Owns n0 w (t2 hf e1 e2 (ps i.toNat).1 q (ps i.toNat).2 h ys :: famH xs.length (lay3 hf e1 e2 ps hss xs) i.toNat :: R) A) (h0 : 0 ≤ i) (h1 : i < (xs.length : Int)) (hl : ys.length = (ix xs i).length) :
  Stp n0 A w (t2 hf e1 e2 (ps i.toNat).1 q (ps i.toNat).2 h ys :: famH xs.length (lay3 hf e1 e2 ps hss xs) i.toNat :: R) w (famE (st xs i ys).length (lay3 hf e1 e2 ps (fun k => if k = i.toNat then h else hss k) (st xs i ys)) :: R) ∧ hcells ps (st xs i ys) = hcells ps xs := by
 obtain ⟨m, rfl⟩ := Int.eq_ofNat_of_zero_le h0
 simp only [Int.ofNat_eq_natCast, Int.toNat_natCast] at *
 have hq := t2neq 0 hO rfl
 have s1 := J6o hO (show m < xs.length by omega)
 have s2 := J3Z (G' := lay3 hf e1 e2 ps (fun k => if k = m then h else hss k) (st xs (m : Int) ys)) s1.own fun k hk => by
  unfold gup lay3
  by_cases hkm : k = m
  ·subst hkm
   have ei : ix (st xs (k : Int) ys) (k : Int) = ys := by rw [ix_st _ (by omega) (by omega) (by omega), if_pos rfl]
   simp only [if_true, ei, hq]
  ·have ei : ix (st xs (m : Int) ys) (k : Int) = ix xs (k : Int) := by rw [ix_st _ (by omega) (by omega) (by omega), if_neg (by omega)]
   simp only [hkm, if_false, ei]
 rw [J02]
 exact ⟨s1.trans s2, J4O ps xs (by omega) hl⟩
theorem t3read {R : List Ent} (hO : Owns n0 w (.row e 1 p n c (hcells ps xs) :: famE xs.length (lay3 hf e1 e2 ps hss xs) :: R) A) (hb : xs.length ≤ mx) : Owns n0 w R A ∧ Fr (bl (.row e 1 p n c (hcells ps xs) :: famE xs.length (lay3 hf e1 e2 ps hss xs) :: R)) w (bl R) w ∧ ISl r.sl.sl (bl R ++ A) w p c xs ∧ n = xs.length := by
 have d1 := hO.drop 0
 have f1 := Owns.J0W w (.row e 1 p n c (hcells ps xs) :: famE xs.length (lay3 hf e1 e2 ps hss xs) :: R) 0
 have d2 := d1.drop 0
 have f2 := Owns.J0W w (famE xs.length (lay3 hf e1 e2 ps hss xs) :: R) 0
 have hrow := hO.at_ _ (List.mem_cons_self)
 have hfam : ∀ k, k < xs.length → (lay3 hf e1 e2 ps hss xs k).holds n0 w := hO.at_ (famE xs.length (lay3 hf e1 e2 ps hss xs)) (by simp)
 have hn : n = xs.length := by have := hrow.1; simpa using this.symm
 have hnd := hO.nd
 simp only [J1g, J16, J3v] at hnd
 have out1 : ∀ b ∈ pb p, b ∉ bl R ++ A := fun b hb hx => by
  rcases List.mem_append.1 hx with hx | hx
  ·exact (List.nodup_append.1 hnd).2.2 b hb b (List.mem_append_right _ hx) rfl
  ·exact hO.out b (by simp [J1g, J16, hb]) hx
 have out2 : ∀ k, k < xs.length → ∀ b ∈ t2fp (ps k).1 (hss k) (ix xs (k : Int)).length, b ∉ bl R ++ A := fun k hk b hb hx => by
  have hbk : b ∈ (List.range xs.length).flatMap fun k => (lay3 hf e1 e2 ps hss xs k).fp := List.mem_flatMap.2 ⟨k, by simpa using hk, hb⟩
  rcases List.mem_append.1 hx with hx | hx
  ·exact (List.nodup_append.1 (List.nodup_append.1 hnd).2.1).2.2 b hbk b hx rfl
  ·exact hO.out b (by rw [J1g, J1g, J3v]; exact List.mem_append_right _ (List.mem_append_left _ hbk)) hx
 refine ⟨d2, f1.trans f2, ⟨by have := (J20 hrow).1; omega, hb, fun hp => ?_, fun a ha k hk => ?_⟩, hn⟩
 ·subst hp
  rcases hrow.2 with ⟨hv, _⟩ | ⟨g, cap, cur, hv, _⟩
  ·exact (Value.slice.inj hv).2.2
  ·exact absurd (Value.slice.inj hv).1 (by simp)
 ·obtain ⟨h1, h2, h3⟩ := J40 hrow ha
  refine ⟨h1, h2, out1 _ (by rw [ha]; simp [pb]), (ps k).1, (ps k).2, ?_, ?_⟩
  ·have := h3 k (by simpa using hk)
   show cel w a (k * 1 + 0) = _
   rw [Nat.mul_one, Nat.add_zero, this, List.getElem?_eq_getElem (by simpa using hk), J0i hk]
   unfold hcell
   rw [ix_lt hk]
  ·have hT : T2 r e1 e2 (ps k).1 (ix xs (k : Int)).length (ps k).2 (hss k) (ix xs (k : Int)) n0 w := hfam k hk
   have := hT.read hf (out2 k hk)
   rw [ix_lt hk] at this
   exact this
theorem t3build1S {by_ : Nat} {R : List Ent} {q : Option Addr} {m d : Nat} {h : Hd} {ys : List (List α)} (ht : P.underlying t = some (.slice e)) (he : ti P e = some (some (.slice none 0 0), 1, by_)) (hO : Owns n0 w (t2 hf e1 e2 q m d h ys :: R) A) :
  ∃ w' p', Stp n0 A w (t2 hf e1 e2 q m d h ys :: R) w' (.row e 1 p' 1 1 (hcells (fun _ => (q, d)) [ys]) :: famE [ys].length (lay3 hf e1 e2 (fun _ => (q, d)) (fun _ => h) [ys]) :: R) ∧ Same w w' ∧ ∀ {σ : Nat → Value} {ps : List (Nat × Operand)} {ty : TypeId}, (ps.map fun p => (p.1, ev σ p.2)) = [(0, .slice q m d)] → OpV P (.buildSlice t 1 ps.toArray) ty σ w (.slice p' 1 1) w' := by
 have hm := t2neq 0 hO rfl
 obtain ⟨w', p', hst, _, hs, hop⟩ := J2O (r := Rp.val) (n := 1) (parts := [(0, .slice q m d)]) (vs := [.slice q m d]) (xs := [.slice q m d]) rfl ht he hO (by decide) (by kernel_rfl) (J3s (by simp [Value.oneCell']) (by simp [mx])) rfl
 have h1 := Stp.front 1 hst.own rfl
 have h2 := J75 h1.own
 have h3 := J3Z (G' := lay3 hf e1 e2 (fun _ => (q, d)) (fun _ => h) [ys]) h2.own fun k hk => by
  obtain rfl : k = 0 := by omega
  subst hm
  rfl
 have h4 := Stp.front 1 h3.own rfl
 refine ⟨w', p', ?_, hs, hop⟩
 refine hst.trans (h1.trans (h2.trans (h3.trans ?_)))
 rw [hm]
 rw [hm] at h4
 exact h4
def hsscat (hss : Nat → Hd) (n : Nat) (hss' : Nat → Hd) : Nat → Hd := fun k => if k < n then hss k else hss' (k - n)
theorem t3cat {by_ : Nat} {R : List Ent} {q : Option Addr} {m d : Nat} {ps' : Hd} {hss' : Nat → Hd} {ys : List (List (List α))} (ht : P.underlying t = some (.slice e)) (he : ti P e = some (some (.slice none 0 0), 1, by_))
  (hO : Owns n0 w (.row e 1 q m d (hcells ps' ys) :: famE ys.length (lay3 hf e1 e2 ps' hss' ys) :: .row e 1 p n c (hcells ps xs) :: famE xs.length (lay3 hf e1 e2 ps hss xs) :: R) A)
  (hb0 : xs.length + ys.length ≤ 1099511627776) (hby : by_ ≤ 128) :
  ∃ w' p' c', Stp n0 A w (.row e 1 q m d (hcells ps' ys) :: famE ys.length (lay3 hf e1 e2 ps' hss' ys) :: .row e 1 p n c (hcells ps xs) :: famE xs.length (lay3 hf e1 e2 ps hss xs) :: R) w'
    (.row e 1 p' (n + m) c' (hcells (hcat ps xs.length ps') (xs ++ ys)) :: famE (xs ++ ys).length (lay3 hf e1 e2 (hcat ps xs.length ps') (hsscat hss xs.length hss') (xs ++ ys)) :: R) ∧
   ∀ {σ : Nat → Value} {x y : Operand} {ty : TypeId}, ev σ x = .slice p n c → ev σ y = .slice q m d → OpV P (.call { callee := .builtin .append, args := #[x, y], argTypes := #[t, t] }) ty σ w (.slice p' (n + m) c') w' := by
 have hv1 : Els Rp.val (bl (.row e 1 q m d (hcells ps' ys) :: famE ys.length (lay3 hf e1 e2 ps' hss' ys) :: .row e 1 p n c (hcells ps xs) :: famE xs.length (lay3 hf e1 e2 ps hss xs) :: R) ++ A) w (hcells ps' ys) (hcells ps' ys) := J3s (J2G _ _) (by simp [mx]; omega)
 obtain ⟨f1, f2, f3, f4⟩ := freeze 0 hO rfl hv1
 have s1 : Stp n0 A w (.row e 1 q m d (hcells ps' ys) :: famE ys.length (lay3 hf e1 e2 ps' hss' ys) :: .row e 1 p n c (hcells ps xs) :: famE xs.length (lay3 hf e1 e2 ps hss xs) :: R) w (famE ys.length (lay3 hf e1 e2 ps' hss' ys) :: .row e 1 p n c (hcells ps xs) :: famE xs.length (lay3 hf e1 e2 ps hss xs) :: R) := ⟨f1, Owns.J0W w _ 0⟩
 have s2 := Stp.front 1 s1.own rfl
 have i3 := f3.ch s2.ch
 have hv2 : Els Rp.val (bl (.row e 1 p n c (hcells ps xs) :: [famE ys.length (lay3 hf e1 e2 ps' hss' ys), .row e 1 p n c (hcells ps xs)].eraseIdx 1 ++ famE xs.length (lay3 hf e1 e2 ps hss xs) :: R) ++ A) w (hcells ps xs) (hcells ps xs) := J3s (J2G _ _) (by simp [mx]; omega)
 obtain ⟨w', p', c', vs', s3, hE5, hop⟩ := oapp (r := Rp.val) ht he rfl 0 s2.own rfl hv2 i3 f4 (by simpa using hb0) hby
 have hvs := J4n hE5
 subst hvs
 rw [← J4j] at s3
 have s4 : Stp n0 A w' (.row e 1 p' (n + m) c' (hcells (hcat ps xs.length ps') (xs ++ ys)) :: famE ys.length (lay3 hf e1 e2 ps' hss' ys) :: famE xs.length (lay3 hf e1 e2 ps hss xs) :: R) w' (famE ys.length (lay3 hf e1 e2 ps' hss' ys) :: .row e 1 p' (n + m) c' (hcells (hcat ps xs.length ps') (xs ++ ys)) :: famE xs.length (lay3 hf e1 e2 ps hss xs) :: R) := Stp.front 1 s3.own rfl
 have s5 : Stp n0 A w' (famE ys.length (lay3 hf e1 e2 ps' hss' ys) :: .row e 1 p' (n + m) c' (hcells (hcat ps xs.length ps') (xs ++ ys)) :: famE xs.length (lay3 hf e1 e2 ps hss xs) :: R) w' (famE xs.length (lay3 hf e1 e2 ps hss xs) :: famE ys.length (lay3 hf e1 e2 ps' hss' ys) :: .row e 1 p' (n + m) c' (hcells (hcat ps xs.length ps') (xs ++ ys)) :: R) := Stp.front 2 s4.own rfl
 have s6 := J71 s5.own
 have s7 := J3Z (G' := lay3 hf e1 e2 (hcat ps xs.length ps') (hsscat hss xs.length hss') (xs ++ ys)) s6.own fun k hk => by
  unfold gcat lay3 hcat hsscat
  by_cases hkl : k < xs.length
  ·simp only [hkl, if_true, J4D hkl]
  ·simp only [hkl, if_false, J4u (show xs.length ≤ k by omega)]
 have s8 := Stp.front 1 s7.own rfl
 refine ⟨w', p', c', ?_, hop⟩
 rw [List.length_append]
 exact s1.trans (s2.trans (s3.trans (s4.trans (s5.trans (s6.trans (s7.trans s8))))))
theorem t3nil (hO : Owns n0 w R A) : Stp n0 A w R w (.row e 1 none 0 0 (hcells ps ([] : List (List (List α)))) :: famE ([] : List (List (List α))).length (lay3 hf e1 e2 ps hss []) :: R) :=
 (J6a hO).trans (Stp.nil (J6a hO).own)
structure T3F {α : Type} (vs : List Value) (ps : Hd) (xs : List (List (List α))) : Prop where
 eq : vs = hcells ps xs
 bd : xs.length ≤ mx
variable {vs us : List Value}
theorem T3F.nil (ps : Hd) : T3F (α := α) (hcells ps ([] : List (List (List α)))) ps [] := ⟨rfl, by simp [mx]⟩
theorem T3F.one (ps : Hd) (ys : List (List α)) : T3F (hcells ps [ys]) ps [ys] := ⟨rfl, by simp [mx]⟩
theorem T3F.cat {ps' : Hd} {ys : List (List (List α))} (ps : Hd) (hb : xs.length + ys.length ≤ 1099511627776) : T3F (hcells (hcat ps xs.length ps') (xs ++ ys)) (hcat ps xs.length ps') (xs ++ ys) := ⟨rfl, by simp [mx]; omega⟩
theorem t3headF (j : Nat) (hO : Owns n0 w E A) (hj : E[j]? = some (.row e 1 p n c vs)) (hF : T3F vs ps xs) {i : Int} (h0 : 0 ≤ i) (h1 : i < (xs.length : Int)) {d : TypeDesc} (ht : P.underlying t = some d) (hd : scB d = true)
  (hx : ev σ x = .pointer (padd p (i.toNat * 1))) (w' : World) (hw : Same w w') : OpV P (.load t x) ty σ w' (.slice (ps i.toNat).1 (ix xs i).length (ps i.toNat).2) w' := by
 obtain ⟨rfl, _⟩ := hF
 exact t3head j hO hj h0 h1 ht hd hx w' hw
theorem t3someF (j : Nat) (hO : Owns n0 w E A) (hj : E[j]? = some (.row e 1 p n c vs)) (hF : T3F vs ps xs) {i : Int} (h0 : 0 ≤ i) (h1 : i < (xs.length : Int)) : p.isSome = true := by
 obtain ⟨rfl, _⟩ := hF
 exact (t3some j hO hj h0 h1).1
theorem t3neqF (j : Nat) (hO : Owns n0 w E A) (hj : E[j]? = some (.row e 1 p n c vs)) (hF : T3F vs ps xs) : n = xs.length := by
 obtain ⟨rfl, _⟩ := hF
 have h := hO.at_ _ (List.mem_of_getElem? hj)
 have := h.1
 simpa using this.symm
theorem t3backF {R : List Ent} {i : Int} {h : Hd} {ys : List (List α)} {q : Nat} (hO : Owns n0 w (t2 hf e1 e2 (ps i.toNat).1 q (ps i.toNat).2 h ys :: famH xs.length (lay3 hf e1 e2 ps hss xs) i.toNat :: R) A) (hF : T3F vs ps xs) (h0 : 0 ≤ i) (h1 : i < (xs.length : Int)) (hl : ys.length = (ix xs i).length) :
  Stp n0 A w (t2 hf e1 e2 (ps i.toNat).1 q (ps i.toNat).2 h ys :: famH xs.length (lay3 hf e1 e2 ps hss xs) i.toNat :: R) w (famE (st xs i ys).length (lay3 hf e1 e2 ps (fun k => if k = i.toNat then h else hss k) (st xs i ys)) :: R) ∧ T3F vs ps (st xs i ys) := by
 obtain ⟨h2, h3⟩ := t3back hO h0 h1 hl
 exact ⟨h2, hF.eq.trans h3.symm, by rw [J02]; exact hF.bd⟩
theorem t3freeze {R : List Ent} (hO : Owns n0 w (.row e 1 p n c vs :: famE xs.length (lay3 hf e1 e2 ps hss xs) :: R) A) (hF : T3F vs ps xs) : Owns n0 w R A ∧ Fr (bl (.row e 1 p n c vs :: famE xs.length (lay3 hf e1 e2 ps hss xs) :: R)) w (bl R) w ∧
  Ch (bl (.row e 1 p n c vs :: famE xs.length (lay3 hf e1 e2 ps hss xs) :: R) ++ A) w (bl R ++ A) w ∧ ISl r.sl.sl (bl R ++ A) w p c xs ∧ n = xs.length := by
 obtain ⟨rfl, hb⟩ := hF
 obtain ⟨h1, h2, h3, h4⟩ := t3read hO hb
 exact ⟨h1, h2, h2.ch.app A, h3, h4⟩
theorem t3catF {by_ : Nat} {R : List Ent} {q : Option Addr} {m d : Nat} {ps' : Hd} {hss' : Nat → Hd} {ys : List (List (List α))} (ht : P.underlying t = some (.slice e)) (he : ti P e = some (some (.slice none 0 0), 1, by_))
  (hO : Owns n0 w (.row e 1 q m d us :: famE ys.length (lay3 hf e1 e2 ps' hss' ys) :: .row e 1 p n c vs :: famE xs.length (lay3 hf e1 e2 ps hss xs) :: R) A) (hF' : T3F us ps' ys) (hF : T3F vs ps xs)
  (hb0 : xs.length + ys.length ≤ 1099511627776) (hby : by_ ≤ 128) :
  ∃ w' p' c', Stp n0 A w (.row e 1 q m d us :: famE ys.length (lay3 hf e1 e2 ps' hss' ys) :: .row e 1 p n c vs :: famE xs.length (lay3 hf e1 e2 ps hss xs) :: R) w'
    (.row e 1 p' (n + m) c' (hcells (hcat ps xs.length ps') (xs ++ ys)) :: famE (xs ++ ys).length (lay3 hf e1 e2 (hcat ps xs.length ps') (hsscat hss xs.length hss') (xs ++ ys)) :: R) ∧
   ∀ {σ : Nat → Value} {x y : Operand} {ty : TypeId}, ev σ x = .slice p n c → ev σ y = .slice q m d → OpV P (.call { callee := .builtin .append, args := #[x, y], argTypes := #[t, t] }) ty σ w (.slice p' (n + m) c') w' := by
 obtain ⟨rfl, _⟩ := hF
 obtain ⟨rfl, _⟩ := hF'
 exact t3cat ht he hO hb0 hby
end
end Sg
