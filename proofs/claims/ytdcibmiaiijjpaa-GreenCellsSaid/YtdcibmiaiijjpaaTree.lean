/- -/
import Derived.Test.YtdcibmiaiijjpaaCall
namespace Sg
open Go Go.RowKit
set_option linter.unusedVariables false
set_option linter.unusedSimpArgs false
def Fl {α : Type} (r : Rp α) : Prop := ∀ {A A' : List Nat} {w w' : World} {cs : Nat → Option Value} {x : α}, r.R A w cs x → r.R A' w' cs x
theorem Fl.int (k : IntKind) : Fl (Rp.int k) := fun h => h
theorem Fl.bool : Fl Rp.bool := fun h => h
def pb : Option Addr → List Nat
 | some a => [a.block]
 | none => []
abbrev Hd := Nat → Option Addr × Nat
def hcell {α : Type} (hs : Hd) (xss : List (List α)) (k : Nat) : Value := .slice (hs k).1 (ix xss (k : Int)).length (hs k).2
def hcells {α : Type} (hs : Hd) (xss : List (List α)) : List Value := (List.range xss.length).map (hcell hs xss)
def t2fp (p : Option Addr) (hs : Hd) (n : Nat) : List Nat := pb p ++ (List.range n).flatMap fun k => pb (hs k).1
structure Inn {α : Type} (r : Rp α) (e' : TypeId) (n0 : Nat) (w : World) (h : Option Addr × Nat) (xs : List α) : Prop where
 ex : ∃ vs, w.ownsRow n0 e' r.sz (.slice h.1 xs.length h.2) xs.length vs ∧ Els r [] w vs xs
structure T2 {α : Type} (r : Rp α) (e e' : TypeId) (p : Option Addr) (n c : Nat) (hs : Hd) (xss : List (List α)) (n0 : Nat) (w : World) : Prop where
 out : w.ownsRow n0 e 1 (.slice p n c) n (hcells hs xss)
 len : n = xss.length
 bd : xss.length ≤ mx
 inn : ∀ k : Nat, k < xss.length → Inn r e' n0 w (hs k) (ix xss (k : Int))
theorem J4l {n0 : Nat} {w : World} {e : TypeId} {size : Nat} {p : Option Addr} {n c : Nat} {vs : List Value} (h : w.ownsRow n0 e size (.slice p n c) n vs) : ∀ b ∈ pb p, n0 ≤ b ∧ b < w.heap.size := by
 intro b hb
 cases p with
 | none => simp [pb] at hb
 | some a => simp only [pb, List.mem_singleton] at hb; subst hb; exact World.ownsRow.lt h a.block rfl
theorem J2i {n0 : Nat} {w w' : World} {e : TypeId} {size : Nat} {p : Option Addr} {n c : Nat} {vs : List Value} (h : w.ownsRow n0 e size (.slice p n c) n vs) (hk : ∀ b ∈ pb p, w'.heap[b]? = w.heap[b]?) : w'.ownsRow n0 e size (.slice p n c) n vs := by
 refine ⟨h.1, ?_⟩
 rcases h.2 with hn | ⟨g, cap, cur, hv, hb, hg, rest⟩
 ·exact .inl hn
 ·cases hv
  exact .inr ⟨g, c, cur, rfl, hb, by rw [hk g (by simp [pb])]; exact hg, rest⟩
theorem J2H {n0 n1 : Nat} {w : World} {e : TypeId} {size : Nat} {p : Option Addr} {n c : Nat} {vs : List Value} (hn : n1 ≤ n0) (h : w.ownsRow n0 e size (.slice p n c) n vs) : w.ownsRow n1 e size (.slice p n c) n vs := by
 refine ⟨h.1, ?_⟩
 rcases h.2 with hn | ⟨g, cap, cur, hv, hb, rest⟩
 ·exact .inl hn
 ·exact .inr ⟨g, cap, cur, hv, by omega, rest⟩
theorem Els.fl {α : Type} {r : Rp α} (hf : Fl r) {A A' : List Nat} {w w' : World} {vs : List Value} {xs : List α} (h : Els r A w vs xs) : Els r A' w' vs xs := ⟨h.len, h.bd, fun k hk => hf (h.at_ k hk)⟩
theorem J0c {p : Option Addr} {hs : Hd} {n b : Nat} : b ∈ t2fp p hs n ↔ b ∈ pb p ∨ ∃ k, k < n ∧ b ∈ pb (hs k).1 := by simp [t2fp]
theorem t2fp0 (p : Option Addr) (n : Nat) : t2fp p (fun _ => (none, 0)) n = pb p := by
 show pb p ++ List.flatMap (fun _ => pb none) (List.range n) = pb p
 have : List.flatMap (fun _ : Nat => pb none) (List.range n) = [] := List.flatMap_eq_nil_iff.2 fun _ _ => rfl
 rw [this, List.append_nil]
theorem Inn.keep {α : Type} {r : Rp α} (hf : Fl r) {e' : TypeId} {n0 : Nat} {w w' : World} {h : Option Addr × Nat} {xs : List α} (hi : Inn r e' n0 w h xs) (hk : ∀ b ∈ pb h.1, w'.heap[b]? = w.heap[b]?) : Inn r e' n0 w' h xs := by
 obtain ⟨vs, h1, h2⟩ := hi.ex
 exact ⟨vs, J2i h1 hk, h2.fl hf⟩
def t2 {α : Type} {r : Rp α} (hf : Fl r) (e e' : TypeId) (p : Option Addr) (n c : Nat) (hs : Hd) (xss : List (List α)) : Ent := .any {
 F := t2fp p hs xss.length
 H := T2 r e e' p n c hs xss
 lt := fun h b hb => by
  rcases J0c.1 hb with hb | ⟨k, hk, hb⟩
  ·exact J4l h.out b hb
  ·obtain ⟨vs, h1, _⟩ := (h.inn k hk).ex
   exact J4l h1 b hb
 keep := fun h hk => ⟨J2i h.out fun b hb => hk b (J0c.2 (.inl hb)), h.len, h.bd, fun k hkl => (h.inn k hkl).keep hf fun b hb => hk b (J0c.2 (.inr ⟨k, hkl, hb⟩))⟩
 base := fun hn h => ⟨J2H hn h.out, h.len, h.bd, fun k hk => by obtain ⟨vs, h1, h2⟩ := (h.inn k hk).ex; exact ⟨vs, J2H hn h1, h2⟩⟩ }
section
variable {P : Program} {σ : Nat → Value} {w : World} {t t' ty e e' : TypeId} {x y z : Operand} {A : List Nat} {E : List Ent} {n0 : Nat}
variable {α : Type} {r : Rp α} {hf : Fl r} {p : Option Addr} {n c : Nat} {hs : Hd} {xss : List (List α)}
theorem t2at (j : Nat) (hO : Owns n0 w E A) (hj : E[j]? = some (t2 hf e e' p n c hs xss)) : T2 r e e' p n c hs xss n0 w := hO.at_ _ (List.mem_of_getElem? hj)
theorem t2neq (j : Nat) (hO : Owns n0 w E A) (hj : E[j]? = some (t2 hf e e' p n c hs xss)) : n = xss.length := (t2at j hO hj).len
theorem t2bd (j : Nat) (hO : Owns n0 w E A) (hj : E[j]? = some (t2 hf e e' p n c hs xss)) : xss.length ≤ mx := (t2at j hO hj).bd
theorem t2some (j : Nat) (hO : Owns n0 w E A) (hj : E[j]? = some (t2 hf e e' p n c hs xss)) {i : Int} (h0 : 0 ≤ i) (h1 : i < (xss.length : Int)) : p.isSome = true := by
 have h := t2at j hO hj
 rcases h.out.2 with ⟨hv, hn⟩ | ⟨g, cap, cur, hv, _⟩
 ·have := h.len; omega
 ·cases hv; rfl
theorem J3P {n0 : Nat} {w : World} {e : TypeId} {size : Nat} {p : Option Addr} {n c : Nat} {vs : List Value} (h : w.ownsRow n0 e size (.slice p n c) n vs) (hn : 0 < n) : p.isSome = true := by
 rcases h.2 with ⟨hv, hn⟩ | ⟨g, cap, cur, hv, _⟩
 ·omega
 ·cases hv; rfl
theorem t2isome (j : Nat) (hO : Owns n0 w E A) (hj : E[j]? = some (t2 hf e e' p n c hs xss)) {i k : Int} (h0 : 0 ≤ i) (h1 : i < (xss.length : Int)) (k0 : 0 ≤ k) (k1 : k < ((ix xss i).length : Int)) : (hs i.toNat).1.isSome = true := by
 obtain ⟨m, rfl⟩ := Int.eq_ofNat_of_zero_le h0
 obtain ⟨vs, h2, _⟩ := ((t2at j hO hj).inn m (by omega)).ex
 exact J3P h2 (by omega)
@[simp] theorem J4v (hs : Hd) (xss : List (List α)) : (hcells hs xss).length = xss.length := by simp [hcells]
theorem J0i {hs : Hd} {xss : List (List α)} {k : Nat} (h : k < xss.length) : (hcells hs xss)[k]'(by simpa using h) = hcell hs xss k := by simp [hcells]
theorem t2head (j : Nat) (hO : Owns n0 w E A) (hj : E[j]? = some (t2 hf e e' p n c hs xss)) {i : Int} (h0 : 0 ≤ i) (h1 : i < (xss.length : Int)) {d : TypeDesc} (ht : P.underlying t = some d) (hd : scB d = true)
  (hx : ev σ x = .pointer (padd p (i.toNat * 1))) (w' : World) (hw : Same w w') : OpV P (.load t x) ty σ w' (.slice (hs i.toNat).1 (ix xss i).length (hs i.toNat).2) w' := by
 obtain ⟨m, rfl⟩ := Int.eq_ofNat_of_zero_le h0
 have h := t2at j hO hj
 have hm : m < (hcells hs xss).length := by simp; omega
 obtain ⟨g, cur, rfl, hg, _, _, _, _, _, hc⟩ := J1s h.out hm
 simp only [padd, Option.map_some, Addr.add_lit, Nat.zero_add, Int.toNat_natCast, Nat.mul_one] at hx ⊢
 refine J2c ht hd hx ?_
 rw [World.cell?_of_block (w := w) (hw.block g (Array.getElem?_eq_some_iff.1 hg).1), hc, J0i (by omega)]
 rfl
theorem t2ld (j : Nat) (hO : Owns n0 w E A) (hj : E[j]? = some (t2 hf e e' p n c hs xss)) {i k : Int} (h0 : 0 ≤ i) (h1 : i < (xss.length : Int)) [Inhabited α] (k0 : 0 ≤ k) (k1 : k < ((ix xss i).length : Int))
  {v : Value} (hr : ∀ cs, r.R [] w cs (ix (ix xss i) k) → cs 0 = some v) {d : TypeDesc} (ht : P.underlying t = some d) (hd : scB d = true)
  (hx : ev σ x = .pointer (padd (hs i.toNat).1 (k.toNat * r.sz))) (w' : World) (hw : Same w w') : OpV P (.load t x) ty σ w' v w' := by
 obtain ⟨m, rfl⟩ := Int.eq_ofNat_of_zero_le h0
 obtain ⟨vs, h2, h3⟩ := ((t2at j hO hj).inn m (by omega)).ex
 obtain ⟨hl, hR⟩ := h3.val k0 k1
 have hv := hr _ hR
 obtain ⟨g, cur, hp, hg, _, _, _, _, _, hc⟩ := J1s h2 hl
 simp only [Nat.add_zero, List.getElem?_eq_getElem hl, Option.some.injEq] at hv
 simp only [Int.toNat_natCast] at hx
 rw [hp] at hx
 simp only [padd, Option.map_some, Addr.add_lit, Nat.zero_add] at hx
 refine J2c ht hd hx ?_
 rw [World.cell?_of_block (w := w) (hw.block g (Array.getElem?_eq_some_iff.1 hg).1), hc, hv]
theorem t2Int {k' : IntKind} {hf : Fl (Rp.int k')} {xss : List (List Int)} (j : Nat) (hO : Owns n0 w E A) (hj : E[j]? = some (t2 hf e e' p n c hs xss)) {i k : Int} (h0 : 0 ≤ i) (h1 : i < (xss.length : Int)) (k0 : 0 ≤ k) (k1 : k < ((ix xss i).length : Int))
  {d : TypeDesc} (ht : P.underlying t = some d) (hd : scB d = true) (hx : ev σ x = .pointer (padd (hs i.toNat).1 (k.toNat * 1))) (w' : World) (hw : Same w w') : OpV P (.load t x) ty σ w' (.int k' (ix (ix xss i) k)) w' :=
 t2ld (r := Rp.int k') j hO hj h0 h1 k0 k1 (fun _ h => h) ht hd hx w' hw
theorem t2Bool {hf : Fl Rp.bool} {xss : List (List Bool)} (j : Nat) (hO : Owns n0 w E A) (hj : E[j]? = some (t2 hf e e' p n c hs xss)) {i k : Int} (h0 : 0 ≤ i) (h1 : i < (xss.length : Int)) (k0 : 0 ≤ k) (k1 : k < ((ix xss i).length : Int))
  {d : TypeDesc} (ht : P.underlying t = some d) (hd : scB d = true) (hx : ev σ x = .pointer (padd (hs i.toNat).1 (k.toNat * 1))) (w' : World) (hw : Same w w') : OpV P (.load t x) ty σ w' (.bool (ix (ix xss i) k)) w' :=
 t2ld (r := Rp.bool) j hO hj h0 h1 k0 k1 (fun _ h => h) ht hd hx w' hw
theorem J4O (hs : Hd) (xss : List (List α)) {m : Nat} (hm : m < xss.length) {ys : List α} (hl : ys.length = (ix xss (m : Int)).length) : hcells hs (st xss (m : Int) ys) = hcells hs xss := by
 unfold hcells
 rw [J02]
 refine List.map_congr_left fun k hk => ?_
 simp only [List.mem_range] at hk
 unfold hcell
 rw [ix_st _ (by omega) (by omega) (by omega)]
 split
 ·rename_i h; rw [h, hl]
 ·rfl
theorem J4F (j : Nat) (hO : Owns n0 w E A) (hj : E[j]? = some (t2 hf e e' p n c hs xss)) : (t2fp p hs xss.length).Nodup := by
 have hb : (t2fp p hs xss.length).Sublist (bl E) := by
  have hmem := List.mem_of_getElem? hj
  have : [t2 hf e e' p n c hs xss].Sublist E := List.singleton_sublist.2 hmem
  have := J60 this
  simpa [bl, t2, Ent.fp] using this
 exact hb.nodup hO.nd
theorem t2disj {hs : Hd} {p : Option Addr} {n : Nat} (h : (t2fp p hs n).Nodup) {k m : Nat} (hk : k < n) (hm : m < n) (hne : k ≠ m) : ∀ b ∈ pb (hs k).1, b ∉ pb (hs m).1 := by
 intro b hb hb2
 have h2 := (List.nodup_append.1 h).2.1
 have h3 := (List.pairwise_flatMap.1 h2).2
 rw [List.pairwise_iff_getElem] at h3
 rcases Nat.lt_or_ge k m with hlt | hge
 ·have := h3 k m (by simpa using hk) (by simpa using hm) hlt
  simp only [List.getElem_range] at this
  exact this b hb b hb2 rfl
 ·have := h3 m k (by simpa using hm) (by simpa using hk) (by omega)
  simp only [List.getElem_range] at this
  exact this b hb2 b hb rfl
theorem t2outd {hs : Hd} {p : Option Addr} {n : Nat} (h : (t2fp p hs n).Nodup) {m : Nat} (hm : m < n) : ∀ b ∈ pb (hs m).1, b ∉ pb p := by
 intro b hb hp
 exact (List.nodup_append.1 h).2.2 b hp b (List.mem_flatMap.2 ⟨m, by simpa using hm, hb⟩) rfl
theorem t2st {α : Type} [Inhabited α] {r : Rp α} {hf : Fl r} {xss : List (List α)} (r1 : r.sz = 1) (j : Nat) (hO : Owns n0 w E A) (hj : E[j]? = some (t2 hf e e' p n c hs xss)) {i k : Int} (h0 : 0 ≤ i) (h1 : i < (xss.length : Int)) (k0 : 0 ≤ k) (k1 : k < ((ix xss i).length : Int))
  {v : Value} {u : α} (hv : v.oneCell' = true) (hR : r.R [] w (fun _ => some v) u) :
  ∃ w', Stp n0 A w E w' (E.set j (t2 hf e e' p n c hs (st xss i (st (ix xss i) k u)))) ∧ ∀ {P : Program} {σ : Nat → Value} {t ty : TypeId} {x y : Operand} {d : TypeDesc} {zz : Option Value} {b : Nat}, P.underlying t = some d → scB d = true → ti P t = some (zz, 1, b) →
   ev σ x = .pointer (padd (hs i.toNat).1 (k.toNat * 1)) → ev σ y = v → OpV P (.store t x y) ty σ w undef w' := by
 obtain ⟨m, rfl⟩ := Int.eq_ofNat_of_zero_le h0
 simp only [Int.toNat_natCast] at *
 have h := t2at j hO hj
 have hnd := J4F j hO hj
 have hml : m < xss.length := by omega
 obtain ⟨vs, h2, h3⟩ := (h.inn m hml).ex
 obtain ⟨hl, hRv⟩ := h3.val k0 k1
 rw [r1, Nat.mul_one] at hl
 obtain ⟨g, cur, hp, hg, hb, e1, e2, e3, e4, hc⟩ := J1s h2 hl
 have hfz : w.frozen? ⟨g, k.toNat, none⟩ = false := by simp [World.frozen?, hg]
 have hgm : g ∈ pb (hs m).1 := by rw [hp]; simp [pb]
 have hblk : ∀ b, b ≠ g → (w.setCell ⟨g, k.toNat, none⟩ v).heap[b]? = w.heap[b]? := fun b hb => Below.heap_setCell w ⟨g, k.toNat, none⟩ v b (by simpa using hb)
 refine ⟨w.setCell ⟨g, k.toNat, none⟩ v, Stp.turn hO hj ⟨rfl, rfl, rfl⟩ (by simp [World.setCell]) (fun b _ hn => hblk b fun hbg => hn ?_) ?_ (fun b hb => .inl ?_) ?_, fun ht hd he hx hy => ?_⟩
 ·subst hbg; exact J0c.2 (.inr ⟨m, hml, hgm⟩)
 ·show (t2fp p hs (st xss (m : Int) _).length).Nodup
  rw [J02]; exact hnd
 ·show b ∈ t2fp p hs xss.length
  have : b ∈ t2fp p hs (st xss (m : Int) (st (ix xss (m : Int)) k u)).length := hb
  rwa [J02] at this
 ·refine ⟨?_, by rw [J02]; exact h.len, by rw [J02]; exact h.bd, fun q hq => ?_⟩
  ·rw [J4O hs xss hml (by simp)]
   exact J2i h.out fun b hb => hblk b fun hbg => t2outd hnd hml g hgm (hbg ▸ hb)
  ·rw [J02] at hq
   rw [ix_st _ (by omega) (by omega) (by omega)]
   split
   ·rename_i hqm
    obtain rfl : q = m := by omega
    refine ⟨vs.set k.toNat v, ⟨by simpa [r1] using h2.1, .inr ⟨g, (hs q).2, cur.setIfInBounds k.toNat v, by rw [hp], hb, heap_set w g k.toNat cur e' v hg, by simpa using e1, e2, by simpa using e3, ?_⟩⟩, (h3.set r1 k0 k1 hR).fl hf⟩
    rw [Array.toList_setIfInBounds, List.take_set, ← e4, J02]
   ·exact (h.inn q hq).keep hf fun b hb => hblk b fun hbg => by
     rw [hbg] at hb
     exact t2disj hnd hq hml (by omega) g hb hgm
 ·rw [hp] at hx
  simp only [padd, Option.map_some, Addr.add_lit, Nat.zero_add, Nat.mul_one] at hx
  exact J3p ht hd he hx hy hv hc hfz
theorem t2nil (hf : Fl r) (hO : Owns n0 w E A) : Stp n0 A w E w (t2 hf e e' none 0 0 (fun _ => (none, 0)) ([] : List (List α)) :: E) :=
 Stp.new hO (Same.refl w) (by simp [t2, Ent.fp, t2fp, pb]) (fun b hb => by simp [t2, Ent.fp, t2fp, pb] at hb) ⟨World.ownsRow_nil w n0 e 1, rfl, Nat.zero_le _, fun k hk => by simp at hk⟩
theorem J4i {β : Type} {l : List β} {i : Nat} {a : β} (h : l[i]? = some a) : l.Perm (a :: l.eraseIdx i) := by
 obtain ⟨hl, he⟩ := List.getElem?_eq_some_iff.1 h
 have e1 : l = l.take i ++ a :: l.drop (i + 1) := by rw [← he]; simp
 rw [List.eraseIdx_eq_take_drop_succ]
 conv => lhs; rw [e1]
 exact List.perm_middle
theorem Owns.front {n0 : Nat} {A : List Nat} {w : World} {E : List Ent} {e : Ent} (i : Nat) (h : Owns n0 w E A) (hi : E[i]? = some e) : Owns n0 w (e :: E.eraseIdx i) A := by
 exact h.perm (J4i hi)
theorem frontFr (w : World) {E : List Ent} {e : Ent} (i : Nat) (hi : E[i]? = some e) : Fr (bl E) w (bl (e :: E.eraseIdx i)) w := by
 exact Fr.perm w (J4i hi)
theorem Stp.two {n0 : Nat} {A : List Nat} {w w' : World} {R : List Ent} {e1 e2 e' : Ent} (h : Owns n0 w (e1 :: e2 :: R) A)
  (hos : w'.os = w.os ∧ w'.tape = w.tape ∧ w'.output = w.output) (hsz : w.heap.size ≤ w'.heap.size)
  (hk : ∀ b, b < w.heap.size → b ∉ e1.fp → b ∉ e2.fp → w'.heap[b]? = w.heap[b]?) (hnd : e'.fp.Nodup) (hfp : ∀ b ∈ e'.fp, b ∈ e1.fp ∨ b ∈ e2.fp ∨ w.heap.size ≤ b) (hh : e'.holds n0 w') : Stp n0 A w (e1 :: e2 :: R) w' (e' :: R) := by
 have hb1 : bl (e1 :: e2 :: R) = e1.fp ++ (e2.fp ++ bl R) := by simp [bl]
 have hb2 : bl (e' :: R) = e'.fp ++ bl R := by simp [bl]
 have hn := h.nd
 have hlt := h.lt
 rw [hb1] at hn hlt
 obtain ⟨n1, n2, n3⟩ := List.nodup_append.1 hn
 obtain ⟨n4, n5, n6⟩ := List.nodup_append.1 n2
 have hR : ∀ b ∈ bl R, b < w.heap.size ∧ b ∉ e1.fp ∧ b ∉ e2.fp := fun b hb => ⟨hlt b (by simp [hb]), fun hx => n3 b hx b (by simp [hb]) rfl, fun hx => n6 b hx b hb rfl⟩
 refine ⟨⟨Nat.le_trans h.le hsz, fun b hb => Nat.lt_of_lt_of_le (h.bd b hb) hsz, ?_, ?_, ?_⟩, ⟨hos.1, hos.2.1, hos.2.2, ⟨hsz, fun b hb hnb => ?_⟩⟩⟩
 ·rw [hb2]
  refine List.nodup_append.2 ⟨hnd, n5, fun a ha b hb hab => ?_⟩
  subst hab
  rcases hfp a ha with hx | hx | hx
  ·exact (hR a hb).2.1 hx
  ·exact (hR a hb).2.2 hx
  ·have := (hR a hb).1; omega
 ·intro b hb
  rw [hb2] at hb
  rcases List.mem_append.1 hb with hb | hb
  ·rcases hfp b hb with hx | hx | hx
   ·exact h.out b (by rw [hb1]; simp [hx])
   ·exact h.out b (by rw [hb1]; simp [hx])
   ·exact fun hA => by have := h.bd b hA; omega
  ·exact h.out b (by rw [hb1]; simp [hb])
 ·intro e he
  rcases List.mem_cons.1 he with rfl | he
  ·exact hh
  ·refine Ent.keep (h.at_ e (by simp [he])) fun b hb => ?_
   have := hR b (J39.2 ⟨e, he, hb⟩)
   exact hk b this.1 this.2.1 this.2.2
 ·rw [hb1] at hnb
  simp only [List.mem_append, not_or] at hnb
  refine ⟨hk b hb hnb.1 hnb.2.1, ?_⟩
  rw [hb2]
  simp only [List.mem_append, not_or]
  refine ⟨fun hx => ?_, hnb.2.2⟩
  rcases hfp b hx with hy | hy | hy
  ·exact hnb.1 hy
  ·exact hnb.2.1 hy
  ·omega
def hup (hs : Hd) (m : Nat) (h : Option Addr × Nat) : Hd := fun k => if k = m then h else hs k
theorem J21 (hs : Hd) (m : Nat) (h : Option Addr × Nat) : hup hs m h m = h := by simp [hup]
theorem J1K (hs : Hd) {m k : Nat} (h : Option Addr × Nat) (hk : k ≠ m) : hup hs m h k = hs k := by simp [hup, hk]
theorem J16 {e : TypeId} {size : Nat} {p : Option Addr} {n c : Nat} {vs : List Value} : (Ent.row e size p n c vs).fp = pb p := by cases p <;> rfl
theorem fp_t2 : (t2 hf e e' p n c hs xss).fp = t2fp p hs xss.length := rfl
theorem J6A {hs : Hd} {p : Option Addr} {n m : Nat} (hnd : (t2fp p hs n).Nodup) (hm : m < n) {h : Option Addr × Nat} (hn : ∀ b ∈ pb h.1, ∀ k, k < n → k ≠ m → b ∉ pb (hs k).1) (ho : ∀ b ∈ pb h.1, b ∉ pb p) : (t2fp p (hup hs m h) n).Nodup := by
 obtain ⟨h1, h2, h3⟩ := List.nodup_append.1 hnd
 obtain ⟨h4, h5⟩ := List.pairwise_flatMap.1 h2
 refine List.nodup_append.2 ⟨h1, List.pairwise_flatMap.2 ⟨fun k hk => ?_, ?_⟩, fun a ha b hb hab => ?_⟩
 ·by_cases hkm : k = m
  ·subst hkm; rw [J21]; cases h.1 <;> simp [pb]
  ·rw [J1K _ _ hkm]; exact h4 k hk
 ·rw [List.pairwise_iff_getElem] at h5 ⊢
  intro i j hi hj hij x hx y hy hxy
  subst hxy
  simp only [List.length_range] at hi hj
  simp only [List.getElem_range] at hx hy
  by_cases him : i = m
  ·subst him
   rw [J21] at hx
   rw [J1K _ _ (by omega)] at hy
   exact hn x hx j hj (by omega) hy
  ·rw [J1K _ _ him] at hx
   by_cases hjm : j = m
   ·subst hjm
    rw [J21] at hy
    exact hn x hy i hi him hx
   ·rw [J1K _ _ hjm] at hy
    have := h5 i j (by simpa using hi) (by simpa using hj) hij
    simp only [List.getElem_range] at this
    exact this x hx x hy rfl
 ·subst hab
  obtain ⟨k, hk, hx⟩ := List.mem_flatMap.1 hb
  by_cases hkm : k = m
  ·subst hkm; rw [J21] at hx; exact ho a hx ha
  ·rw [J1K _ _ hkm] at hx
   exact h3 a ha a (List.mem_flatMap.2 ⟨k, hk, hx⟩) rfl
theorem t2put {R : List Ent} {p2 : Option Addr} {n2 c2 : Nat} {vs : List Value} {ys : List α} (hO : Owns n0 w (.row e' r.sz p2 n2 c2 vs :: t2 hf e e' p n c hs xss :: R) A) {A' : List Nat} (hE : Els r A' w vs ys) {i : Int} (h0 : 0 ≤ i) (h1 : i < (xss.length : Int)) :
  ∃ w', Stp n0 A w (.row e' r.sz p2 n2 c2 vs :: t2 hf e e' p n c hs xss :: R) w' (t2 hf e e' p n c (hup hs i.toNat (p2, c2)) (st xss i ys) :: R) ∧ ∀ {P : Program} {σ : Nat → Value} {t ty : TypeId} {x y : Operand} {d : TypeDesc} {zz : Option Value} {b : Nat}, P.underlying t = some d → scB d = true → ti P t = some (zz, 1, b) →
   ev σ x = .pointer (padd p (i.toNat * 1)) → ev σ y = .slice p2 n2 c2 → OpV P (.store t x y) ty σ w undef w' := by
 obtain ⟨m, rfl⟩ := Int.eq_ofNat_of_zero_le h0
 simp only [Int.toNat_natCast] at *
 have hml : m < xss.length := by omega
 have hT := t2at 1 hO rfl
 have hrow := hO.at_ _ (List.mem_cons_self)
 have hn2 := hE.n_eq hrow
 have hnd2 := J4F 1 hO rfl
 have hnd := hO.nd
 rw [show bl (.row e' r.sz p2 n2 c2 vs :: t2 hf e e' p n c hs xss :: R) = (Ent.row e' r.sz p2 n2 c2 vs).fp ++ ((t2 hf e e' p n c hs xss).fp ++ bl R) from by simp [bl], J16, fp_t2] at hnd
 obtain ⟨_, _, n3⟩ := List.nodup_append.1 hnd
 have hdis : ∀ b ∈ pb p2, b ∉ t2fp p hs xss.length := fun b hb hx => n3 b hb b (List.mem_append_left _ hx) rfl
 have hm : m < (hcells hs xss).length := by simpa using hml
 obtain ⟨g, cur, rfl, hg, hb, e1, e2, e3, e4, hc⟩ := J1s hT.out hm
 have hgo : g ∈ pb (some ⟨g, 0, none⟩ : Option Addr) := by simp [pb]
 have hfz : w.frozen? ⟨g, m, none⟩ = false := by simp [World.frozen?, hg]
 have hblk : ∀ b, b ≠ g → (w.setCell ⟨g, m, none⟩ (.slice p2 n2 c2)).heap[b]? = w.heap[b]? := fun b hb => Below.heap_setCell w ⟨g, m, none⟩ _ b (by simpa using hb)
 refine ⟨w.setCell ⟨g, m, none⟩ (.slice p2 n2 c2), Stp.two hO ⟨rfl, rfl, rfl⟩ (by simp [World.setCell]) (fun b _ _ hn => hblk b fun hbg => hn ?_) ?_ (fun b hb => ?_) ?_, fun ht hd he hx hy => ?_⟩
 ·subst hbg; exact J0c.2 (.inl hgo)
 ·rw [fp_t2, J02]
  refine J6A hnd2 hml (fun b hb k hk _ hx => hdis b hb (J0c.2 (.inr ⟨k, hk, hx⟩))) fun b hb hx => hdis b hb (J0c.2 (.inl hx))
 ·rw [fp_t2, J02] at hb
  rw [J16, fp_t2]
  rcases J0c.1 hb with hx | ⟨k, hk, hx⟩
  ·exact .inr (.inl (J0c.2 (.inl hx)))
  ·by_cases hkm : k = m
   ·subst hkm; rw [J21] at hx; exact .inl hx
   ·rw [J1K _ _ hkm] at hx; exact .inr (.inl (J0c.2 (.inr ⟨k, hk, hx⟩)))
 ·refine ⟨⟨?_, .inr ⟨g, c, cur.setIfInBounds m (.slice p2 n2 c2), rfl, hb, heap_set w g m cur e _ hg, e1, e2, by simpa using e3, ?_⟩⟩, by rw [J02]; exact hT.len, by rw [J02]; exact hT.bd, fun q hq => ?_⟩
  ·have := hT.out.1; simpa using this
  ·rw [Array.toList_setIfInBounds, List.take_set, e4]
   apply List.ext_getElem (by simp)
   intro k hk1 hk2
   have hk : k < xss.length := by simpa using hk1
   rw [List.getElem_set, J0i (hs := hup hs m (p2, c2)) (by simpa using hk)]
   unfold hcell
   by_cases hkm : m = k
   ·subst hkm
    rw [if_pos rfl, J21, ix_st _ (by omega) (by omega) (by omega), if_pos rfl, hn2]
   ·rw [if_neg hkm, J1K _ _ (by omega), ix_st _ (by omega) (by omega) (by omega), if_neg (by omega), J0i hk]
    rfl
  ·rw [J02] at hq
   rw [ix_st _ (by omega) (by omega) (by omega)]
   split
   ·rename_i hqm
    obtain rfl : q = m := by omega
    rw [J21]
    refine ⟨vs, ?_, hE.fl hf⟩
    show World.ownsRow _ n0 e' r.sz (.slice p2 ys.length c2) ys.length vs
    rw [← hn2]
    refine J2i hrow fun b hb => hblk b fun hbg => ?_
    rw [hbg] at hb
    exact hdis g hb (J0c.2 (.inl hgo))
   ·rw [J1K _ _ (by omega)]
    refine (hT.inn q hq).keep hf fun b hb => hblk b fun hbg => ?_
    rw [hbg] at hb
    exact t2outd hnd2 hq g hb hgo
 ·simp only [padd, Option.map_some, Addr.add_lit, Nat.zero_add, Nat.mul_one] at hx
  exact J3p ht hd he hx hy rfl hc hfz
theorem Owns.apart {n0 : Nat} {A : List Nat} {w : World} {E : List Ent} {e : Ent} (j : Nat) (hO : Owns n0 w E A) (hj : E[j]? = some e) : ∀ b ∈ e.fp, b ∉ bl (E.eraseIdx j) ++ A := by
 have h := hO.front j hj
 have hnd := h.nd
 rw [show bl (e :: E.eraseIdx j) = e.fp ++ bl (E.eraseIdx j) from by simp [bl]] at hnd
 intro b hb hx
 rcases List.mem_append.1 hx with hx | hx
 ·exact (List.nodup_append.1 hnd).2.2 b hb b hx rfl
 ·exact h.out b (by simp [bl, hb]) hx
theorem J6B {α : Type} {r : Rp α} {p : Option Addr} {c : Nat} {vs : List Value} {xs : List α} (h : w.ownsRow n0 e r.sz (.slice p xs.length c) xs.length vs) {A' B : List Nat} (hE : Els r A' w vs xs) (hf : Fl r) (hB : ∀ b ∈ pb p, b ∉ B) : ISl r B w p c xs := by
 refine ⟨(J20 h).1, hE.bd, fun hp => ?_, fun a ha k hk => ?_⟩
 ·subst hp
  rcases h.2 with ⟨hv, _⟩ | ⟨g, cap, cur, hv, _⟩
  ·exact (Value.slice.inj hv).2.2
  ·exact absurd (Value.slice.inj hv).1 (by simp)
 ·obtain ⟨h1, h2, h3⟩ := J40 h ha
  refine ⟨h1, h2, hB _ (by rw [ha]; simp [pb]), r.ext (fun i hi => ?_) (hf (hE.at_ k hk))⟩
  have hlt : k * r.sz + i < vs.length := by
   rw [hE.len]
   have : (k + 1) * r.sz ≤ xs.length * r.sz := Nat.mul_le_mul_right _ hk
   rw [Nat.add_mul, Nat.one_mul] at this
   omega
  exact h3 _ hlt
theorem T2.readIn (hT : T2 r e e' p n c hs xss n0 w) (hf : Fl r) {B : List Nat} (hB : ∀ b ∈ t2fp p hs xss.length, b ∉ B) {i : Int} (h0 : 0 ≤ i) (h1 : i < (xss.length : Int)) : ISl r B w (hs i.toNat).1 (hs i.toNat).2 (ix xss i) := by
 obtain ⟨m, rfl⟩ := Int.eq_ofNat_of_zero_le h0
 obtain ⟨vs, h2, h3⟩ := (hT.inn m (by omega)).ex
 exact J6B h2 h3 hf fun b hb => hB b (J0c.2 (.inr ⟨m, by omega, hb⟩))
theorem T2.read (hT : T2 r e e' p n c hs xss n0 w) (hf : Fl r) {B : List Nat} (hB : ∀ b ∈ t2fp p hs xss.length, b ∉ B) : ISl r.sl B w p c xss := by
 refine ⟨by have := (J20 hT.out).1; have := hT.len; omega, hT.bd, fun hp => ?_, fun a ha k hk => ?_⟩
 ·subst hp
  rcases hT.out.2 with ⟨hv, _⟩ | ⟨g, cap, cur, hv, _⟩
  ·exact (Value.slice.inj hv).2.2
  ·exact absurd (Value.slice.inj hv).1 (by simp)
 ·obtain ⟨h1, h2, h3⟩ := J40 hT.out ha
  refine ⟨h1, h2, hB _ (J0c.2 (.inl (by rw [ha]; simp [pb]))), (hs k).1, (hs k).2, ?_, ?_⟩
  ·have := h3 k (by simpa using hk)
   show cel w a (k * 1 + 0) = _
   rw [Nat.mul_one, Nat.add_zero, this, List.getElem?_eq_getElem (by simpa using hk), J0i hk]
   unfold hcell
   rw [ix_lt hk]
  ·have := hT.readIn hf hB (i := (k : Int)) (by omega) (by omega)
   rw [ix_lt hk] at this
   exact this
theorem t2freeze (j : Nat) (hO : Owns n0 w E A) (hj : E[j]? = some (t2 hf e e' p n c hs xss)) :
  Owns n0 w (E.eraseIdx j) A ∧ Fr (bl E) w (bl (E.eraseIdx j)) w ∧ ISl r.sl (bl (E.eraseIdx j) ++ A) w p c xss ∧ n = xss.length :=
 ⟨hO.drop j, Owns.J0W w E j, (t2at j hO hj).read hf fun b hb => hO.apart j hj b hb, (t2at j hO hj).len⟩
theorem t2lend (j : Nat) (hO : Owns n0 w E A) (hj : E[j]? = some (t2 hf e e' p n c hs xss)) : ISl r.sl (bl (E.eraseIdx j) ++ A) w p c xss := (t2at j hO hj).read hf fun b hb => hO.apart j hj b hb
theorem rowlend {α : Type} {r : Rp α} {p : Option Addr} {n c : Nat} {vs : List Value} {xs : List α} (j : Nat) (hO : Owns n0 w E A) (hj : E[j]? = some (.row e r.sz p n c vs)) (hE : Els r (bl E ++ A) w vs xs) : ISl r (bl (E.eraseIdx j) ++ A) w p c xs ∧ n = xs.length :=
 ⟨(freeze j hO hj hE).2.2.1, (freeze j hO hj hE).2.2.2⟩
end
end Sg
namespace Sg
open Go Go.RowKit
theorem Stp.front {n0 : Nat} {A : List Nat} {w : World} {E : List Ent} {e : Ent} (i : Nat) (h : Owns n0 w E A) (hi : E[i]? = some e) : Stp n0 A w E w (e :: E.eraseIdx i) := ⟨h.front i hi, frontFr w i hi⟩
theorem t2freezeA {w : World} {e e' : TypeId} {A : List Nat} {E : List Ent} {n0 : Nat} {α : Type} {r : Rp α} {hf : Fl r} {p : Option Addr} {n c : Nat} {hs : Hd} {xss : List (List α)} (j : Nat) (hO : Owns n0 w E A) (hj : E[j]? = some (t2 hf e e' p n c hs xss)) :
  Owns n0 w (E.eraseIdx j) A ∧ Ch (bl E ++ A) w (bl (E.eraseIdx j) ++ A) w ∧ ISl r.sl (bl (E.eraseIdx j) ++ A) w p c xss ∧ n = xss.length :=
 let ⟨h1, h2, h3, h4⟩ := t2freeze j hO hj
 ⟨h1, h2.ch.app A, h3, h4⟩
end Sg
namespace Sg
open Go Go.RowKit
def plcs (P : Program) : List Field → Option (List (Nat × Nat))
  | [] => some []
  | f :: l => match P.info? f.type, plcs P l with
    | some i, some r => some ((f.offset, i.size) :: r)
    | _, _ => none
theorem J5o {P : Program} (w : World) : ∀ (l : List Field) (r : List (Nat × Nat)), plcs P l = some r → (l.mapM fun f => (do pure (f.offset, ← Go.sizeOf f.type) : Sem (Nat × Nat))).run P w = .ok r w
  | [], r, h => by simp only [plcs, Option.some.injEq] at h; subst h; rfl
  | f :: l, r, h => by
    simp only [plcs] at h
    cases hi : P.info? f.type with
    | none => simp [hi] at h
    | some i =>
      cases hr : plcs P l with
      | none => simp [hi, hr] at h
      | some r' =>
        simp only [hi, hr, Option.some.injEq] at h
        subst h
        have ih := J5o w l r' hr
        simp [List.mapM_cons, Go.sizeOf, typeInfo, hi] at ih ⊢
        simp [ih]
theorem J3k {P : Program} {σ : Nat → Value} {t ty : TypeId} {fs : Array Field} {zv : Value} {s b : Nat} {pl : List (Nat × Nat)} {parts : List (Nat × Operand)} {vs : List (Nat × Value)} {cs : Array Value} (ht : P.underlying t = some (.struct fs)) (he : ti P t = some (some zv, s, b))
  (hpl : plcs P fs.toList = some pl) (hp : parts.map (fun p => (p.1, ev σ p.2)) = vs) (hf : Instr.fill (pl.toArray[·]?) zv.cells vs = some cs) (w : World) : OpV P (.build t parts.toArray) ty σ w (.agg cs) w := .inl (by
 subst hp
 have h1 := J5o (P := P) w fs.toList pl hpl
 have h2 : (fs.mapM fun f => (do pure (f.offset, ← Go.sizeOf f.type) : Sem (Nat × Nat))).run P w = .ok pl.toArray w := by
  rw [Array.mapM_eq_mapM_toList]
  simp at h1 ⊢
  simp [h1]
 simp only [execOp, opr, Instr.build, Sem.run_bind, J1M he, Result.andThen_ok, run_underlying ht, h2]
 simp at hf ⊢
 simp [hf])
end Sg
