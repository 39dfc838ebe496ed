/- -/
import Derived.Test.YtbmaaecppfdjfaaGreatDoorVb
namespace Sg
open Go Go.RowKit Go.Proofs
set_option linter.unusedVariables false
set_option linter.unusedSimpArgs false
set_option maxRecDepth 100000
theorem zr1 {α : Type} {r : Rp α} {z : Value} {d : α} (h : ∀ (A : List Nat) (w : World), r.R A w (fun i => z.cells[i]?) d := by first | exact fun _ _ => rfl | exact fun _ _ => ⟨rfl, Nat.zero_le _⟩ | exact fun _ _ => ⟨none, 0, rfl, ISl.null _ _ _⟩) : ∀ (A : List Nat) (w : World), r.R A w (fun i => z.cells[i]?) d := h
theorem nN {n : Int} {N : Nat} (h : n.toNat = N := by first | (with_reducible exact Int.toNat_natCast _) | ((dsimp only [Int.reduceToNat]) <;> exact rfl) | exact rfl) : n.toNat = N := h
theorem set1 {E E' : List Ent} {j : Nat} {e : Ent} (h : E.set j e = E' := by (dsimp only [sS, sZ]) <;> exact rfl) : E.set j e = E' := h
theorem era1 {E E' : List Ent} {j : Nat} (h : E.eraseIdx j = E' := by (dsimp only [eS, eZ]) <;> exact rfl) : E.eraseIdx j = E' := h
theorem lenE {n m : Nat} (h : n = m := by first | exact rfl | assumption) : n = m := h
theorem whv {σ : Nat → Value} {x : Operand} {v : Value} (h : ev σ x = v := by (conv => lhs; whnf) <;> exact rfl) : ev σ x = v := h
structure POp (op : Op) (ty : TypeId) (σ : Nat → Value) (v : Value) : Prop where
 h : ∀ w, OpV Tryz.prog op ty σ w v w
section
variable {σ : Nat → Value} {t t' ty e : TypeId} {x y z : Operand} {k k' : IntKind} {v : Value}
theorem xmove (hx : ev σ x = v := by exact whv) : POp (.move x) ty σ v := ⟨J02 hx⟩
theorem xassign (hx : ev σ x = v := by exact whv) : POp (.assign x) ty σ v := ⟨J03 hx⟩
theorem xpick {b : Bool} (hc : ev σ z = .bool b := by exact rfl) (hx : Bool.casesOn (motive := fun _ => Value) b (ev σ y) (ev σ x) = v := by (conv => lhs; whnf) <;> exact rfl) : POp (.pick z x y) ty σ v := by
 cases b with
 | true => exact ⟨J4q hc rfl hx⟩
 | false => exact ⟨J6b hc rfl hx⟩
theorem xnil {a : Addr} (hx : ev σ x = .pointer (some a) := by exact rfl) : POp (.nilCheck x) ty σ (.pointer (some a)) := ⟨JeS hx⟩
theorem xfa {fs : Array Field} {fl : Field} {b o i s o2 t2 : Nat} {zz : Option Value} {bb : Nat} (ht : UN t (.struct fs) := by exact und) (hf : fs[i]? = some fl := by exact rfl) (h2 : fl.type = t2 := by (conv => lhs; whnf) <;> exact rfl) (he : TI t2 zz s bb := by exact tin) (hx : ev σ x = .pointer (some ⟨b, o, none⟩) := by exact rfl) (hs : s ≠ 0 := by decide) (ho : o + fl.offset = o2 := by (conv => lhs; whnf) <;> exact rfl) :
  POp (.fieldAddr t x i) ty σ (.pointer (some ⟨b, o2, none⟩)) := ho ▸ ⟨Je0 ht.h hf (h2 ▸ he.h) hx hs⟩
theorem xext {vs : Array Value} {i : Nat} (hx : ev σ x = .tuple vs := by exact rfl) (hv : vs.getD i undef = v := by (conv => lhs; whnf) <;> exact rfl) (hi : Nat.blt i vs.size = true := by exact rfl) : POp (.extract x i) ty σ v := by
 have hl : i < vs.size := by simpa [Nat.blt_eq] using hi
 exact ⟨JfM hx (by subst hv; simp [Array.getElem?_eq_getElem hl, hl])⟩
theorem xnot {b : Bool} (hx : ev σ x = .bool b := by exact rfl) (hv : Value.bool (Bool.casesOn (motive := fun _ => Bool) b true false) = v := by (conv => lhs; arg 1; whnf) <;> exact rfl) : POp (.unOp .not t x) ty σ v := by
 subst hv
 cases b <;> exact ⟨J1p hx⟩
end
theorem pop {op : Op} {ty : TypeId} {σ : Nat → Value} {v : Value} (h : POp op ty σ v := by first
 | ((guard_target = POp (.move _) _ _ _); exact xmove)
 | ((guard_target = POp (.assign _) _ _ _); exact xassign)
 | ((guard_target = POp (.fieldAddr _ _ _) _ _ _); exact xfa)
 | ((guard_target = POp (.nilCheck _) _ _ _); exact xnil)
 | ((guard_target = POp (.pick _ _ _) _ _ _); exact xpick)
 | ((guard_target = POp (.extract _ _) _ _ _); exact xext)
 | ((guard_target = POp (.unOp .not _ _) _ _ _); exact xnot)) : ∀ w, OpV Tryz.prog op ty σ w v w := h.h
inductive Mb (b : Nat) (cs : Array Value) (T : TypeId) : List Ent → Prop
 | hd {E : List Ent} : Mb b cs T (.blk b (.cells cs T (0, 0)) :: E)
 | tl {e : Ent} {E : List Ent} (h : Mb b cs T E) : Mb b cs T (e :: E)
theorem Mb.mem {b : Nat} {cs : Array Value} {T : TypeId} {E : List Ent} (h : Mb b cs T E) : .blk b (.cells cs T (0, 0)) ∈ E := by
 induction h with
 | hd => exact List.mem_cons_self
 | tl _ ih => exact List.mem_cons_of_mem _ ih
theorem mbx {b : Nat} {cs : Array Value} {T : TypeId} {E : List Ent} (h : Mb b cs T E := by repeat (first | (with_reducible exact Mb.hd) | (with_reducible apply Mb.tl))) : Mb b cs T E := h
structure SOp (op : Op) (ty : TypeId) (σ : Nat → Value) (w : World) (v : Value) : Prop where
 h : ∀ w', Same w w' → OpV Tryz.prog op ty σ w' v w'
def nbV : Value → Bool
 | .bool _ => false
 | _ => true
theorem xbl {n0 : Nat} {w : World} {A : List Nat} {E : List Ent} {b q : Nat} {cs : Array Value} {T : TypeId} {v : Value} {t ty : TypeId} {x : Operand} {σ : Nat → Value} (hx : ev σ x = .pointer (some ⟨b, q, none⟩) := by exact rfl) (hO : Owns n0 w E A := by assumption) (hm : Mb b cs T E := by exact mbx) (hv : cs.getD q undef = v := by (conv => lhs; whnf) <;> exact rfl)
  (hnb : nbV v = true := by exact rfl) (hq : Nat.blt q cs.size = true := by exact rfl) {dd : TypeDesc} (ht : UN t dd := by exact und) (hd : scB dd = true := by exact rfl) : SOp (.load t x) ty σ w v := ⟨fun w' hw => by
 obtain ⟨j, hj⟩ := List.getElem?_of_mem hm.mem
 have hl : q < cs.size := by simpa [Nat.blt_eq] using hq
 exact oblk j hO hj (by subst hv; simp [Array.getElem?_eq_getElem hl, hl]) ht.h hd hx w' hw⟩
theorem sop {op : Op} {ty : TypeId} {σ : Nat → Value} {w : World} {v : Value} (h : SOp op ty σ w v := by ((guard_target = SOp (.load _ _) _ _ _ _); exact xbl)) : ∀ w', Same w w' → OpV Tryz.prog op ty σ w' v w' := h.h
structure Wr (Q : Prop) : Prop where
 h : Q
section
variable {op : Op} {ty : TypeId} {σ : Nat → Value} {w w' : World} {E E' : List Ent} {A : List Nat} {n0 : Nat} {Goal : Prop} {Gv : Value → Prop} {Gw : Value → World → Prop}
theorem gp (h : (∀ v, (∀ w, OpV Tryz.prog op ty σ w v w) → Gv v → Goal) := by
 intro _ hv h
 replace hv := Wr.mk hv
 replace h := Wr.mk h
 repeat (first
  | ((guard_target = GoR _ _ _ _ _ _ _ _ _); first | refine zn ?_ | refine zp ?_ | refine zo pop ?_ | refine zs sop ?_)
  | ((guard_target = Go1 _ _ _ _ _ _ _); first | refine zq ?_ | refine zr ?_ | refine zt rfl rfl ?_ | refine zf rfl rfl ?_ | refine zk ?_ | refine zb ?_ | refine Go1.inBlock ?_ | refine Go1.exit rfl ?_ | refine Go1.label ?_)
  | ((guard_target = GoQ _ _ _ _ _ _ _ ((_, .pure) :: _) _ _); first | refine GoQ.pass rfl rfl rfl ?_ | refine GoQ.pure rfl pop rfl rfl ?_)
  | ((guard_target = GoQ _ _ _ _ _ _ _ ((_, .stable) :: _) _ _); first | refine GoQ.pass rfl rfl rfl ?_ | refine GoQ.stable rfl sop rfl rfl ?_)
  | ((guard_target = GoQ _ _ _ _ _ _ _ _ _ _); first | refine GoQ.nil ?_ | refine GoQ.pass rfl rfl rfl ?_)
  | ((guard_target = GoT _ _ _ _ _ _ _ _ (.qp _ _) _ _); first | refine (GoT.pass rfl rfl rfl ?_).1 | refine GoT.pure rfl pop rfl rfl ?_)
  | ((guard_target = GoT _ _ _ _ _ _ _ _ (.qs _ _) _ _); refine (GoT.pass rfl rfl rfl ?_).2.1)
  | ((guard_target = GoT _ _ _ _ _ _ _ _ _ _ _); refine GoT.nil ?_)
  | ((guard_target = GoQA _ _ _ _ _ _ _ _ _ ((_, .pure) :: _) _ _ _); refine GoQA.pure rfl pop rfl rfl ?_))
 first
 | ((guard_target = GoR _ _ _ _ _ _ _ _ _); exact zo hv.h h.h)
 | ((guard_target = GoQ _ _ _ _ _ _ _ _ _ _); exact GoQ.pure rfl hv.h rfl rfl h.h)
 | ((guard_target = GoT _ _ _ _ _ _ _ _ _ _ _); first | exact GoT.pure rfl hv.h rfl rfl h.h | exact GoT.step rfl (hv.h _) (Same.refl _) rfl rfl h.h | exact GoT.step rfl (hv.h _) (CSv.same (Same.refl _)) rfl rfl h.h)
 | ((guard_target = GoQA _ _ _ _ _ _ _ _ _ _ _ _ _); exact GoQA.pure rfl hv.h rfl rfl h.h)
 | ((guard_target = GoQR _ _ _ _ _ _ _ _ _ _ _); exact GoQR.pure rfl hv.h rfl rfl h.h)) : ∀ v, (∀ w, OpV Tryz.prog op ty σ w v w) → Gv v → Goal := h
theorem gs (h : (∀ v, (∀ w', Same w w' → OpV Tryz.prog op ty σ w' v w') → Gv v → Goal) := by
 intro _ hv h
 replace hv := Wr.mk hv
 replace h := Wr.mk h
 repeat (first
  | ((guard_target = GoR _ _ _ _ _ _ _ _ _); first | refine zn ?_ | refine zp ?_ | refine zo pop ?_ | refine zs sop ?_)
  | ((guard_target = Go1 _ _ _ _ _ _ _); first | refine zq ?_ | refine zr ?_ | refine zt rfl rfl ?_ | refine zf rfl rfl ?_ | refine zk ?_ | refine zb ?_ | refine Go1.inBlock ?_ | refine Go1.exit rfl ?_ | refine Go1.label ?_)
  | ((guard_target = GoQ _ _ _ _ _ _ _ ((_, .pure) :: _) _ _); first | refine GoQ.pass rfl rfl rfl ?_ | refine GoQ.pure rfl pop rfl rfl ?_)
  | ((guard_target = GoQ _ _ _ _ _ _ _ ((_, .stable) :: _) _ _); first | refine GoQ.pass rfl rfl rfl ?_ | refine GoQ.stable rfl sop rfl rfl ?_)
  | ((guard_target = GoQ _ _ _ _ _ _ _ _ _ _); first | refine GoQ.nil ?_ | refine GoQ.pass rfl rfl rfl ?_)
  | ((guard_target = GoT _ _ _ _ _ _ _ _ (.qp _ _) _ _); first | refine (GoT.pass rfl rfl rfl ?_).1 | refine GoT.pure rfl pop rfl rfl ?_)
  | ((guard_target = GoT _ _ _ _ _ _ _ _ (.qs _ _) _ _); refine (GoT.pass rfl rfl rfl ?_).2.1)
  | ((guard_target = GoT _ _ _ _ _ _ _ _ _ _ _); refine GoT.nil ?_)
  | ((guard_target = GoQA _ _ _ _ _ _ _ _ _ ((_, .pure) :: _) _ _ _); refine GoQA.pure rfl pop rfl rfl ?_))
 first
 | ((guard_target = GoR _ _ _ _ _ _ _ _ _); exact zs hv.h h.h)
 | ((guard_target = GoQ _ _ _ _ _ _ _ _ _ _); first | exact GoQ.stable rfl hv.h rfl rfl h.h | exact GoQ.last rfl (hv.h _ (Same.refl _)) rfl rfl h.h)
 | ((guard_target = GoT _ _ _ _ _ _ _ _ _ _ _); first | exact GoT.stable rfl hv.h rfl rfl h.h | exact GoT.step rfl (hv.h _ (Same.refl _)) (Same.refl _) rfl rfl h.h | exact GoT.step rfl (hv.h _ (Same.refl _)) (CSv.same (Same.refl _)) rfl rfl h.h)
 | ((guard_target = GoQA _ _ _ _ _ _ _ _ _ _ _ _ _); exact GoQA.stable rfl hv.h rfl rfl h.h)) : ∀ v, (∀ w', Same w w' → OpV Tryz.prog op ty σ w' v w') → Gv v → Goal := h
theorem gw (h : (∀ v w' E', OpV Tryz.prog op ty σ w v w' → Stp n0 A w E w' E' → Gw v w' → Goal) := by
 intro _ _ _ hv hst h
 replace hv := Wr.mk hv
 replace h := Wr.mk h
 repeat (first
  | ((guard_target = GoR _ _ _ _ _ _ _ _ _); first | refine zn ?_ | refine zp ?_ | refine zo pop ?_ | refine zs sop ?_)
  | ((guard_target = Go1 _ _ _ _ _ _ _); first | refine zq ?_ | refine zr ?_ | refine zt rfl rfl ?_ | refine zf rfl rfl ?_ | refine zk ?_ | refine zb ?_ | refine Go1.inBlock ?_ | refine Go1.exit rfl ?_ | refine Go1.label ?_)
  | ((guard_target = GoQ _ _ _ _ _ _ _ ((_, .pure) :: _) _ _); first | refine GoQ.pass rfl rfl rfl ?_ | refine GoQ.pure rfl pop rfl rfl ?_)
  | ((guard_target = GoQ _ _ _ _ _ _ _ ((_, .stable) :: _) _ _); first | refine GoQ.pass rfl rfl rfl ?_ | refine GoQ.stable rfl sop rfl rfl ?_)
  | ((guard_target = GoQ _ _ _ _ _ _ _ _ _ _); first | refine GoQ.nil ?_ | refine GoQ.pass rfl rfl rfl ?_)
  | ((guard_target = GoT _ _ _ _ _ _ _ _ (.qp _ _) _ _); first | refine (GoT.pass rfl rfl rfl ?_).1 | refine GoT.pure rfl pop rfl rfl ?_)
  | ((guard_target = GoT _ _ _ _ _ _ _ _ (.qs _ _) _ _); refine (GoT.pass rfl rfl rfl ?_).2.1)
  | ((guard_target = GoT _ _ _ _ _ _ _ _ _ _ _); refine GoT.nil ?_)
  | ((guard_target = GoQA _ _ _ _ _ _ _ _ _ ((_, .pure) :: _) _ _ _); refine GoQA.pure rfl pop rfl rfl ?_))
 first
 | ((guard_target = GoR _ _ _ _ _ _ _ _ _); exact zg hv.h h.h)
 | ((guard_target = GoQ _ _ _ _ _ _ _ _ _ _); exact GoQ.last rfl hv.h rfl rfl h.h)
 | ((guard_target = GoT _ _ _ _ _ _ _ _ _ _ _); exact GoT.stepX rfl hv.h rfl rfl rfl h.h)
 | ((guard_target = GoAt _ _ _ _ _ _ _ _ _ _ _ _ _ _ _); exact GoAt.step hv.h (fun h => nomatch h) (Stp.kp (by assumption) hst) rfl h.h)) : ∀ v w' E', OpV Tryz.prog op ty σ w v w' → Stp n0 A w E w' E' → Gw v w' → Goal := h
theorem gl (h : (∀ v w' E', OpV Tryz.prog op ty σ w v w' → Same w w' → Stp n0 A w E w' E' → Gw v w' → Goal) := by
 intro _ _ _ hv hs hst h
 replace hv := Wr.mk hv
 replace h := Wr.mk h
 repeat (first
  | ((guard_target = GoR _ _ _ _ _ _ _ _ _); first | refine zn ?_ | refine zp ?_ | refine zo pop ?_ | refine zs sop ?_)
  | ((guard_target = Go1 _ _ _ _ _ _ _); first | refine zq ?_ | refine zr ?_ | refine zt rfl rfl ?_ | refine zf rfl rfl ?_ | refine zk ?_ | refine zb ?_ | refine Go1.inBlock ?_ | refine Go1.exit rfl ?_ | refine Go1.label ?_)
  | ((guard_target = GoQ _ _ _ _ _ _ _ ((_, .pure) :: _) _ _); first | refine GoQ.pass rfl rfl rfl ?_ | refine GoQ.pure rfl pop rfl rfl ?_)
  | ((guard_target = GoQ _ _ _ _ _ _ _ ((_, .stable) :: _) _ _); first | refine GoQ.pass rfl rfl rfl ?_ | refine GoQ.stable rfl sop rfl rfl ?_)
  | ((guard_target = GoQ _ _ _ _ _ _ _ _ _ _); first | refine GoQ.nil ?_ | refine GoQ.pass rfl rfl rfl ?_)
  | ((guard_target = GoT _ _ _ _ _ _ _ _ (.qp _ _) _ _); first | refine (GoT.pass rfl rfl rfl ?_).1 | refine GoT.pure rfl pop rfl rfl ?_)
  | ((guard_target = GoT _ _ _ _ _ _ _ _ (.qs _ _) _ _); refine (GoT.pass rfl rfl rfl ?_).2.1)
  | ((guard_target = GoT _ _ _ _ _ _ _ _ _ _ _); refine GoT.nil ?_)
  | ((guard_target = GoQA _ _ _ _ _ _ _ _ _ ((_, .pure) :: _) _ _ _); refine GoQA.pure rfl pop rfl rfl ?_))
 first
 | ((guard_target = GoR _ _ _ _ _ _ _ _ _); exact zg hv.h h.h)
 | ((guard_target = GoQ _ _ _ _ _ _ _ _ _ _); first | exact GoQ.loud rfl hv.h hs rfl rfl h.h | exact GoQ.last rfl hv.h rfl rfl h.h)
 | ((guard_target = GoT _ _ _ _ _ _ _ _ _ _ _); exact GoT.step rfl hv.h hs rfl rfl h.h)
 | ((guard_target = GoAt _ _ _ _ _ _ _ _ _ _ _ _ _ _ _); first | exact GoAt.step hv.h (fun _ => hs) (Stp.kp (by assumption) hst) rfl h.h | exact GoAt.step hv.h (fun h => nomatch h) (Stp.kp (by assumption) hst) rfl h.h)) : ∀ v w' E', OpV Tryz.prog op ty σ w v w' → Same w w' → Stp n0 A w E w' E' → Gw v w' → Goal := h
end
section
variable {op : Op} {ty t t' e : TypeId} {x y z : Operand} {ts : Array TypeId} {σ σ2 : Nat → Value} {w w' : World} {E E' : List Ent} {A : List Nat} {n0 : Nat} {Goal : Prop} {Gv Gv1 : Value → Prop} {Gw : Value → World → Prop}
variable {α : Type} {r : Rp α} {hf : Fl r} {p : Option Addr} {n c : Nat} {xs : List α}
theorem snil {G : Prop} (hf : Fl r) (e : TypeId) (hO : Owns n0 w E A) (h : Sq A w E A w (t1 hf e none 0 0 [] :: E) → Owns n0 w (t1 hf e none 0 0 [] :: E) A → G) : G :=
 have hs := t1new (hf := hf) (Stp.nil (e := e) (r := r.sz) hO) (Els.nil r [] w)
 h hs.q hs.own
theorem smk {zv : Value} {dv : α} {by_ N : Nat} {m : Int} {q : Prop} (hf : Fl r) (H : 0 ≤ m ∧ m ≤ 1099511627776 ∧ q) (hO : Owns n0 w E A)
  (h : ∀ w' p, Sq A w E A w' (t1 hf e p N N (List.replicate N dv) :: E) → Owns n0 w' (t1 hf e p N N (List.replicate N dv) :: E) A → Gw (.slice p N N) w')
  (g : ∀ v w' E', OpV Tryz.prog (.makeSlice t x y) ty σ w v w' → Same w w' → Stp n0 A w E w' E' → Gw v w' → Goal := by exact gl)
  (ht : UN t (.slice e) := by exact und) (hx : ev σ x = .int .i64 m := by exact rfl) (he : TI e (some zv) r.sz by_ := by exact tin) (hz : ∀ (A : List Nat) (w : World), r.R A w (fun i => zv.cells[i]?) dv := by exact zr1) (hN : m.toNat = N := by exact nN)
  (hzs : zv.cells.size = r.sz := by exact rfl) (hy : ev σ y = .int .i64 m := by exact rfl) (hby : by_ ≤ 128 := by decide) : Goal := by
 subst hN
 obtain ⟨w', p, vs, hs, hE, hsm, hop⟩ := omake ht.h he.h hz hzs hO H.1 H.2.1 hby
 have h2 := t1new (hf := hf) hs hE
 exact g _ _ _ (hop hx hy) hsm h2 (h w' p h2.q h2.own)
theorem sap {zv : Value} {by_ : Nat} {E1 : Option Addr → Nat → List Ent} {q : Option Addr} {m d : Nat} {ys : List α} {qq : Prop} (j : Nat) (hO : Owns n0 w E A) (hs : ISl r (bl E ++ A) w q d ys) (H : xs.length + ys.length ≤ 1099511627776 ∧ qq)
  (h : ∀ w' p' c', Sq A w E A w' (E1 p' c') → Owns n0 w' (E1 p' c') A → Gw (.slice p' (n + m) c') w')
  (g : ∀ v w' E', OpV Tryz.prog (.call { callee := .builtin .append, args := #[x, y], argTypes := #[t, t] }) ty σ w v w' → Stp n0 A w E w' E' → Gw v w' → Goal := by exact gw)
  (hj : E[j]? = some (t1 hf e p n c xs) := by exact rfl) (hx : ev σ x = .slice p n c := by exact rfl) (hy : ev σ y = .slice q m d := by exact rfl) (hm : m = ys.length := by exact lenE) (hE1 : ∀ p' c', E.set j (t1 hf e p' (n + m) c' (xs ++ ys)) = E1 p' c' := by intro _ _; exact set1)
  (ht : UN t (.slice e) := by exact und) (he : TI e (some zv) r.sz by_ := by exact tin) (hzs : zv.cells.size = r.sz := by exact rfl) (hby : by_ ≤ 128 := by decide) : Goal := by
 obtain ⟨vs, hO1, hb, hj1, hE⟩ := t1row j hO hj
 obtain ⟨w', p', c', vs', hst, hE', hop⟩ := oapp ht.h he.h hzs j hO1 hj1 (hE _ _) (by rw [hb]; exact hs) hm H.1 hby
 have h2 := t1st (hf := hf) hj hst hE'
 rw [hE1] at h2
 exact g _ _ _ (hop hx hy) h2 (h w' p' c' h2.q h2.own)
theorem sapQ {zv : Value} {by_ : Nat} {E1 : Option Addr → Nat → List Ent} {q : Option Addr} {m d : Nat} {ys : List α} {qq : Prop} (j : Nat) (hO : Owns n0 w E A) (hs : ISl r (bl E ++ A) w q d ys) (H : xs.length + ys.length ≤ 1099511627776 ∧ qq)
  (h : ∀ w' p' c', Sq A w E A w' (E1 p' c') → Owns n0 w' (E1 p' c') A → Gw (.slice p' (n + m) c') w')
  (g : ∀ v w' p' c', OpV Tryz.prog (.call { callee := .builtin .append, args := #[x, y], argTypes := #[t, t] }) ty σ w v w' → Stp n0 A w E w' (E.set j (t1 hf e p' (n + m) c' (xs ++ ys))) → Gw v w' → Goal)
  (hj : E[j]? = some (t1 hf e p n c xs) := by exact rfl) (hx : ev σ x = .slice p n c := by exact rfl) (hy : ev σ y = .slice q m d := by exact rfl) (hm : m = ys.length := by exact lenE) (hE1 : ∀ p' c', E.set j (t1 hf e p' (n + m) c' (xs ++ ys)) = E1 p' c' := by intro _ _; exact set1)
  (ht : UN t (.slice e) := by exact und) (he : TI e (some zv) r.sz by_ := by exact tin) (hzs : zv.cells.size = r.sz := by exact rfl) (hby : by_ ≤ 128 := by decide) : Goal := by
 obtain ⟨vs, hO1, hb, hj1, hE⟩ := t1row j hO hj
 obtain ⟨w', p', c', vs', hst, hE', hop⟩ := oapp ht.h he.h hzs j hO1 hj1 (hE _ _) (by rw [hb]; exact hs) hm H.1 hby
 have h2 := t1st (hf := hf) hj hst hE'
 have h3 := h2
 rw [hE1] at h3
 exact g _ _ p' c' (hop hx hy) h2 (h w' p' c' h3.q h3.own)
theorem sst [Inhabited α] {v : Value} {u : α} {E1 : List Ent} {i : Int} (j : Nat) (hO : Owns n0 w E A) (h0 : 0 ≤ i) (h1 : i < (xs.length : Int))
  (h : ∀ w', Sq A w E A w' E1 → Owns n0 w' E1 A → Gw undef w')
  (g : ∀ v w' E', OpV Tryz.prog (.store t x y) ty σ w v w' → Stp n0 A w E w' E' → Gw v w' → Goal := by exact gw)
  (hy : ev σ y = v := by exact whv) (hj : E[j]? = some (t1 hf e p n c xs) := by exact rfl) (hR : ∀ (A : List Nat) (w : World), r.R A w (fun _ => some v) u := by first | exact fun _ _ => rfl | exact fun _ _ => ⟨rfl, by assumption⟩) (hx : ev σ x = .pointer (padd p (i.toNat * 1)) := by exact rfl) (hE1 : E.set j (t1 hf e p n c (st xs i u)) = E1 := by exact set1)
  {dd : TypeDesc} (ht : UN t dd := by exact und) {zz : Option Value} {bb : Nat} (he : TI t zz 1 bb := by exact tin) (hd : scB dd = true := by exact rfl) (hv : v.oneCell' = true := by exact rfl) (r1 : r.sz = 1 := by exact rfl) : Goal := by
 obtain ⟨vs, hO1, hb, hj1, hE⟩ := t1row j hO hj
 obtain ⟨w', vs', hst, hE', hop⟩ := ost r1 j hO1 (by rw [hj1, r1]) (hE _ _) h0 h1 hv (hR _ _)
 rw [show (Ent.row e 1 p n c vs') = .row e r.sz p n c vs' by rw [r1]] at hst hE'
 have h2 := t1st (hf := hf) hj hst hE'
 rw [hE1] at h2
 exact g _ _ _ (hop ht.h hd he.h hx hy) h2 (h w' h2.q h2.own)
theorem six {k : IntKind} {s b : Nat} {zz : Option Value} {i : Int} {w1 : World} {B : List Nat} (hs : ISl r B w1 p c xs) (h0 : 0 ≤ i) (h1 : i < (xs.length : Int)) (h : Gv (.pointer (padd p (i.toNat * s))))
  (g : ∀ v, (∀ w, OpV Tryz.prog (.indexAddr t x y) ty σ w v w) → Gv v → Goal := by exact gp)
  (ht : UN t (.slice e) := by exact und) (he : TI e zz s b := by exact tin) (hx : ev σ x = .slice p n c := by exact rfl) (hy : ev σ y = .int k i := by exact rfl) (hn : n = xs.length := by exact lenE) : Goal :=
 g _ (fun w => J01 ht.h he.h hx hy h0 (ltn hn h1) (hs.some_ h0 h1) w) h
theorem six1 {k : IntKind} {s b : Nat} {zz : Option Value} {i : Int} (j : Nat) (hO : Owns n0 w E A) (h0 : 0 ≤ i) (h1 : i < (xs.length : Int)) (h : Gv (.pointer (padd p (i.toNat * s))))
  (g : ∀ v, (∀ w, OpV Tryz.prog (.indexAddr t x y) ty σ w v w) → Gv v → Goal := by exact gp)
  (ht : UN t (.slice e) := by exact und) (he : TI e zz s b := by exact tin) (hx : ev σ x = .slice p n c := by exact rfl) (hy : ev σ y = .int k i := by exact rfl) (hj : E[j]? = some (t1 hf e p n c xs) := by exact rfl) : Goal :=
 g _ (fun w => J01 ht.h he.h hx hy h0 (ltn (t1n j hO hj) h1) (t1some j hO hj h0 h1) w) h
theorem rd {r : Rp α} {B : List Nat} {w : World} {u : α} {v : Value} (h : ∀ cs, r.R B w cs u → cs 0 = some v := by first | exact fun _ h => h | exact fun _ h => h.1) : ∀ cs, r.R B w cs u → cs 0 = some v := h
theorem sld [Inhabited α] {v : Value} {i : Int} (hO : Owns n0 w E A) (hs : ISl r (bl E ++ A) w p c xs) (h0 : 0 ≤ i) (h1 : i < (xs.length : Int)) (h : Gv v)
  (g : ∀ v, (∀ w', Same w w' → OpV Tryz.prog (.load t x) ty σ w' v w') → Gv v → Goal := by exact gs)
  (hr : ∀ cs, r.R (bl E ++ A) w cs (ix xs i) → cs 0 = some v := by exact rd) {dd : TypeDesc} (ht : UN t dd := by exact und) (hd : scB dd = true := by exact rfl) (hx : ev σ x = .pointer (padd p (i.toNat * r.sz)) := by exact rfl) : Goal :=
 g _ (fun w' hw => ld1 hs h0 h1 hr ht.h hd hx w' hw) h
theorem sld1 [Inhabited α] {v : Value} {i : Int} (j : Nat) (hO : Owns n0 w E A) (h0 : 0 ≤ i) (h1 : i < (xs.length : Int)) (h : Gv v)
  (g : ∀ v, (∀ w', Same w w' → OpV Tryz.prog (.load t x) ty σ w' v w') → Gv v → Goal := by exact gs)
  (hj : E[j]? = some (t1 hf e p n c xs) := by exact rfl) (hr : ∀ cs, r.R (bl E ++ A) w cs (ix xs i) → cs 0 = some v := by exact rd) {dd : TypeDesc} (ht : UN t dd := by exact und) (hd : scB dd = true := by exact rfl) (hx : ev σ x = .pointer (padd p (i.toNat * r.sz)) := by exact rfl) : Goal := by
 obtain ⟨vs, hO1, hb, hj1, hE⟩ := t1row j hO hj
 exact g _ (fun w' hw => old1 j hO1 hj1 (hE _ _) h0 h1 (by rw [hb]; exact hr) ht.h hd hx w' hw) h
theorem sxl [Inhabited α] {k : IntKind} {b : Nat} {zz : Option Value} {v : Value} {i : Int} (hO : Owns n0 w E A) (hs : ISl r (bl E ++ A) w p c xs) (h0 : 0 ≤ i) (h1 : i < (xs.length : Int)) (h : Gv v)
  {ty2 : TypeId} {x2 : Operand} {t2 : TypeId}
  (g1 : ∀ v, (∀ w, OpV Tryz.prog (.indexAddr t x y) ty σ w v w) → Gv1 v → Goal := by exact gp)
  (ht : UN t (.slice e) := by exact und) (he : TI e zz r.sz b := by exact tin) (hx : ev σ x = .slice p n c := by exact rfl) (hy : ev σ y = .int k i := by exact rfl) (hn : n = xs.length := by exact lenE)
  (g2 : ∀ v, (∀ w', Same w w' → OpV Tryz.prog (.load t2 x2) ty2 σ2 w' v w') → Gv v → Gv1 (.pointer (padd p (i.toNat * r.sz))) := by exact gs)
  (hr : ∀ cs, r.R (bl E ++ A) w cs (ix xs i) → cs 0 = some v := by exact rd) {dd : TypeDesc} (ht2 : UN t2 dd := by exact und) (hd : scB dd = true := by exact rfl) (hx2 : ev σ2 x2 = .pointer (padd p (i.toNat * r.sz)) := by exact rfl) : Goal :=
 g1 _ (fun w => J01 ht.h he.h hx hy h0 (ltn hn h1) (hs.some_ h0 h1) w) (g2 _ (fun w' hw => ld1 hs h0 h1 hr ht2.h hd hx2 w' hw) h)
theorem sxl1 [Inhabited α] {k : IntKind} {b : Nat} {zz : Option Value} {v : Value} {i : Int} (j : Nat) (hO : Owns n0 w E A) (h0 : 0 ≤ i) (h1 : i < (xs.length : Int)) (h : Gv v)
  {ty2 : TypeId} {x2 : Operand} {t2 : TypeId}
  (g1 : ∀ v, (∀ w, OpV Tryz.prog (.indexAddr t x y) ty σ w v w) → Gv1 v → Goal := by exact gp)
  (hj : E[j]? = some (t1 hf e p n c xs) := by exact rfl) (ht : UN t (.slice e) := by exact und) (he : TI e zz r.sz b := by exact tin) (hx : ev σ x = .slice p n c := by exact rfl) (hy : ev σ y = .int k i := by exact rfl)
  (g2 : ∀ v, (∀ w', Same w w' → OpV Tryz.prog (.load t2 x2) ty2 σ2 w' v w') → Gv v → Gv1 (.pointer (padd p (i.toNat * r.sz))) := by exact gs)
  (hr : ∀ cs, r.R (bl E ++ A) w cs (ix xs i) → cs 0 = some v := by exact rd) {dd : TypeDesc} (ht2 : UN t2 dd := by exact und) (hd : scB dd = true := by exact rfl) (hx2 : ev σ2 x2 = .pointer (padd p (i.toNat * r.sz)) := by exact rfl) : Goal := by
 obtain ⟨vs, hO1, hb, hj1, hE⟩ := t1row j hO hj
 exact g1 _ (fun w => J01 ht.h he.h hx hy h0 (ltn (t1n j hO hj) h1) (t1some j hO hj h0 h1) w) (g2 _ (fun w' hw => old1 j hO1 hj1 (hE _ _) h0 h1 (by rw [hb]; exact hr) ht2.h hd hx2 w' hw) h)
structure CmT (q : Prop) (op : Op) (ty : TypeId) (σ : Nat → Value) (b : Bool) : Prop where
 h : ∀ (_ : q), ∀ w, OpV Tryz.prog op ty σ w (.bool b) w
structure CmF (q : Prop) (op : Op) (ty : TypeId) (σ : Nat → Value) (b : Bool) : Prop where
 h : ∀ (_ : ¬ q), ∀ w, OpV Tryz.prog op ty σ w (.bool b) w
theorem cmT {q : Prop} {b : Bool} (h : CmT q op ty σ b := by first
 | ((guard_target = CmT _ (.binOp .lss _ _ _ _) _ _ _); first | exact ⟨fun h w => opB (J0O rfl rfl w) (decide_eq_true h)⟩ | exact ⟨fun h w => opB (Jgi rfl rfl w) (h)⟩)
 | ((guard_target = CmT _ (.binOp .eql _ _ _ _) _ _ _); first | exact ⟨fun h w => opB (J3f rfl rfl w) (decide_eq_true h)⟩ | exact ⟨fun h w => opB (Jdw rfl rfl w) (decide_eq_true h)⟩)
 | ((guard_target = CmT _ (.binOp .neq _ _ _ _) _ _ _); first | exact ⟨fun h w => opB (J2n rfl rfl w) (ndT h)⟩ | exact ⟨fun h w => opB (Jgh rfl rfl w) (ndT h)⟩)
 | ((guard_target = CmT _ (.binOp .leq _ _ _ _) _ _ _); exact ⟨fun h w => opB (JhP rfl rfl w) (decide_eq_true h)⟩)
 | ((guard_target = CmT _ (.binOp .gtr _ _ _ _) _ _ _); exact ⟨fun h w => opB (JhS rfl rfl w) (decide_eq_true h)⟩)
 | ((guard_target = CmT _ (.binOp .geq _ _ _ _) _ _ _); exact ⟨fun h w => opB (Jec rfl rfl w) (decide_eq_true h)⟩)) : CmT q op ty σ b := h
theorem cmF {q : Prop} {b : Bool} (h : CmF q op ty σ b := by first
 | ((guard_target = CmF _ (.binOp .lss _ _ _ _) _ _ _); first | exact ⟨fun h w => opB (J0O rfl rfl w) (decide_eq_false h)⟩ | exact ⟨fun h w => opB (Jgi rfl rfl w) (Bool.eq_false_iff.2 h)⟩)
 | ((guard_target = CmF _ (.binOp .eql _ _ _ _) _ _ _); first | exact ⟨fun h w => opB (J3f rfl rfl w) (decide_eq_false h)⟩ | exact ⟨fun h w => opB (Jdw rfl rfl w) (decide_eq_false h)⟩)
 | ((guard_target = CmF _ (.binOp .neq _ _ _ _) _ _ _); first | exact ⟨fun h w => opB (J2n rfl rfl w) (ndF h)⟩ | exact ⟨fun h w => opB (Jgh rfl rfl w) (ndF h)⟩)
 | ((guard_target = CmF _ (.binOp .leq _ _ _ _) _ _ _); exact ⟨fun h w => opB (JhP rfl rfl w) (decide_eq_false h)⟩)
 | ((guard_target = CmF _ (.binOp .gtr _ _ _ _) _ _ _); exact ⟨fun h w => opB (JhS rfl rfl w) (decide_eq_false h)⟩)
 | ((guard_target = CmF _ (.binOp .geq _ _ _ _) _ _ _); exact ⟨fun h w => opB (Jec rfl rfl w) (decide_eq_false h)⟩)) : CmF q op ty σ b := h
theorem scm {q a b : Prop} {bt bf : Bool} [Decidable q] (H : if q then a else b) (hT : q → a → Gv (.bool bt)) (hF : ¬ q → b → Gv (.bool bf))
  (g : ∀ v, (∀ w, OpV Tryz.prog op ty σ w v w) → Gv v → Goal := by exact gp)
  (cT : CmT q op ty σ bt := by exact cmT) (cF : CmF q op ty σ bf := by exact cmF) : Goal := by
 by_cases h : q
 ·rw [if_pos h] at H; exact g _ (cT.h h) (hT h H)
 ·rw [if_neg h] at H; exact g _ (cF.h h) (hF h H)
theorem sinc {k : Nat} (hb : I64 ((k : Int) + 1)) (h : Gv (.int .i64 ((k + 1 : Nat) : Int)))
  (g : ∀ v, (∀ w, OpV Tryz.prog (.binOp .add t x y t') ty σ w v w) → Gv v → Goal := by exact gp)
  (hx : ev σ x = .int .i64 (k : Int) := by exact rfl) (hy : ev σ y = .int .i64 1 := by exact rfl) : Goal :=
 g _ (fun w => J06 hx hy (wrap_i64 hb) w) h
end
theorem au {P Q : Prop} (k : Q) (h : Wr Q → P := by
 intro k
 repeat (first
  | ((guard_target = GoR _ _ _ _ _ _ _ _ _); first | refine zn ?_ | refine zp ?_ | refine zo pop ?_ | refine zs sop ?_)
  | ((guard_target = Go1 _ _ _ _ _ _ _); first | refine zq ?_ | refine zr ?_ | refine zt rfl rfl ?_ | refine zf rfl rfl ?_ | refine zk ?_ | refine zb ?_ | refine Go1.inBlock ?_ | refine Go1.exit rfl ?_ | refine Go1.label ?_)
  | ((guard_target = GoQ _ _ _ _ _ _ _ ((_, .pure) :: _) _ _); first | refine GoQ.pass rfl rfl rfl ?_ | refine GoQ.pure rfl pop rfl rfl ?_)
  | ((guard_target = GoQ _ _ _ _ _ _ _ ((_, .stable) :: _) _ _); first | refine GoQ.pass rfl rfl rfl ?_ | refine GoQ.stable rfl sop rfl rfl ?_)
  | ((guard_target = GoQ _ _ _ _ _ _ _ _ _ _); first | refine GoQ.nil ?_ | refine GoQ.pass rfl rfl rfl ?_)
  | ((guard_target = GoT _ _ _ _ _ _ _ _ (.qp _ _) _ _); first | refine (GoT.pass rfl rfl rfl ?_).1 | refine GoT.pure rfl pop rfl rfl ?_)
  | ((guard_target = GoT _ _ _ _ _ _ _ _ (.qs _ _) _ _); refine (GoT.pass rfl rfl rfl ?_).2.1)
  | ((guard_target = GoT _ _ _ _ _ _ _ _ _ _ _); refine GoT.nil ?_)
  | ((guard_target = GoQA _ _ _ _ _ _ _ _ _ ((_, .pure) :: _) _ _ _); refine GoQA.pure rfl pop rfl rfl ?_))
 exact k.h) : P := h ⟨k⟩
end Sg
