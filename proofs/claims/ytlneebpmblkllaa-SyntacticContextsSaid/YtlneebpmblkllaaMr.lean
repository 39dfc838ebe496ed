/- -/
import Derived.Test.YtlneebpmblkllaaMap
import Derived.Test.YtlneebpmblkllaaIter
import Derived.Test.YtlneebpmblkllaaVd
namespace Sg
open Go Go.RowKit Go.Proofs
set_option linter.unusedVariables false
set_option linter.unusedSimpArgs false
structure MpOk {κ ν : Type} (kv : κ → Value) (vv : ν → Value) (es : Array MapEntry) (clock : Nat) (D : List (κ × ν)) : Prop where
 eq : es.toList.map (fun e => (e.key, e.val)) = D.map fun p => (kv p.1, vv p.2)
 nd : (es.toList.map MapEntry.born).Nodup
 lt : ∀ e ∈ es.toList, e.born < clock
structure IMx (A : List Nat) (w : World) (b : Nat) (es : Array MapEntry) (clock : Nat) : Prop where
 lt : b < w.heap.size
 out : b ∉ A
 at_ : w.heap[b]? = some (.map es clock)
theorem IMx.ch {A A' : List Nat} {w w' : World} {b clock : Nat} {es : Array MapEntry} (h : IMx A w b es clock) (hc : Ch A w A' w') : IMx A' w' b es clock :=
 ⟨Nat.lt_of_lt_of_le h.lt hc.size, (hc.keep b h.lt h.out).2, by rw [(hc.keep b h.lt h.out).1]; exact h.at_⟩
theorem IMx.u {A A' : List Nat} {w w' : World} {b clock : Nat} {es : Array MapEntry} (h : IMx A w b es clock) (k : Ch A w A' w' := by exact chx) : IMx A' w' b es clock := h.ch k
theorem IMx.o {n0 : Nat} {A A0 : List Nat} {w w0 : World} {E : List Ent} {b clock : Nat} {es : Array MapEntry} (h : IMx A0 w0 b es clock) (hO : Owns n0 w E A) (k : Ch A0 w0 (bl E ++ A) w := by exact chx) : IMx (bl E ++ A) w b es clock := h.ch k
section
variable {κ ν : Type}
def IMp (kv : κ → Value) (vv : ν → Value) (A : List Nat) (w : World) (b : Nat) (D : List (κ × ν)) : Prop := ∃ es clock, IMx A w b es clock ∧ MpOk kv vv es clock D
variable {kv : κ → Value} {vv : ν → Value} {A A' : List Nat} {w w' : World} {b clock : Nat} {es : Array MapEntry} {D : List (κ × ν)}
theorem IMp.ch (h : IMp kv vv A w b D) (hc : Ch A w A' w') : IMp kv vv A' w' b D := let ⟨es, cl, h1, h2⟩ := h; ⟨es, cl, h1.ch hc, h2⟩
theorem IMp.u (h : IMp kv vv A w b D) (k : Ch A w A' w' := by exact chx) : IMp kv vv A' w' b D := h.ch k
theorem IMp.o {n0 : Nat} {A0 : List Nat} {w0 : World} {E : List Ent} (h : IMp kv vv A0 w0 b D) (hO : Owns n0 w E A) (k : Ch A0 w0 (bl E ++ A) w := by exact chx) : IMp kv vv (bl E ++ A) w b D := h.ch k
def Rp.mp (kv : κ → Value) (vv : ν → Value) : Rp (List (κ × ν)) where
 sz := 1
 pos := by decide
 R A w cs D := ∃ b, cs 0 = some (.map (some b)) ∧ IMp kv vv A w b D
 ch hc h := let ⟨b, h1, h2⟩ := h; ⟨b, h1, h2.ch hc⟩
 ext e h := let ⟨b, h1, h2⟩ := h; ⟨b, by rw [e 0 (by decide)]; exact h1, h2⟩
 one h i hi := by
  obtain ⟨b, h1, _⟩ := h
  obtain rfl : i = 0 := by omega
  exact ⟨_, h1, rfl⟩
theorem ldMp {p : Option Addr} {c : Nat} {xs : List (List (κ × ν))} (hs : ISl (Rp.mp kv vv) A w p c xs) {i : Int} (h0 : 0 ≤ i) (h1 : i < xs.length) :
  ∃ b, IMp kv vv A w b (ix xs i) ∧ ∀ {P : Program} {σ : Nat → Value} {t ty : TypeId} {x : Operand} {td : TypeDesc}, P.underlying t = some td → scB td = true → ev σ x = .pointer (padd p (i.toNat * 1)) → ∀ w', Same w w' → OpV P (.load t x) ty σ w' (.map (some b)) w' := by
 obtain ⟨a, ha, hsp, hb, _, b, hq, hI⟩ := hs.elem h0 h1
 refine ⟨b, hI, fun ht hd hx w' hw => ?_⟩
 rw [show (Rp.mp kv vv).sz = 1 from rfl] at ha
 rw [ha] at hx
 exact J2P ht hd hx (by rw [← cel0 hsp, J5b hw hb]; exact hq)
def ItL (kv : κ → Value) (vv : ν → Value) (es : Array MapEntry) (seen : Array Nat) (L : List (κ × ν)) : Prop :=
 (es.toList.filter fun e => !seen.contains e.born).map (fun e => (e.key, e.val)) = L.map fun p => (kv p.1, vv p.2)
theorem ItL.start (h : MpOk kv vv es clock D) : ItL kv vv es #[] D := by
 show (es.toList.filter fun e => !(#[] : Array Nat).contains e.born).map _ = _
 rw [List.filter_eq_self.2 (by intro a _; simp)]
 exact h.eq
variable {P : Program} {σ : Nat → Value} {t ty e k : TypeId} {x y z : Operand} {E : List Ent} {n0 : Nat}
theorem omrange (ht : P.underlying t = some (.map k e)) (hO : Owns n0 w E A) (hm : IMx (bl E ++ A) w b es clock) :
  ∃ w' B, Stp n0 A w E w' (.blk B (.mapIter (some b) clock #[] clock) :: E) ∧ Same w w' ∧ ∀ {σ : Nat → Value} {x : Operand} {ty : TypeId}, ev σ x = .map (some b) → OpV P (.range t x) ty σ w (.pointer (some ⟨B, 0, none⟩)) w' := by
 have hs : Same w (w.alloc (.mapIter (some b) clock #[] clock)) := ⟨rfl, rfl, rfl, (show w.heap.size ≤ (w.heap.push _).size by simp), fun b hb => (Go.MapKept.heap_alloc w _).2 b hb⟩
 refine ⟨_, w.heap.size, Stp.new hO hs (by simp [Ent.fp]) (fun b hb => by simp [Ent.fp] at hb; omega) ⟨hO.le, (Go.MapKept.heap_alloc w _).1⟩, hs, fun hx => .inl ?_⟩
 simp [execOp, opr, hx, Instr.range, run_underlying ht, Go.MapKept.run_getObj_map hm.at_]
theorem Stp.blkDrew {w' : World} {b : Nat} {o o' : Obj} {j : Nat} (hO : Owns n0 w E A) (hj : E[j]? = some (.blk b o)) (hh : w'.heap = w.heap.setIfInBounds b o') (h1 : w'.os = w.os) (h2 : w'.tape = w.tape) (h3 : w'.output = w.output) :
  Stp n0 A w E w' (E.set j (.blk b o')) := by
 obtain ⟨hb, hg⟩ := hO.at_ _ (List.mem_of_getElem? hj)
 have hbs : b < w.heap.size := (Array.getElem?_eq_some_iff.1 hg).1
 refine Stp.turn hO hj ⟨h1, h2, h3⟩ (by rw [hh]; simp) (fun c hc hn => ?_) (by simp [Ent.fp]) (fun c hc => .inl hc) ⟨hb, by rw [hh]; simp [hbs]⟩
 have hne : b ≠ c := fun h => hn (by simp [Ent.fp, h])
 rw [hh, Array.getElem?_setIfInBounds_ne hne]
theorem nextTest (seen : Array Nat) (h : MpOk kv vv es clock D) : (!seen.isEmpty && !es.isEmpty && es.all (fun x => decide (x.born ≥ clock))) = false := by
  cases he : es.isEmpty with
  | true => simp
  | false =>
    have hp : 0 < es.size := by
      rcases Nat.eq_zero_or_pos es.size with h0 | h0
      · simp [Array.isEmpty, h0] at he
      · exact h0
    have h1 := h.lt es[0] (by simp)
    have h2 : es.all (fun x => decide (x.born ≥ clock)) = false := by
      rw [Bool.eq_false_iff]
      intro hall
      have h3 := (Array.all_eq_true.1 hall) 0 hp
      simp at h3
      omega
    simp [h2]
theorem eraseBorn : ∀ (F : List MapEntry) (j : Nat) (e : MapEntry), (F.map MapEntry.born).Nodup → F[j]? = some e → F.filter (fun x => x.born != e.born) = F.eraseIdx j
  | [], j, e, _, h => by simp at h
  | a :: F, 0, e, hn, h => by
    obtain rfl : a = e := by simpa using h
    have hn' := List.nodup_cons.1 hn
    simp only [List.filter_cons, bne_self_eq_false, Bool.false_eq_true, if_false, List.eraseIdx_cons_zero]
    refine List.filter_eq_self.2 fun x hx => ?_
    have : x.born ≠ a.born := fun hh => hn'.1 (by rw [← hh]; exact List.mem_map.2 ⟨x, hx, rfl⟩)
    simpa using this
  | a :: F, j + 1, e, hn, h => by
    have hn' := List.nodup_cons.1 hn
    have h' : F[j]? = some e := by simpa using h
    have hne : a.born ≠ e.born := fun hh => hn'.1 (by rw [hh]; exact List.mem_map.2 ⟨e, List.mem_of_getElem? h', rfl⟩)
    simp only [List.filter_cons, List.eraseIdx_cons_succ]
    rw [if_pos (by simpa using hne), eraseBorn F j e hn'.2 h']
theorem J4B {α β : Type} (f : α → β) : ∀ (l : List α) (i : Nat), (l.eraseIdx i).map f = (l.map f).eraseIdx i
 | [], _ => rfl
 | _ :: _, 0 => rfl
 | a :: l, i + 1 => by simp [J4B f l i]
theorem ItL.next {seen : Array Nat} {L : List (κ × ν)} {j : Nat} {e : MapEntry} (hok : MpOk kv vv es clock D) (h : ItL kv vv es seen L) (he : (es.toList.filter fun e => !seen.contains e.born)[j]? = some e) :
  ItL kv vv es (seen.push e.born) (L.eraseIdx j) := by
 have hnd : ((es.toList.filter fun e => !seen.contains e.born).map MapEntry.born).Nodup := hok.nd.sublist (List.Sublist.map _ List.filter_sublist)
 have h1 : (es.toList.filter fun x => !(seen.push e.born).contains x.born) = (es.toList.filter fun e => !seen.contains e.born).eraseIdx j := by
  rw [← eraseBorn _ _ _ hnd he, List.filter_filter]
  refine List.filter_congr fun x _ => ?_
  have h2 : (seen.push e.born).contains x.born = (seen.contains x.born || x.born == e.born) := by
   rw [Bool.eq_iff_iff]; simp
  rw [h2]
  cases seen.contains x.born <;> cases hx : (x.born == e.born) <;> simp [bne, hx]
 show (List.filter _ _).map _ = _
 rw [h1, J4B, h, ← J4B]
theorem chooseNext (P : Program) (n : Nat) (w : World) (hn : 0 < n) : ∃ j w1, j < n ∧ w1.heap = w.heap ∧ w1.os = w.os ∧ w1.tape = w.tape ∧ w1.output = w.output ∧ (choose (Question.mapNext n)).run P w = .ok j w1 := by
 by_cases hf : n ≤ 1
 ·exact ⟨0, w, by omega, rfl, rfl, rfl, rfl, by simp [choose, Sem.run, Question.forced, hf]⟩
 ·exact ⟨_, { w with drawn := w.drawn + 1 }, Nat.mod_lt _ (by omega), rfl, rfl, rfl, rfl, by
   simp only [choose, Sem.run, Question.forced, decide_eq_true_eq, hf, if_false, Question.cut]
   rfl⟩
theorem omleft {seen : Array Nat} (hok : MpOk kv vv es clock D) :
  ((es.filter fun e => !seen.contains e.born).filter fun x => decide (x.born < clock)) = (es.filter fun e => !seen.contains e.born) ∧ ((es.filter fun e => !seen.contains e.born).filter fun x => decide (x.born ≥ clock)) = #[] := by
 have hm : ∀ x ∈ (es.filter fun e => !seen.contains e.born), x.born < clock := fun x hx => hok.lt x (by simp at hx ⊢; exact hx.1)
 refine ⟨Array.filter_eq_self.2 fun x hx => by simpa using hm x hx, Array.filter_eq_empty_iff.2 fun x hx => ?_⟩
 have := hm x hx
 simp; omega
theorem omnextEnd {seen : Array Nat} {B j : Nat} (hok : MpOk kv vv es clock D) (hO : Owns n0 w E A) (hj : E[j]? = some (.blk B (.mapIter (some b) clock seen clock))) (hm : IMx (bl E ++ A) w b es clock) {L : List (κ × ν)} (hL : ItL kv vv es seen L) (hn : L = []) (hx : ev σ x = .pointer (some ⟨B, 0, none⟩)) (w' : World) (hw : Same w w') :
  OpV P (.next x false) ty σ w' (.tuple #[.bool false]) w' := by
 subst hn
 obtain ⟨hb, hg⟩ := hO.at_ _ (List.mem_of_getElem? hj)
 have h0 : (es.filter fun e => !seen.contains e.born) = #[] := by
  have := congrArg List.length hL
  simp only [List.length_map, List.length_nil, List.length_eq_zero_iff] at this
  exact Array.toList_inj.1 (by simpa using this)
 obtain ⟨h1, h2⟩ := omleft (seen := seen) hok
 have hg' : w'.heap[B]? = some (.mapIter (some b) clock seen clock) := by rw [hw.block B (Array.getElem?_eq_some_iff.1 hg).1]; exact hg
 have hm' : w'.heap[b]? = some (.map es clock) := by rw [hw.block b hm.lt]; exact hm.at_
 refine .inl ?_
 simp only [execOp, opr, hx, Instr.next, getObj, Sem.run_bind, Sem.run, hg', hm', Result.andThen, nextTest seen hok, Bool.false_eq_true, if_false, h1, h2, h0]
 simp [choose, Sem.run, Question.forced]
def CurE (kv : κ → Value) (vv : ν → Value) (es : Array MapEntry) (seen : Array Nat) (ky : κ) (va : ν) : Prop := ∃ e ∈ es.toList, seen.back? = some e.born ∧ e.key = kv ky ∧ e.val = vv va
theorem findBorn (e : MapEntry) : ∀ (l : List MapEntry), (l.map MapEntry.born).Nodup → e ∈ l → l.find? (fun x => x.born == e.born) = some e
  | [], _, h => by simp at h
  | a :: l, hn, h => by
    have hn' := List.nodup_cons.1 hn
    rcases List.mem_cons.1 h with rfl | h
    · simp
    · have hne : a.born ≠ e.born := fun hh => hn'.1 (by rw [hh]; exact List.mem_map.2 ⟨e, h, rfl⟩)
      rw [List.find?_cons]
      simp only [beq_eq_false_iff_ne.2 hne]
      exact findBorn e l hn'.2 h
theorem omentry {seen : Array Nat} {B j : Nat} {ky : κ} {va : ν} (hok : MpOk kv vv es clock D) (hO : Owns n0 w E A) (hj : E[j]? = some (.blk B (.mapIter (some b) clock seen clock))) (hm : IMx (bl E ++ A) w b es clock) (hc : CurE kv vv es seen ky va)
  (hx : ev σ x = .pointer (some ⟨B, 0, none⟩)) {w' : World} (hw : Same w w') : OpV P (.entry x) ty σ w' (.tuple #[kv ky, vv va]) w' := by
 obtain ⟨hb, hg⟩ := hO.at_ _ (List.mem_of_getElem? hj)
 obtain ⟨e, he, h1, h2, h3⟩ := hc
 have hg' : w'.heap[B]? = some (.mapIter (some b) clock seen clock) := by rw [hw.block B (Array.getElem?_eq_some_iff.1 hg).1]; exact hg
 have hm' : w'.heap[b]? = some (.map es clock) := by rw [hw.block b hm.lt]; exact hm.at_
 have hf : es.find? (fun x => x.born == e.born) = some e := by rw [← Array.find?_toList]; exact findBorn e _ hok.nd he
 refine .inl ?_
 simp only [execOp, opr, hx, Instr.entry, getObj, Sem.run_bind, Sem.run, hg', hm', Result.andThen, h1, bne_self_eq_false, Bool.false_eq_true, if_false, hf, h2, h3]
 try rfl
theorem omnext {seen : Array Nat} {B j : Nat} {L : List (κ × ν)} (hok : MpOk kv vv es clock D) (hO : Owns n0 w E A) (hj : E[j]? = some (.blk B (.mapIter (some b) clock seen clock))) (hm : IMx (bl E ++ A) w b es clock) (hL : ItL kv vv es seen L) (hne : ¬ L = []) (P : Program) :
    ∃ q ky va seen' w', L[q]? = some (ky, va) ∧ ItL kv vv es seen' (L.eraseIdx q) ∧ CurE kv vv es seen' ky va ∧ Stp n0 A w E w' (E.set j (.blk B (.mapIter (some b) clock seen' clock))) ∧
      ∀ {σ : Nat → Value} {x : Operand} {ty : TypeId}, ev σ x = .pointer (some ⟨B, 0, none⟩) → OpV P (.next x false) ty σ w (.tuple #[.bool true, kv ky, vv va]) w' := by
  obtain ⟨hb, hg⟩ := hO.at_ _ (List.mem_of_getElem? hj)
  have hBs : B < w.heap.size := (Array.getElem?_eq_some_iff.1 hg).1
  obtain ⟨h1, h2⟩ := omleft (seen := seen) hok
  have hlen : (es.filter fun e => !seen.contains e.born).size = L.length := by
    have := congrArg List.length hL
    simp only [List.length_map] at this
    rw [← Array.length_toList, Array.toList_filter]; exact this
  have hpos : 0 < L.length := List.length_pos_iff.2 hne
  obtain ⟨q, w1, hq, e1, e2, e3, e4, hrun⟩ := chooseNext P (es.filter fun e => !seen.contains e.born).size w (by omega)
  have hqe : (es.filter fun e => !seen.contains e.born)[q]? = some ((es.filter fun e => !seen.contains e.born)[q]) := Array.getElem?_eq_getElem hq
  have hge : (es.toList.filter fun e => !seen.contains e.born)[q]? = some ((es.filter fun e => !seen.contains e.born)[q]) := by
    rw [← Array.toList_filter, Array.getElem?_toList]; exact hqe
  have hLq := congrArg (fun l => l[q]?) hL
  simp only [List.getElem?_map, hge, Option.map_some] at hLq
  cases hp : L[q]? with
  | none => rw [hp] at hLq; cases hLq
  | some pr =>
    obtain ⟨ky, va⟩ := pr
    rw [hp] at hLq
    simp only [Option.map_some, Option.some.injEq, Prod.mk.injEq] at hLq
    refine ⟨q, ky, va, _, { w1 with heap := w1.heap.setIfInBounds B (.mapIter (some b) clock (seen.push ((es.filter fun e => !seen.contains e.born)[q]).born) clock) }, hp, hL.next hok hge, ⟨_, by have := List.mem_of_getElem? hge; exact (List.mem_filter.1 this).1, by simp, hLq.1, hLq.2⟩,
      Stp.blkDrew hO hj (by rw [← e1]) e2 e3 e4, fun {σ x ty} hx => .inl ?_⟩
    have hne2 : (es.filter fun e => !seen.contains e.born).isEmpty = false := by rw [Bool.eq_false_iff]; intro hh; rw [Array.isEmpty_iff_size_eq_zero] at hh; omega
    have hg1 : w1.heap[B]? = some (.mapIter (some b) clock seen clock) := by rw [e1]; exact hg
    simp only [execOp, opr, hx, Instr.next, getObj, setObj, Sem.run_bind, Sem.run, hg, hm.at_, Result.andThen, nextTest seen hok, Bool.false_eq_true, if_false, h1, h2, Array.append_empty, hne2, Array.empty_append, Array.size_map, hrun, Array.getElem?_map, hqe, Option.map_some, hg1]
    rw [← hLq.1, ← hLq.2]
    rfl
def Rp.ref : Rp Nat where
  sz := 1
  pos := by decide
  R _ _ cs b := cs 0 = some (.map (some b))
  ch _ h := h
  ext e h := by rw [e 0 (by decide)]; exact h
  one h i hi := ⟨_, (by obtain rfl : i = 0 := by omega
                        exact h), rfl⟩
theorem Fl.ref : Fl Rp.ref := fun h => h
def msE (kv : κ → Value) (vv : ν → Value) (bs : List Nat) (Ds : List (List (κ × ν))) : AnyE where
 F := bs
 H n0 w := bs.length = Ds.length ∧ ∀ i b D, bs[i]? = some b → Ds[i]? = some D → n0 ≤ b ∧ ∃ es clock, w.heap[b]? = some (.map es clock) ∧ MpOk kv vv es clock D
 lt h b hb := by
  obtain ⟨i, hi, he⟩ := List.getElem_of_mem hb
  obtain ⟨h1, es, cl, h2, _⟩ := h.2 i b (Ds[i]'(by rw [← h.1]; exact hi)) (by rw [List.getElem?_eq_getElem hi, he]) (List.getElem?_eq_getElem _)
  exact ⟨h1, (Array.getElem?_eq_some_iff.1 h2).1⟩
 keep h hk := ⟨h.1, fun i b D h1 h2 => by
  obtain ⟨h3, es, cl, h4, h5⟩ := h.2 i b D h1 h2
  exact ⟨h3, es, cl, by rw [hk b (List.mem_of_getElem? h1)]; exact h4, h5⟩⟩
 base hn h := ⟨h.1, fun i b D h1 h2 => let ⟨h3, h4⟩ := h.2 i b D h1 h2; ⟨Nat.le_trans hn h3, h4⟩⟩
theorem msE.nil (hO : Owns n0 w E A) : Stp n0 A w E w (.any (msE kv vv [] []) :: E) :=
 Stp.new hO (Same.refl w) (by simp [Ent.fp, msE]) (fun b hb => by simp [Ent.fp, msE] at hb) ⟨rfl, fun i b D h => by simp at h⟩
theorem omkM (kv : κ → Value) (vv : ν → Value) (hO : Owns n0 w E A) :
    ∃ w' B, Stp n0 A w E w' (.any (msE kv vv [B] [[]]) :: E) ∧ Same w w' ∧ ∀ {P : Program} {σ : Nat → Value} {t ty : TypeId}, OpV P (.makeMap t none) ty σ w (.map (some B)) w' := by
  have hs : Same w (w.alloc (.map #[] 0)) := ⟨rfl, rfl, rfl, (show w.heap.size ≤ (w.heap.push _).size by simp), fun b hb => (Go.MapKept.heap_alloc w _).2 b hb⟩
  refine ⟨w.alloc (.map #[] 0), w.heap.size, Stp.new hO hs (by simp [Ent.fp, msE]) (fun b hb => by simp [Ent.fp, msE] at hb; omega) ⟨rfl, fun i b D h1 h2 => ?_⟩, hs, fun {P σ t ty} => .inl ?_⟩
  · cases i with
    | zero =>
      simp only [List.getElem?_cons_zero, Option.some.injEq] at h1 h2
      subst h1; subst h2
      exact ⟨hO.le, #[], 0, (Go.MapKept.heap_alloc w _).1, ⟨rfl, List.nodup_nil, fun e he => by simp at he⟩⟩
    | succ i => simp at h1
  · simp [execOp, opr, run_makeMap]
theorem Owns.reb {E' : List Ent} (hO : Owns n0 w E A) (hb : bl E' = bl E) (h : ∀ e ∈ E', e.holds n0 w) : Owns n0 w E' A ∧ Sq A w E A w E' :=
 ⟨⟨hO.le, hO.bd, by rw [hb]; exact hO.nd, fun b hb' => hO.out b (by rw [← hb]; exact hb'), h⟩, ⟨by rw [hb]; exact Fr.refl _ _, by rw [hb]; exact Ch.refl _ _⟩⟩
theorem msE.glue {bs cs : List Nat} {Ds Cs : List (List (κ × ν))} (hO : Owns n0 w (.any (msE kv vv bs Ds) :: .any (msE kv vv cs Cs) :: E) A) :
  Owns n0 w (.any (msE kv vv (bs ++ cs) (Ds ++ Cs)) :: E) A ∧ Sq A w (.any (msE kv vv bs Ds) :: .any (msE kv vv cs Cs) :: E) A w (.any (msE kv vv (bs ++ cs) (Ds ++ Cs)) :: E) := by
 refine hO.reb (by simp [bl, Ent.fp, msE]) fun e he => ?_
 rcases List.mem_cons.1 he with rfl | he
 ·obtain ⟨h1, h2⟩ := hO.at_ _ (List.mem_cons_self)
  obtain ⟨h3, h4⟩ := hO.at_ _ (List.mem_cons_of_mem _ List.mem_cons_self)
  refine ⟨by simp [h1, h3], fun i b D hb hD => ?_⟩
  by_cases hi : i < bs.length
  ·rw [List.getElem?_append_left hi] at hb
   rw [List.getElem?_append_left (by omega)] at hD
   exact h2 i b D hb hD
  ·rw [List.getElem?_append_right (by omega)] at hb
   rw [List.getElem?_append_right (by omega), ← h1] at hD
   exact h4 _ b D hb hD
 ·exact hO.at_ e (List.mem_cons_of_mem _ (List.mem_cons_of_mem _ he))
theorem J4Q {α β : Type} (g : α → β) (f : α → α) (h : ∀ x, g (f x) = g x) : ∀ (l : List α) (i : Nat), (l.modify i f).map g = l.map g
 | [], i => by cases i <;> rfl
 | a :: l, 0 => by simp [h]
 | a :: l, i + 1 => by simp [J4Q g f h l i]
theorem mem_modify' {α : Type} {p : α → Prop} (f : α → α) (h : ∀ x, p x → p (f x)) : ∀ (l : List α) (i : Nat), (∀ x ∈ l, p x) → ∀ x ∈ l.modify i f, p x
  | [], i, hl, x, hx => by cases i <;> simp at hx
  | a :: l, 0, hl, x, hx => by
    simp only [List.modify_zero_cons, List.mem_cons] at hx
    rcases hx with rfl | hx
    · exact h _ (hl a (by simp))
    · exact hl x (by simp [hx])
  | a :: l, i + 1, hl, x, hx => by
    simp only [List.modify_succ_cons, List.mem_cons] at hx
    rcases hx with rfl | hx
    · exact hl _ (by simp)
    · exact mem_modify' f h l i (fun y hy => hl y (by simp [hy])) x hx
variable [DecidableEq κ]
theorem omsUpd (K : MK P k kv) {bs : List Nat} {Ds : List (List (κ × ν))} (j : Nat) (hO : Owns n0 w E A) (hj : E[j]? = some (.any (msE kv vv bs Ds))) {i : Nat} {b : Nat} {D : List (κ × ν)} (hb : bs[i]? = some b) (hD : Ds[i]? = some D) (ht : P.underlying t = some (.map k e)) (a : κ) (v : ν) :
    ∃ w', Stp n0 A w E w' (E.set j (.any (msE kv vv bs (Ds.set i (mput D a v))))) ∧ ∀ {σ : Nat → Value} {x y z : Operand} {ty : TypeId}, ev σ x = .map (some b) → ev σ y = kv a → ev σ z = vv v → OpV P (.mapUpdate t x y z) ty σ w undef w' := by
  obtain ⟨hl0, hall⟩ := hO.at_ _ (List.mem_of_getElem? hj)
  obtain ⟨h0, es, clock, h1, hok⟩ := hall i b D hb hD
  have h2 := hok.eq
  have hf := K.fnd es.toList (D.map (·.1)) a w (J3Z h2)
  have hlen : es.size = D.length := by have := congrArg List.length h2; simpa using this
  have hil : i < Ds.length := (List.getElem?_eq_some_iff.1 hD).1
  have hndb : bs.Nodup := by
    have h3 := hO.nd
    obtain ⟨hjl, hje⟩ := List.getElem?_eq_some_iff.1 hj
    have h4 : E = E.take j ++ .any (msE kv vv bs Ds) :: E.drop (j + 1) := by rw [← hje]; simp
    rw [h4] at h3
    simp only [bl, List.flatMap_append, List.flatMap_cons] at h3
    exact (List.nodup_append.1 (List.nodup_append.1 h3).2.1).1
  have key : ∀ es' clock', MpOk kv vv es' clock' (mput D a v) →
      Stp n0 A w E { w with heap := w.heap.setIfInBounds b (.map es' clock') } (E.set j (.any (msE kv vv bs (Ds.set i (mput D a v))))) := by
    intro es' clock' he
    refine Stp.turn hO hj ⟨rfl, rfl, rfl⟩ (by simp) (fun c hc hn => ?_) hndb (fun c hc => .inl hc) ⟨by simp [hl0], fun i' b' D' hb' hD' => ?_⟩
    · exact (Go.MapKept.heap_set h1).2 c (fun hh => hn (by subst hh; exact List.mem_of_getElem? hb))
    · by_cases hii : i' = i
      · subst hii
        rw [hb] at hb'; cases hb'
        rw [List.getElem?_set_self hil] at hD'; cases hD'
        exact ⟨h0, es', clock', (Go.MapKept.heap_set h1).1, he⟩
      · rw [List.getElem?_set_ne (Ne.symm hii)] at hD'
        obtain ⟨g1, es2, cl2, g2, g3⟩ := hall i' b' D' hb' hD'
        refine ⟨g1, es2, cl2, ?_, g3⟩
        rw [← g2]
        refine (Go.MapKept.heap_set h1).2 b' fun hh => hii ?_
        subst hh
        exact (List.getElem?_inj (List.getElem?_eq_some_iff.1 hb').1 hndb).1 (hb'.trans hb.symm)
  cases hq : fidx (D.map (·.1)) a with
  | none =>
    rw [hq] at hf
    refine ⟨_, key (es.push { key := kv a, val := vv v, born := clock }) (clock + 1) ⟨?_, ?_, ?_⟩, fun {σ x y z ty} hx hy hz => .inr ⟨?_, rfl⟩⟩
    · rw [J6g hq]; simp [h2]
    · simp only [Array.toList_push, List.map_append, List.map_cons, List.map_nil]
      refine List.nodup_append.2 ⟨hok.nd, by simp, fun x hx y hy hxy => ?_⟩
      obtain ⟨e1, he1, rfl⟩ := List.mem_map.1 hx
      have := hok.lt e1 he1
      simp at hy
      omega
    · intro e1 he1
      simp only [Array.toList_push, List.mem_append, List.mem_singleton] at he1
      rcases he1 with he1 | rfl
      · exact Nat.lt_succ_of_lt (hok.lt e1 he1)
      · exact Nat.lt_succ_self _
    · simp only [Option.bind_none] at hf
      simp [execOp, opr, hx, hy, hz, Instr.mapUpdate, run_underlying ht, getObjMap h1, K.chk, hf, Go.MapKept.run_setObj_map _ h1, Result.andThen]
  | some i2 =>
    rw [hq] at hf
    have hi : i2 < es.size := by have := J6V hq; simp at this; omega
    have hkey : es[i2].key = kv a := by
      have e1 := J6u hq
      have e2 := congrArg (fun l => l[i2]?) (J3Z h2)
      simp only [List.getElem?_map, e1, Option.map_some] at e2
      simpa [hi] using e2
    refine ⟨_, key (es.modify i2 fun e => { e with key := kv a, val := vv v }) clock ⟨?_, ?_, ?_⟩, fun {σ x y z ty} hx hy hz => .inr ⟨?_, rfl⟩⟩
    · have := J70 (a := a) (v := v) h2 i2 hq
      simpa using this
    · rw [Array.toList_modify, J4Q MapEntry.born (fun e => { e with key := kv a, val := vv v }) (fun _ => rfl)]; exact hok.nd
    · rw [Array.toList_modify]
      exact mem_modify' (p := fun x : MapEntry => x.born < clock) (fun e : MapEntry => { e with key := kv a, val := vv v }) (fun x hx => hx) _ _ hok.lt
    · simp only [Option.bind_some, Array.getElem?_toList, Array.getElem?_eq_getElem hi, Option.map_some] at hf
      have hkk : (Instr.keyThatStays (kv a) (kv a)).run P w = .ok (kv a) w := by
        simp [Instr.keyThatStays, K.sam]
      simp [execOp, opr, hx, hy, hz, Instr.mapUpdate, run_underlying ht, getObjMap h1, K.chk, hf, hi, hkey, hkk, Go.MapKept.run_setObj_map _ h1, Result.andThen]
omit [DecidableEq κ] in
theorem msFreeze {bs : List Nat} {Ds : List (List (κ × ν))} {hf : Fl Rp.ref} {p : Option Addr} {n c : Nat} (hO : Owns n0 w (t1 hf e p n c bs :: .any (msE kv vv bs Ds) :: E) A) :
  Owns n0 w E A ∧ ISl (Rp.mp kv vv) (bl E ++ A) w p c Ds ∧ n = Ds.length ∧ Sq A w (t1 hf e p n c bs :: .any (msE kv vv bs Ds) :: E) A w E := by
 obtain ⟨hl0, hall⟩ := hO.at_ (.any (msE kv vv bs Ds)) (by simp)
 obtain ⟨vs, hO1, hb1, hj1, hE⟩ := t1row 0 hO rfl
 obtain ⟨hO2, hc2, hi, hn⟩ := freeze (r := Rp.ref) 0 hO1 rfl (hE _ _)
 simp only [sZ, eZ] at hO2 hc2 hi
 have hO3 := hO2.drop 0
 rw [eZ] at hO3
 have hc3 := Owns.J4R (A := A) w (.any (msE kv vv bs Ds) :: E) 0
 rw [eZ] at hc3
 have hi3 := hi.ch hc3
 refine ⟨hO3, ⟨by rw [← hl0]; exact hi.cap, by rw [← hl0]; exact hi.bd, hi.nil, fun a ha q hq => ?_⟩, by rw [← hl0]; exact hn, ⟨?_, ?_⟩⟩
 ·have hq' : q < bs.length := by omega
  obtain ⟨g1, g2, g3, g4⟩ := hi3.at_ a ha q hq'
  refine ⟨g1, g2, g3, bs[q], g4, ?_⟩
  obtain ⟨k1, es, cl, k2, k3⟩ := hall q bs[q] Ds[q] (List.getElem?_eq_getElem hq') (List.getElem?_eq_getElem hq)
  refine ⟨es, cl, ⟨(Array.getElem?_eq_some_iff.1 k2).1, ?_, k2⟩, k3⟩
  have hmem : bs[q] ∈ bs := List.getElem_mem hq'
  intro hx
  have hnd := hO2.nd
  have hbe : bl (.any (msE kv vv bs Ds) :: E) = bs ++ bl E := by simp [bl, Ent.fp, msE]
  rw [hbe] at hnd
  rcases List.mem_append.1 hx with hx | hx
  ·exact (List.nodup_append.1 hnd).2.2 _ hmem _ hx rfl
  ·exact hO2.out bs[q] (by rw [hbe]; simp [hmem]) hx
 ·exact (Owns.J6l w _ 0).trans (Owns.J6l w _ 0)
 ·exact (Owns.J4R (A := A) w _ 0).trans (Owns.J4R (A := A) w _ 0)
end
section
variable {op : Op} {ty t t' e e2 : TypeId} {x y z : Operand} {σ : Nat → Value} {w w' : World} {E E' E1 : List Ent} {A : List Nat} {n0 : Nat} {Goal : Prop} {Gv : Value → Prop}
variable {α : Type} [Inhabited α] {r : Rp α} {hf : Fl r} {p : Option Addr} {m c : Nat} {xs : List α}
end
section
variable {op : Op} {ty t t' e : TypeId} {x y z : Operand} {σ : Nat → Value} {w w' : World} {E E' E1 : List Ent} {A : List Nat} {n0 : Nat} {Goal : Prop} {Gv : Value → Prop}
variable {α : Type} [Inhabited α] {sz : Nat} {enc : α → List Value} {ok : α → Prop} {ps0 : 0 < sz} {ln : ∀ x, (enc x).length = sz} {on : ∀ x, ∀ v ∈ enc x, v.oneCell' = true} {ff : Fl (Rp.flat sz enc ok ps0 ln on)} {p : Option Addr} {m c : Nat} {xs : List α}
end
end Sg
