/- Arguments that are slices of doors, or of what is asked for, told as lists: their cells, their lengths. No conditions. -/
import Derived.Test.YtcegefhjgkoknaaQx0
import Derived.Deep.Slices
import Derived.Deep.Fields
import Derived.ChangeSame
import Derived.ProofKit
namespace Go.Proofs.Ytcegefhjgkoknaa.Frames
open Go.ChangeShapes Go.WideShapes Go.ChangeAt Go.RowKit Go.Deep Go.Proofs.YtcegefhjgkoknaaW.PrintWords Go.Proofs.Ytcegefhjgkoknaa.Q
set_option linter.unusedVariables false
section
variable {H : Type} {enc : TypeId × Value → H} {P : Program} {w : World} {base : Nat} {spare : Nat → Bool} {held : Bool}
theorem open_slice_fields {t e : TypeId} {fs : Array Field} {fuel : Nat} {cs : List Value} {x : DataW H × List MemPlace} (ht : P.underlying t = some (.slice e)) (he : P.underlying e = some (.struct fs))
    (hone : oneCellFields P fs = true) (hC : P.cellsOf e = fs.size) (h : DataW.trod enc P w base spare held fuel t cs = some x) :
    (cs = [.slice none 0 0] ∧ x = (.nil, [])) ∨
    ∃ (a : Addr) (len cap m : Nat) (D : Nat → DataW H) (Pl : Nat → List MemPlace), cs = [.slice (some a) len cap] ∧ base ≤ a.block ∧ len ≤ cap ∧ cap ≤ maxLen ∧ m = (if spare a.block then cap else len) ∧
      x = (.slice ((List.range len).map D) ((List.range (m - len)).map fun j => D (len + j)), MemPlace.row a (m * fs.size) ++ (List.range m).flatMap Pl) ∧
      ∀ i, i < m → ∃ (ys : List (DataW H × List MemPlace)) (n : Nat), D i = .agg (ys.map (·.1)) ∧ Pl i = ys.flatMap (·.2) ∧ ys.length = fs.size ∧
        ∀ (j : Nat) (f : Field), fs[j]? = some f → ∃ (v : Value) (y : DataW H × List MemPlace), w.cell? (a.add (i * fs.size + j)) = some v ∧ ys[j]? = some y ∧ DataW.trod enc P w base spare held n f.type [v] = some y := by
  rcases open_slice ht h with h0 | ⟨a, len, cap, m, n, D, Pl, hcs, hb, hl, hm, hmm, hx, hi⟩
  · exact .inl h0
  · refine .inr ⟨a, len, cap, m, D, Pl, hcs, hb, hl, hm, hmm, by rw [hC] at hx; exact hx, fun i him => ?_⟩
    obtain ⟨cs', hc, ht'⟩ := hi i him
    rw [hC] at hc
    obtain ⟨ys, n', hn', hy, hlen, hyl, hf⟩ := DataW.trod_struct he ht'
    obtain ⟨_, hcl, hat⟩ := World.cells?_some hc
    simp only [Prod.mk.injEq] at hy
    refine ⟨ys, n', hy.1, hy.2, hyl, fun j f hj => ?_⟩
    obtain ⟨ho, hk⟩ := hone_of hone j f hj
    have hjl : j < fs.size := (Array.getElem?_eq_some_iff.1 hj).1
    have hcell := hat j hjl
    have hv : cs'[j]? = some (cs'[j]'(by omega)) := List.getElem?_eq_getElem (by omega)
    have h1 := hf j f hj
    rw [ho, hk] at h1
    have hone' : (cs'.drop j).take 1 = [cs'[j]'(by omega)] := by
      rw [List.drop_eq_getElem_cons (by omega)]
      rfl
    rw [hone'] at h1
    have hys : ys[j]? = some (ys[j]'(by omega)) := List.getElem?_eq_getElem (by omega)
    refine ⟨_, _, ?_, hys, h1.trans hys⟩
    rw [← Go.Deep.add_add, hcell, hv]
end
/-- A row of structs, out of each element's cells. -/
theorem row_of {α : Type} (d : Kd α) (Q : α → Prop) (m : Nat) (hm0 : d.sz = m) {w : World} {a : Addr} {len cap : Nat} (hl : len ≤ cap) (hm : cap ≤ maxLen)
    (hc : ∀ i, i < len → ∃ (x : α) (C : List Value), C.length = m ∧ d.K w x C ∧ Q x ∧ ∀ j u, C[j]? = some u → w.cell? (a.add (i * m + j)) = some u) :
    ∃ l : List α, len = l.length ∧ d.C w (some a) l.length l ∧ l.length ≤ cap ∧ l.length ≤ maxLen ∧ ∀ x ∈ l, Q x := by
  have ex : ∀ i : Nat, ∃ x : Option α, i < len → ∃ (y : α) (C : List Value), x = some y ∧ C.length = m ∧ d.K w y C ∧ Q y ∧ ∀ j u, C[j]? = some u → w.cell? (a.add (i * m + j)) = some u := fun i => by
    by_cases h : i < len
    · obtain ⟨x, C, h1, h2, h3, h4⟩ := hc i h
      exact ⟨some x, fun _ => ⟨x, C, rfl, h1, h2, h3, h4⟩⟩
    · exact ⟨none, fun h' => absurd h' h⟩
  obtain ⟨f, hf⟩ : ∃ f : Nat → Option α, ∀ i, i < len → ∃ (y : α) (C : List Value), f i = some y ∧ C.length = m ∧ d.K w y C ∧ Q y ∧ ∀ j u, C[j]? = some u → w.cell? (a.add (i * m + j)) = some u := ⟨fun i => Classical.choose (ex i), fun i h => Classical.choose_spec (ex i) h⟩
  have key : ∀ n, n ≤ len → ∃ l : List α, l.length = n ∧ ∀ i, i < n → l[i]? = f i := by
    intro n
    induction n with
    | zero => intro _; exact ⟨[], rfl, fun i h => absurd h (by omega)⟩
    | succ n ih =>
      intro h
      obtain ⟨l, h1, h2⟩ := ih (by omega)
      obtain ⟨y, _, hy, _⟩ := hf n (by omega)
      refine ⟨l ++ [y], by simp [h1], fun i hi => ?_⟩
      by_cases e : i < n
      · rw [List.getElem?_append_left (by omega)]; exact h2 i e
      · obtain rfl : i = n := by omega
        rw [List.getElem?_append_right (by omega), h1, Nat.sub_self, hy]; rfl
  obtain ⟨l, h1, h2⟩ := key len (Nat.le_refl _)
  unfold maxLen at hm
  refine ⟨l, h1.symm, ⟨rfl, by omega, fun _ => ⟨a, rfl, fun j p hp => ?_⟩⟩, by omega, by unfold maxLen; omega, fun x hx => ?_⟩
  · have hj : j < len := by have := (List.getElem?_eq_some_iff.1 hp).1; omega
    obtain ⟨y, C, e, c1, c2, _, c3⟩ := hf j hj
    rw [h2 j hj, e] at hp
    cases hp
    exact ⟨C, by rw [hm0]; exact c1, c2, by rw [hm0]; exact c3⟩
  · obtain ⟨i, hi, e⟩ := List.getElem_of_mem hx
    obtain ⟨y, C, e', c1, c2, c4, c3⟩ := hf i (by omega)
    have h3 := h2 i (by omega)
    rw [List.getElem?_eq_getElem hi, e, e'] at h3
    cases h3
    exact c4
theorem open_T25 {H : Type} {enc : TypeId × Value → H} {W : World} {base : Nat} {held : Bool} {t : TypeId} {a : Option Addr} {len cap : Nat} {d : DataW H} {p : List MemPlace} {fs : Array Field}
    (ht : Try.prog.underlying t = some (.slice 25)) (he : Try.prog.underlying 25 = some (.struct fs)) (h : DataW.Trod enc Try.prog W base (fun _ => true) held t (.slice a len cap) d p) :
    ∃ l : List S25, len = l.length ∧ Kd.C k25 W a l.length l ∧ l.length ≤ cap ∧ l.length ≤ maxLen ∧ ∀ x ∈ l, (Lit.int .i64 x.f0).wf = true ∧ (Lit.int .i64 x.f1).wf = true := by
  rw [Try.underlying25] at he
  injection he with he
  injection he with he
  subst he
  obtain ⟨fuel, hf⟩ := h
  rcases open_slice_fields ht Try.underlying25 (by kernel_rfl) (by kernel_rfl) hf with ⟨hcs, _⟩ | ⟨x, l, c, m, D, Pl, hcs, _, hl, hm, hmm, _, hi⟩
  · simp [Value.cells] at hcs
    obtain ⟨rfl, rfl, rfl⟩ := hcs
    exact ⟨[], rfl, ⟨rfl, by decide, fun h0 => absurd h0 (by decide)⟩, by simp, by simp, by simp⟩
  · simp [Value.cells] at hcs
    obtain ⟨rfl, rfl, rfl⟩ := hcs
    refine row_of k25 (fun y => (Lit.int .i64 y.f0).wf = true ∧ (Lit.int .i64 y.f1).wf = true) 2 rfl hl hm fun i hil => ?_
    obtain ⟨ys, n, _, _, _, hfl⟩ := hi i (by rw [hmm]; simp; omega)
    obtain ⟨v0, y0, c0, _, r0⟩ := hfl 0 _ rfl
    obtain ⟨v1, y1, c1, _, r1⟩ := hfl 1 _ rfl
    obtain ⟨a0, e0, _, w0⟩ := DataW.trod_int Try.underlying3 r0
    obtain ⟨a1, e1, _, w1⟩ := DataW.trod_int Try.underlying3 r1
    obtain rfl := List.head_eq_of_cons_eq e0
    obtain rfl := List.head_eq_of_cons_eq e1
    refine ⟨⟨a0, a1⟩, [.int .i64 a0, .int .i64 a1], rfl, k25_mk W ⟨a0, a1⟩, ⟨w0, w1⟩, fun j u hj => ?_⟩
    match j, hj with
    | 0, hj => simp at hj; subst hj; exact c0
    | 1, hj => simp at hj; subst hj; exact c1
theorem open_T27 {H : Type} {enc : TypeId × Value → H} {W : World} {base : Nat} {held : Bool} {t : TypeId} {a : Option Addr} {len cap : Nat} {d : DataW H} {p : List MemPlace} {fs : Array Field}
    (ht : Try.prog.underlying t = some (.slice 27)) (he : Try.prog.underlying 27 = some (.struct fs)) (h : DataW.Trod enc Try.prog W base (fun _ => true) held t (.slice a len cap) d p) :
    ∃ l : List S27, len = l.length ∧ Kd.C k27 W a l.length l ∧ l.length ≤ cap ∧ l.length ≤ maxLen ∧ ∀ x ∈ l, (Lit.int .i64 x.f0).wf = true ∧ (Lit.int .i64 x.f2).wf = true := by
  rw [Try.underlying27] at he
  injection he with he
  injection he with he
  subst he
  obtain ⟨fuel, hf⟩ := h
  rcases open_slice_fields ht Try.underlying27 (by kernel_rfl) (by kernel_rfl) hf with ⟨hcs, _⟩ | ⟨x, l, c, m, D, Pl, hcs, _, hl, hm, hmm, _, hi⟩
  · simp [Value.cells] at hcs
    obtain ⟨rfl, rfl, rfl⟩ := hcs
    exact ⟨[], rfl, ⟨rfl, by decide, fun h0 => absurd h0 (by decide)⟩, by simp, by simp, by simp⟩
  · simp [Value.cells] at hcs
    obtain ⟨rfl, rfl, rfl⟩ := hcs
    refine row_of k27 (fun y => (Lit.int .i64 y.f0).wf = true ∧ (Lit.int .i64 y.f2).wf = true) 4 rfl hl hm fun i hil => ?_
    obtain ⟨ys, n, _, _, _, hfl⟩ := hi i (by rw [hmm]; simp; omega)
    obtain ⟨v0, y0, c0, _, r0⟩ := hfl 0 _ rfl
    obtain ⟨v1, y1, c1, _, r1⟩ := hfl 1 _ rfl
    obtain ⟨v2, y2, c2, _, r2⟩ := hfl 2 _ rfl
    obtain ⟨v3, y3, c3, _, r3⟩ := hfl 3 _ rfl
    obtain ⟨a0, e0, _, w0⟩ := DataW.trod_int Try.underlying3 r0
    obtain ⟨a1, e1, _⟩ := DataW.trod_bool Try.underlying4 r1
    obtain ⟨a2, e2, _, w2⟩ := DataW.trod_int Try.underlying3 r2
    obtain ⟨a3, e3, _⟩ := DataW.trod_bool Try.underlying4 r3
    obtain rfl := List.head_eq_of_cons_eq e0
    obtain rfl := List.head_eq_of_cons_eq e1
    obtain rfl := List.head_eq_of_cons_eq e2
    obtain rfl := List.head_eq_of_cons_eq e3
    refine ⟨⟨a0, a1, a2, a3⟩, [.int .i64 a0, .bool a1, .int .i64 a2, .bool a3], rfl, k27_mk W ⟨a0, a1, a2, a3⟩, ⟨w0, w2⟩, fun j u hj => ?_⟩
    match j, hj with
    | 0, hj => simp at hj; subst hj; exact c0
    | 1, hj => simp at hj; subst hj; exact c1
    | 2, hj => simp at hj; subst hj; exact c2
    | 3, hj => simp at hj; subst hj; exact c3
end Go.Proofs.Ytcegefhjgkoknaa.Frames
