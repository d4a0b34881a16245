/- An argument that is a slice of bools, told as a list: its cells, its length. No conditions. -/
import Derived.Test.YtgoagpjmnobjhaaQx0
import Derived.Deep.Grids
import Derived.ProofKit
namespace Go.Proofs.Ytgoagpjmnobjhaa.Frames
open Go.ChangeShapes Go.WideShapes Go.ChangeAt Go.RowKit Go.Deep Go.Proofs.YtgoagpjmnobjhaaW.PrintWords
theorem row_of {α : Type} (enc : α → Value) (h1 : ∀ x, (enc x).oneCell' = true) (d : α) {w : World} {a : Addr} {len cap : Nat} (hl : len ≤ cap) (hm : cap ≤ maxLen) (V : Nat → α)
    (hc : ∀ i, i < len → w.cell? (a.add i) = some (enc (V i))) :
    ∃ l : List α, len = l.length ∧ (Kd.scalar enc h1).C w (some a) l.length l ∧ l.length ≤ cap ∧ l.length ≤ maxLen := by
  refine ⟨(List.range len).map V, by simp, Kd.C_of_reads (d := d) ⟨rfl, ?_, fun _ => ⟨a, rfl, fun j hj => ?_⟩⟩, by simpa using hl, by simp; omega⟩
  · unfold maxLen at hm; simp; omega
  · have hj' : j < len := by simpa using hj
    rw [hc j hj']
    simp [hj']
theorem open_bool {H : Type} {enc : TypeId × Value → H} {W : World} {base : Nat} {held : Bool} {t : TypeId} {a : Option Addr} {len cap : Nat} {d : DataW H} {p : List MemPlace}
    (ht : Try.prog.underlying t = some (.slice 4)) (he : Try.prog.underlying 4 = some .bool) (h : DataW.Trod enc Try.prog W base (fun _ => true) held t (.slice a len cap) d p) :
    ∃ l : List Bool, len = l.length ∧ Kd.bool.C W a l.length l ∧ l.length ≤ cap ∧ l.length ≤ maxLen := by
  obtain ⟨fuel, hf⟩ := h
  rcases open_bools ht he (by kernel_rfl) hf with ⟨hcs, _⟩ | ⟨x, l, c, B, hcs, _, hl, hm, _, hcell⟩
  · simp [Value.cells] at hcs
    obtain ⟨rfl, rfl, rfl⟩ := hcs
    exact ⟨[], rfl, ⟨rfl, by decide, fun h0 => absurd h0 (by decide)⟩, by simp, by simp⟩
  · simp [Value.cells] at hcs
    obtain ⟨rfl, rfl, rfl⟩ := hcs
    exact row_of Value.bool (fun _ => rfl) false hl hm B (fun i hi => hcell i (by omega))
end Go.Proofs.Ytgoagpjmnobjhaa.Frames
