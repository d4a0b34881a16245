/- The engine, part 8: structs and rows that are built; len, min, max. -/
import Derived.Test.YtcegefhjgkoknaaE7
namespace Go.Proofs.Ytcegefhjgkoknaa.E
open Go.RowKit
set_option linter.unusedVariables false
set_option linter.unusedSimpArgs false

theorem foldl_splice : ∀ (l : List Value) (cs : Array Value) (off k : Nat), (l.zipIdx k).foldl (fun cs (x : Value × Nat) => cs.setIfInBounds (off + x.2) x.1) cs = splice cs (off + k) l
  | [], cs, off, k => rfl
  | v :: r, cs, off, k => by
    simp only [List.zipIdx_cons, List.foldl_cons, splice]
    rw [foldl_splice r _ off (k + 1)]
    rfl

def fillS (place : Nat → Option (Nat × Nat)) (cells : List SV) : List (Nat × SV) → Option (List SV)
  | [] => some cells
  | (i, s) :: r =>
    match place i, s.cells with
    | some (off, sz), some l =>
      bif Nat.beq l.length sz && Nat.ble (off + l.length) cells.length then fillS place (cells.take off ++ (l ++ cells.drop (off + l.length))) r else none
    | _, _ => none
theorem fillS_run {ρ : Env} {place : Nat → Option (Nat × Nat)} : ∀ {ps : List (Nat × SV)} {cells l : List SV}, fillS place cells ps = some l →
    Instr.fill place (cells.map (SV.den ρ)).toArray (ps.map fun x => (x.1, x.2.den ρ)) = some (l.map (SV.den ρ)).toArray
  | [], cells, l, h => by simp only [fillS] at h; obtain rfl := Option.some.inj h; rfl
  | (i, s) :: r, cells, l, h => by
    simp only [fillS] at h
    split at h
    · rename_i off sz cl hp hc
      cases hb : (Nat.beq cl.length sz && Nat.ble (off + cl.length) cells.length)
      · rw [hb] at h; cases h
      · rw [hb] at h
        simp only [cond_true] at h
        simp only [Bool.and_eq_true] at hb
        have hsz := Nat.eq_of_beq_eq_true hb.1
        have hle := Nat.le_of_ble_eq_true hb.2
        subst hsz
        have hd := SV.cells_den (ρ := ρ) hc
        simp only [List.map_cons, Instr.fill, hp, hd, List.size_toArray, List.length_map]
        have hcond : (decide ¬cl.length = cl.length || decide (off + cl.length > cells.length)) = false := by simp; omega
        rw [if_neg (by simp; omega)]
        rw [← fillS_run h]
        congr 1
        rw [← Array.foldl_toList]
        have := foldl_splice (cl.map (SV.den ρ)) (cells.map (SV.den ρ)).toArray off 0
        rw [Nat.add_zero, toArray_splice ρ cells cl off hle] at this
        rw [← this]
        congr 1
        simp [Array.toList_zipIdx]
    · cases h

def plcs (P : Program) : List Field → Option (List (Nat × Nat))
  | [] => some []
  | f :: r => match szOf P f.type, plcs P r with
    | some z, some l => some ((f.offset, z) :: l)
    | _, _ => none
theorem plcs_run {P : Program} (w : World) : ∀ {fs : List Field} {l : List (Nat × Nat)}, plcs P fs = some l →
    (fs.mapM (m := Sem) fun f => do pure (f.offset, ← sizeOf f.type)).run P w = .ok l w
  | [], l, h => by simp only [plcs] at h; obtain rfl := Option.some.inj h; simp
  | f :: r, l, h => by
    simp only [plcs] at h
    split at h
    · rename_i z l' h1 h2
      obtain rfl := Option.some.inj h
      simp only [List.mapM_cons, Sem.run_bind, run_sizeOf' w h1, Result.andThen_ok, Sem.run_pure, plcs_run w h2]
    · cases h

def cellsOfV (v : Value) : List SV := v.cells.toList.map ofCell
theorem cellsOfV_den (ρ : Env) (v : Value) : ((cellsOfV v).map (SV.den ρ)).toArray = v.cells := by
  rw [← SV.dens_eq, cellsOfV, ofCells_den, Array.toArray_toList]

def sBuild (P : Program) (t : TypeId) (ps : List (Nat × SV)) : Option SV :=
  match zrOf P t, P.underlying t with
  | some z, some (.struct fs) =>
    match plcs P fs.toList with
    | some pl => (fillS (fun i => pl[i]?) (cellsOfV z) ps).map .agg
    | none => none
  | some z, some (.array _ el) =>
    match szOf P el with
    | some k => (fillS (fun i => some (i * k, k)) (cellsOfV z) ps).map .agg
    | none => none
  | _, _ => none
theorem sBuild_run {P : Program} {t : TypeId} {ps : List (Nat × SV)} {s : SV} (h : sBuild P t ps = some s) (ρ : Env) (w : World) :
    (Instr.build t (ps.map fun x => (x.1, x.2.den ρ)).toArray).run P w = .ok (s.den ρ) w := by
  unfold sBuild at h
  split at h
  · rename_i z fs hz hu
    split at h
    · rename_i pl hp
      cases hf : fillS (fun i => pl[i]?) (cellsOfV z) ps with
      | none => rw [hf] at h; cases h
      | some l =>
        rw [hf] at h
        obtain rfl := Option.some.inj h
        have hr := fillS_run (ρ := ρ) hf
        rw [cellsOfV_den] at hr
        have hm : (fs.mapM (m := Sem) fun f => do pure (f.offset, ← sizeOf f.type)).run P w = .ok pl.toArray w := by
          rw [← Array.toArray_toList (xs := fs)]
          rw [List.mapM_toArray]
          simp only [Sem.run_map, plcs_run w hp, Result.andThen_ok]
        simp only [Instr.build, Sem.run_bind, run_zero' w hz, run_und w hu, Result.andThen_ok, hm]
        have he : (fun i : Nat => pl.toArray[i]?) = fun i : Nat => pl[i]? := by funext i; simp
        simp only [he, hr, Sem.run_pure, SV.den, SV.dens_eq]
    · cases h
  · rename_i z n el hz hu
    split at h
    · rename_i k hk
      cases hf : fillS (fun i => some (i * k, k)) (cellsOfV z) ps with
      | none => rw [hf] at h; cases h
      | some l =>
        rw [hf] at h
        obtain rfl := Option.some.inj h
        have hr := fillS_run (ρ := ρ) hf
        rw [cellsOfV_den] at hr
        simp only [Instr.build, Sem.run_bind, run_zero' w hz, run_und w hu, run_sizeOf' w hk, Result.andThen_ok, hr, Sem.run_pure, SV.den, SV.dens_eq]
    · cases h
  · cases h

/-! len, min, max -/
def sLen (P : Program) (L : Log) (t : TypeId) (x : SV) : Option SV :=
  match P.underlying t, x with
  | some (.slice _), .sl _ n _ => some (.int .i64 (mkNat n))
  | some (.slice _), .nils => some (.int .i64 (.lit 0))
  | some (.slice _), .lst id => match look (.h id) L with
    | some (.row _ (.lst _ _ n _)) => some (.int .i64 (mkNat n))
    | _ => none
  | some (.array n _), _ => some (.int .i64 (.lit n))
  | _, _ => none
theorem sLen_run {P : Program} {C : Ctx} {ρ : Env} {L : Log} {w : World} (H : HD C ρ L w) {t : TypeId} {x s : SV} (h : sLen P L t x = some s) (ts : Array TypeId) (ty : TypeId) (ht : ts[0]? = some t) :
    (Builtin.len_ ts ty #[x.den ρ]).run P w = .ok (s.den ρ) w := by
  unfold sLen at h
  split at h
  · rename_i e p n c hu; obtain rfl := Option.some.inj h
    simp [Builtin.len_, ht, run_und w hu, SV.den, mkNat_den, goInt]
  · rename_i e hu; obtain rfl := Option.some.inj h
    simp [Builtin.len_, ht, run_und w hu, SV.den, IE.den, goInt]
  · rename_i e id hu
    split at h
    · rename_i o el ks n le hl
      obtain rfl := Option.some.inj h
      have hh := H.rows id o _ hl
      have hv : ∃ a c, ρ.x id = .slice a (n.den ρ).toNat c := by
        cases hb : ρ.b id
        · obtain ⟨h0, hx⟩ := hh.1 hb
          rcases hx with (hx | ⟨a, hx⟩) | ⟨_, a, c, hx⟩ <;> rw [hx, h0] <;> exact ⟨_, _, rfl⟩
        · obtain ⟨cs, c, hx, _⟩ := hh.2 hb
          exact ⟨_, _, hx⟩
      obtain ⟨a, c, hx⟩ := hv
      simp [Builtin.len_, ht, run_und w hu, SV.den, mkNat_den, hx, goInt]
    · cases h
  · rename_i n el hu; obtain rfl := Option.some.inj h
    simp [Builtin.len_, ht, run_und w hu, SV.den, IE.den, goInt]
  · cases h

def sMx (mx : Bool) (k : IntKind) : IE → List SV → Option IE
  | a, [] => some a
  | a, .int j b :: r => bif kEq k j then sMx mx k (if mx then mkMx a b else mkMn a b) r else none
  | _, _ => none
def sMM (mx : Bool) : List SV → Option SV
  | .int k a :: r => (sMx mx k a r).map (.int k)
  | _ => none
theorem sMx_run {P : Program} {ρ : Env} (w : World) {k : IntKind} : ∀ {l : List SV} {a e : IE} {mx : Bool}, sMx mx k a l = some e →
    ((l.map (SV.den ρ)).foldlM (if mx then Builtin.max2 else Builtin.min2) (.int k (a.den ρ))).run P w = .ok (.int k (e.den ρ)) w
  | [], a, e, mx, h => by simp only [sMx] at h; obtain rfl := Option.some.inj h; rfl
  | s :: r, a, e, mx, h => by
    cases s with
    | int j b =>
      simp only [sMx] at h
      cases hk : kEq k j
      · rw [hk] at h; cases h
      · rw [hk] at h
        have := kEq_eq hk; subst this
        simp only [cond_true] at h
        have ih := sMx_run (P := P) (ρ := ρ) w h
        cases mx
        · simp only [Bool.false_eq_true, if_false] at ih h ⊢
          simp only [List.map_cons, List.foldlM_cons, Sem.run_bind, SV.den, Builtin.min2, Sem.run_pure, Result.andThen_ok]
          rw [mkMn_den] at ih; exact ih
        · simp only [if_true] at ih h ⊢
          simp only [List.map_cons, List.foldlM_cons, Sem.run_bind, SV.den, Builtin.max2, Sem.run_pure, Result.andThen_ok]
          rw [mkMx_den] at ih; exact ih
    | _ => simp only [sMx] at h; cases h
theorem sMM_run {P : Program} {ρ : Env} (w : World) {l : List SV} {s : SV} {mx : Bool} (h : sMM mx l = some s) (ts : Array TypeId) (ty : TypeId) :
    ((if mx then Builtin.max_ ts ty (l.map (SV.den ρ)).toArray else Builtin.min_ ts ty (l.map (SV.den ρ)).toArray)).run P w = .ok (s.den ρ) w := by
  cases l with
  | nil => simp only [sMM] at h; cases h
  | cons x r =>
    cases x with
    | int k a =>
      simp only [sMM] at h
      cases hx : sMx mx k a r with
      | none => rw [hx] at h; cases h
      | some e =>
        rw [hx] at h
        obtain rfl := Option.some.inj h
        have := sMx_run (P := P) (ρ := ρ) w hx
        cases mx
        · simpa [Builtin.min_, SV.den] using this
        · simpa [Builtin.max_, SV.den] using this
    | _ => simp only [sMM] at h; cases h
end Go.Proofs.Ytcegefhjgkoknaa.E
