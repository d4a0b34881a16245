/- The engine, part 4: reading places. -/
import Derived.Test.YtcegefhjgkoknaaE3
namespace Go.Proofs.Ytcegefhjgkoknaa.E
open Go.RowKit
set_option linter.unusedVariables false
set_option linter.unusedSimpArgs false

def ckSV (k : CK) (i : IE) (e : IE) : SV :=
  match k with
  | .int k => .int k e
  | .bool => .b (mkCmp .neq e (.lit 0))
  | .ptr fa => .ptr (.fm fa i 0)
  | .val fa => .yv fa i
theorem ckSV_den (ρ : Env) (k : CK) (i e : IE) : (ckSV k i e).den ρ = k.v ρ (i.den ρ).toNat (e.den ρ) := by
  cases k <;> simp only [ckSV, SV.den, CK.v, mkCmp_den, cmpI, IE.den, PT.addr]

def recCells (ks : List CK) (le : LE) (i : IE) (c : Nat) : Nat → Option (List SV)
  | 0 => some []
  | n + 1 => match ks[c]?, recCells ks le i (c + 1) n with
    | some k, some r => some (ckSV k i (mkGet le i c) :: r)
    | _, _ => none
theorem recCells_den {ρ : Env} {ks : List CK} {le : LE} {i : IE} : ∀ {n c : Nat} {l : List SV}, recCells ks le i c n = some l →
    l.length = n ∧ ∀ j, j < n → ∃ k s, ks[c + j]? = some k ∧ l[j]? = some s ∧ s.den ρ = k.v ρ (i.den ρ).toNat (le.den ρ (i.den ρ).toNat (c + j))
  | 0, c, l, h => by simp only [recCells] at h; obtain rfl := Option.some.inj h; exact ⟨rfl, fun j hj => absurd hj (by omega)⟩
  | n + 1, c, l, h => by
    simp only [recCells] at h
    split at h
    · rename_i k r h1 h2
      obtain rfl := Option.some.inj h
      obtain ⟨hl, hr⟩ := recCells_den (ρ := ρ) h2
      refine ⟨by simp [hl], fun j hj => ?_⟩
      cases j with
      | zero => exact ⟨k, _, h1, rfl, by simp only [ckSV_den, mkGet_den, Nat.add_zero]⟩
      | succ j =>
        obtain ⟨k', s, a, b, d⟩ := hr j (by omega)
        exact ⟨k', s, by rw [show c + (j + 1) = c + 1 + j by omega]; exact a, by simpa using b, by rw [show c + (j + 1) = c + 1 + j by omega]; exact d⟩
    · cases h

/-- Every z-th of a list. -/
def strd (z : Nat) : Nat → List SV → List SV
  | 0, _ => []
  | f + 1, l => match l with
    | [] => []
    | s :: _ => s :: strd z f (l.drop z)
theorem strd_get (z : Nat) : ∀ (f : Nat) (l : List SV) (j : Nat) (s : SV), (strd z f l)[j]? = some s → l[j * z]? = some s
  | 0, l, j, s, h => by simp [strd] at h
  | f + 1, [], j, s, h => by simp [strd] at h
  | f + 1, t :: l, j, s, h => by
    cases j with
    | zero => simpa [strd] using h
    | succ j =>
      simp only [strd, List.getElem?_cons_succ] at h
      have := strd_get z f _ j s h
      rw [List.getElem?_drop] at this
      rw [show (j + 1) * z = z + j * z by rw [Nat.succ_mul]; omega]
      exact this

/-- One of several numbers of one kind, by its place. -/
def selI (k : IntKind) (i : IE) : Nat → List SV → Option IE
  | _, [] => none
  | _, [.int k' e] => bif kEq k k' then some e else none
  | j, .int k' e :: r => bif kEq k k' then (match selI k i (j + 1) r with
      | some x => some (mkIteI (mkCmp .eql i (.lit j)) e x)
      | none => none) else none
  | _, _ => none
theorem selI_den {ρ : Env} {k : IntKind} {i : IE} : ∀ {l : List SV} {j : Nat} {e : IE}, selI k i j l = some e → ∀ m : Nat, m < l.length → i.den ρ = (j + m : Nat) → ∃ s, l[m]? = some s ∧ s.den ρ = .int k (e.den ρ)
  | [], j, e, h, m, hm, _ => by simp at hm
  | s :: r, j, e, h, m, hm, hi => by
    cases s with
    | int k' e' =>
      cases hk : kEq k k'
      · cases r <;> simp only [selI, hk, cond_false] at h <;> cases h
      · have := kEq_eq hk; subst this
        cases r with
        | nil =>
          simp only [selI, hk, cond_true] at h
          obtain rfl := Option.some.inj h
          have : m = 0 := by simp at hm; omega
          subst this
          exact ⟨_, rfl, rfl⟩
        | cons t r =>
          simp only [selI, hk, cond_true] at h
          split at h
          · rename_i x hx
            obtain rfl := Option.some.inj h
            cases m with
            | zero =>
              refine ⟨_, rfl, ?_⟩
              simp only [SV.den, mkIteI_den, mkCmp_den, cmpI, IE.den, hi, Nat.add_zero, beq_self_eq_true, if_true]
            | succ m =>
              obtain ⟨s, a, b⟩ := selI_den (ρ := ρ) hx m (by simp at hm ⊢; omega) (by rw [hi]; congr 1; omega)
              refine ⟨s, by simpa using a, ?_⟩
              rw [b]
              simp only [mkIteI_den, mkCmp_den, cmpI, IE.den, hi]
              rw [if_neg]
              simp only [beq_iff_eq]
              omega
          · cases h
    | _ => cases r <;> simp only [selI] at h <;> cases h

/-- What lies at a place, and what must hold for it. -/
def rd (L : Log) (p : PT) (n : Nat) : Option (List F × List SV) :=
  match p with
  | .at id o =>
    match look (.h id) L with
    | some (.row _ (.cells _ l)) =>
      let r := (l.drop o).take n
      bif Nat.beq r.length n then some ([], r) else none
    | _ => none
  | .ax id o i z =>
    match look (.h id) L with
    | some (.row _ (.cells _ l)) =>
      match strd z l.length (l.drop o) with
      | .int k e :: r =>
        bif Nat.beq n 1 then
          match selI k (mkNat i) 0 (.int k e :: r) with
          | some x => some ([.be (.cmp .lss (mkNat i) (.lit (r.length + 1 : Nat)))], [.int k x])
          | none => none
        else none
      | _ => none
    | _ => none
  | .fm fa i o =>
    match look (.h fa) L with
    | some (.row _ (.fam _ ks m le)) =>
      match recCells ks le i o n with
      | some r => some ([.be (.cmp .lss (mkNat i) (mkNat m))], r)
      | none => none
    | _ => none
  | .el id i z o =>
    match look (.h id) L with
    | some (.row _ (.lst _ ks m le)) =>
      bif Nat.beq z ks.length then
        match recCells ks le i o n with
        | some r => some ([.be (.cmp .lss (mkNat i) (mkNat m))], r)
        | none => none
      else none
    | _ => none

theorem cell_of {w : World} {b o : Nat} {cs : Array Value} {e : TypeId} {f : Nat × Nat} (h : w.heap[b]? = some (.cells cs e f)) : w.cell? ⟨b, o, none⟩ = cs[o]? := by
  simp only [World.cell?, h, Option.isSome_none, Bool.false_eq_true, if_false]
theorem add_none (b o j : Nat) : (⟨b, o, none⟩ : Addr).add j = ⟨b, o + j, none⟩ := by
  unfold Addr.add; split <;> simp_all

theorem lss_den {ρ : Env} {a b : IE} (h : (F.be (.cmp .lss a b)).holds ρ) : a.den ρ < b.den ρ := by
  simpa [F.holds, BE.den, cmpI] using h

theorem rd_cells {C : Ctx} {ρ : Env} {L : Log} {w : World} (H : HD C ρ L w) {p : PT} {n : Nat} {v : List F} {l : List SV} (h : rd L p n = some (v, l)) (hv : allH ρ v) :
    l.length = n ∧ ∀ j s, l[j]? = some s → w.cell? ((p.addr ρ).add j) = some (s.den ρ) := by
  cases p with
  | «at» id o =>
    simp only [rd] at h
    split at h
    · rename_i ow e l0 hl
      cases hb : Nat.beq ((l0.drop o).take n).length n
      · simp only [hb, cond_false] at h; cases h
      · simp only [hb, cond_true] at h
        obtain ⟨rfl, rfl⟩ := Prod.mk.inj (Option.some.inj h)
        refine ⟨Nat.eq_of_beq_eq_true hb, fun j s hs => ?_⟩
        have hh := H.rows id ow _ hl
        simp only [Row.holds] at hh
        rw [PT.addr, add_none, cell_of hh]
        have hjn : j < n := by
          have := List.getElem?_eq_some_iff.1 hs
          obtain ⟨hlt, _⟩ := this
          rw [Nat.eq_of_beq_eq_true hb] at hlt
          exact hlt
        rw [List.getElem?_take_of_lt hjn, List.getElem?_drop] at hs
        simp [hs]
    · cases h
  | ax id o i z =>
    simp only [rd] at h
    split at h
    · rename_i ow e l0 hl
      split at h
      · rename_i k e0 r hst
        cases hb : Nat.beq n 1
        · simp only [hb, cond_false] at h; cases h
        · simp only [hb, cond_true] at h
          split at h
          · rename_i x hx
            obtain ⟨rfl, rfl⟩ := Prod.mk.inj (Option.some.inj h)
            refine ⟨(Nat.eq_of_beq_eq_true hb).symm, fun j s hs => ?_⟩
            have hh := H.rows id ow _ hl
            simp only [Row.holds] at hh
            have hlt := lss_den (allH_cons.1 hv).1
            simp only [IE.den, mkNat_den] at hlt
            cases j with
            | zero =>
              obtain rfl := Option.some.inj hs
              obtain ⟨s, hs1, hs2⟩ := selI_den (ρ := ρ) hx (i.den ρ).toNat (by simp only [List.length_cons]; omega) (by rw [mkNat_den]; simp)
              rw [← hst] at hs1
              have h3 := strd_get z _ _ _ _ hs1
              rw [List.getElem?_drop] at h3
              rw [PT.addr, add_none, cell_of hh, Nat.add_zero]
              simp only [List.getElem?_toArray, List.getElem?_map, h3, Option.map_some, hs2, SV.den]
            | succ j => simp at hs
          · cases h
      · cases h
    · cases h
  | fm fa i o =>
    simp only [rd] at h
    split at h
    · rename_i ow e ks m le hl
      split at h
      · rename_i r hr
        obtain ⟨rfl, rfl⟩ := Prod.mk.inj (Option.some.inj h)
        obtain ⟨hlen, hc⟩ := recCells_den (ρ := ρ) hr
        refine ⟨hlen, fun j s hs => ?_⟩
        obtain ⟨hrow, hinj⟩ := H.rows fa ow _ hl
        have hlt := lss_den (allH_cons.1 hv).1
        simp only [mkNat_den] at hlt
        obtain ⟨cs, hcs, hz, hget⟩ := hrow (i.den ρ).toNat (by omega)
        have hj : j < n := by
          have := (List.getElem?_eq_some_iff.1 hs).1; omega
        obtain ⟨k, s', hk, hs', hd⟩ := hc j hj
        rw [hs] at hs'
        obtain rfl := Option.some.inj hs'
        rw [PT.addr, add_none, cell_of hcs, hd]
        exact hget _ k hk
      · cases h
    · cases h
  | el id i z o =>
    simp only [rd] at h
    split at h
    · rename_i ow e ks m le hl
      cases hb : Nat.beq z ks.length
      · simp only [hb, cond_false] at h; cases h
      · simp only [hb, cond_true] at h
        have hzk := Nat.eq_of_beq_eq_true hb
        subst hzk
        split at h
        · rename_i r hr
          obtain ⟨rfl, rfl⟩ := Prod.mk.inj (Option.some.inj h)
          obtain ⟨hlen, hc⟩ := recCells_den (ρ := ρ) hr
          refine ⟨hlen, fun j s hs => ?_⟩
          obtain ⟨hno, hyes⟩ := H.rows id ow _ hl
          have hlt := lss_den (allH_cons.1 hv).1
          simp only [mkNat_den] at hlt
          cases hbb : ρ.b id
          · have := (hno hbb).1; omega
          · obtain ⟨cs, c, hx, hcs, hsz, hmc, hget⟩ := hyes hbb
            have hj : j < n := by
              have := (List.getElem?_eq_some_iff.1 hs).1; omega
            obtain ⟨k, s', hk, hs', hd⟩ := hc j hj
            rw [hs] at hs'
            obtain rfl := Option.some.inj hs'
            rw [PT.addr, add_none, hcs.cell, hd, Nat.add_assoc]
            exact hget (i.den ρ).toNat (by omega) _ k hk
        · cases h
    · cases h
end Go.Proofs.Ytcegefhjgkoknaa.E
