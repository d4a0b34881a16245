/- The engine, part 5: writing places; new blocks. -/
import Derived.Test.YtcegefhjgkoknaaE4
namespace Go.Proofs.Ytcegefhjgkoknaa.E
open Go.RowKit
set_option linter.unusedVariables false
set_option linter.unusedSimpArgs false

/-- The world with another object in a block. -/
def putB (w : World) (b : Nat) (o : Obj) : World := { w with heap := w.heap.setIfInBounds b o }
theorem putB_size (w : World) (b : Nat) (o : Obj) : (putB w b o).heap.size = w.heap.size := by simp [putB]
theorem putB_other (w : World) (b : Nat) (o : Obj) {c : Nat} (h : c ≠ b) : (putB w b o).heap[c]? = w.heap[c]? := by
  simp only [putB, Array.getElem?_setIfInBounds]
  rw [if_neg (fun e => h e.symm)]
theorem putB_same (w : World) (b : Nat) (o : Obj) (h : b < w.heap.size) : (putB w b o).heap[b]? = some o := by
  simp only [putB, Array.getElem?_setIfInBounds, if_true, h]
theorem putB_putB (w : World) (b : Nat) (o o' : Obj) : putB (putB w b o) b o' = putB w b o' := by
  simp [putB]
theorem putB_self (w : World) (b : Nat) (o : Obj) (h : w.heap[b]? = some o) : putB w b o = w := by
  have hb := lt_of_some h
  have : w.heap.setIfInBounds b o = w.heap := by
    apply Array.ext_getElem?
    intro i
    rw [Array.getElem?_setIfInBounds]
    by_cases hi : b = i
    · subst hi; simp only [if_true, hb]; exact h.symm
    · rw [if_neg hi]
  simp only [putB, this]

theorem setCell_put {w : World} {b o : Nat} {cs : Array Value} {e : TypeId} {f : Nat × Nat} (h : w.heap[b]? = some (.cells cs e f)) (v : Value) :
    w.setCell ⟨b, o, none⟩ v = putB w b (.cells (cs.setIfInBounds o v) e f) := by
  have hb := lt_of_some h
  simp only [World.setCell, putB]
  congr 1
  apply Array.ext_getElem?
  intro i
  rw [Array.getElem?_modify, Array.getElem?_setIfInBounds]
  by_cases hi : b = i
  · subst hi; simp only [if_true, h, Option.map_some, hb]; simp
  · rw [if_neg hi, if_neg hi]

def splice (cs : Array Value) (p : Nat) : List Value → Array Value
  | [] => cs
  | v :: r => splice (cs.setIfInBounds p v) (p + 1) r
theorem splice_size : ∀ (vs : List Value) (cs : Array Value) (p : Nat), (splice cs p vs).size = cs.size
  | [], cs, p => rfl
  | v :: r, cs, p => by simp only [splice, splice_size r, Array.size_setIfInBounds]
theorem splice_get : ∀ (vs : List Value) (cs : Array Value) (p : Nat), p + vs.length ≤ cs.size → ∀ j, (splice cs p vs)[j]? = if p ≤ j ∧ j < p + vs.length then vs[j - p]? else cs[j]?
  | [], cs, p, h, j => by simp only [splice, List.length_nil]; rw [if_neg (by omega)]
  | v :: r, cs, p, h, j => by
    simp only [List.length_cons] at h
    rw [splice, splice_get r _ (p + 1) (by simp; omega) j, Array.getElem?_setIfInBounds, List.length_cons]
    by_cases h1 : p + 1 ≤ j ∧ j < p + 1 + r.length
    · rw [if_pos h1, if_pos (by omega), show j - p = (j - (p + 1)) + 1 by omega, List.getElem?_cons_succ]
    · rw [if_neg h1]
      by_cases h2 : p = j
      · subst h2; rw [if_pos rfl, if_pos (by omega), if_pos (by omega), Nat.sub_self]; rfl
      · rw [if_neg h2, if_neg (by omega)]

theorem run_storeCells (P : Program) : ∀ (vs : List Value) (w : World) (b o i : Nat) (cs : Array Value) (e : TypeId), w.heap[b]? = some (.cells cs e (0, 0)) → o + i + vs.length ≤ cs.size →
    (∀ v, v ∈ vs → v.oneCell' = true) → (storeCells ⟨b, o, none⟩ vs i).run P w = .ok () (putB w b (.cells (splice cs (o + i) vs) e (0, 0)))
  | [], w, b, o, i, cs, e, h, hl, hv => by simp only [storeCells, Sem.run_pure, splice, putB_self w b _ h]
  | v :: r, w, b, o, i, cs, e, h, hl, hv => by
    simp only [List.length_cons] at hl
    have hc : w.cell? ⟨b, o + i, none⟩ = some cs[o + i] := by rw [cell_of h]; exact Array.getElem?_eq_getElem (by omega)
    have hf : w.frozen? ⟨b, o + i, none⟩ = false := by simp [World.frozen?, h]
    simp only [storeCells, Sem.run_bind, add_none, run_store P w _ v .plain (hv v (.head _)), hc, hf, Result.andThen, Bool.false_eq_true, if_false, setCell_put h]
    rw [run_storeCells P r (putB w b (.cells (cs.setIfInBounds (o + i) v) e (0, 0))) b o (i + 1) _ e (putB_same _ _ _ (lt_of_some h)) (by simp; omega) (fun v' hv' => hv v' (.tail _ hv')), putB_putB]
    rfl

/-- One cell's values. -/
def SV.one (L : Log) : SV → Bool
  | .agg _ => false
  | .tup _ => false
  | .opq _ => false
  | .yv _ _ => false
  | .lst id => match look (.h id) L with
    | some (.row _ (.lst _ _ _ _)) => true
    | _ => false
  | .con v => v.oneCell'
  | _ => true
theorem SV.one_den {C : Ctx} {ρ : Env} {L : Log} {w : World} (H : HD C ρ L w) {s : SV} (h : s.one L = true) : (s.den ρ).oneCell' = true := by
  cases s <;> simp only [SV.one, Bool.false_eq_true] at h <;> first | rfl | (simp only [SV.den]; exact h) | skip
  rename_i id
  split at h
  · rename_i o e ks n le hl
    have hh := H.rows id o _ hl
    simp only [SV.den]
    cases hb : ρ.b id
    · rcases (hh.1 hb).2 with (g | ⟨a, g⟩) | ⟨_, a, c, g⟩ <;> rw [g] <;> rfl
    · obtain ⟨cs, c, hx, _⟩ := hh.2 hb
      rw [hx]; rfl
  · cases h

def svI (k : CK) (s : SV) : Option IE :=
  match k, s with
  | .int k, .int j e => bif kEq k j then some e else none
  | .bool, .b e => some (mkIteI e (.lit 1) (.lit 0))
  | _, _ => none
theorem svI_den {ρ : Env} {k : CK} {s : SV} {e : IE} (h : svI k s = some e) : ∀ i, s.den ρ = k.v ρ i (e.den ρ) := by
  intro i
  cases k <;> cases s <;> simp only [svI] at h <;> first | (cases h; done) | skip
  · rename_i k j e'
    cases hk : kEq k j
    · rw [hk] at h; cases h
    · rw [hk] at h; obtain rfl := Option.some.inj h; have := kEq_eq hk; subst this; rfl
  · rename_i e'
    obtain rfl := Option.some.inj h
    simp only [SV.den, CK.v, mkIteI_den, IE.den]
    cases e'.den ρ <;> rfl

def recPut (ks : List CK) (le : LE) (i : IE) (c : Nat) : List SV → Option LE
  | [] => some le
  | s :: r => match ks[c]? with
    | some k => match svI k s with
      | some e => recPut ks (.upd le i c e) i (c + 1) r
      | none => none
    | none => none
theorem recPut_den {ρ : Env} {ks : List CK} {i : IE} : ∀ {l : List SV} {le le' : LE} {c : Nat}, recPut ks le i c l = some le' →
    ∀ (a j : Nat) (k : CK), ks[j]? = some k → k.v ρ a (le'.den ρ a j) = if a = (i.den ρ).toNat ∧ c ≤ j ∧ j < c + l.length then ((l.map (SV.den ρ))[j - c]?).getD undef else k.v ρ a (le.den ρ a j)
  | [], le, le', c, h, a, j, k, hk => by
    simp only [recPut] at h
    obtain rfl := Option.some.inj h
    rw [if_neg]; simp only [List.length_nil]; omega
  | s :: r, le, le', c, h, a, j, k, hk => by
    simp only [recPut] at h
    split at h
    · rename_i k0 hk0
      split at h
      · rename_i e he
        rw [recPut_den h a j k hk]
        simp only [List.length_cons, List.map_cons, LE.den, updL]
        by_cases h1 : a = (i.den ρ).toNat ∧ c + 1 ≤ j ∧ j < c + 1 + r.length
        · rw [if_pos h1, if_pos ⟨h1.1, by omega, by omega⟩, show j - c = (j - (c + 1)) + 1 by omega, List.getElem?_cons_succ]
        · rw [if_neg h1]
          by_cases h2 : a = (i.den ρ).toNat ∧ j = c
          · obtain ⟨ha, rfl⟩ := h2
            rw [hk0] at hk
            obtain rfl := Option.some.inj hk
            rw [if_pos ⟨ha, rfl⟩, if_pos ⟨ha, by omega, by omega⟩, Nat.sub_self, ← svI_den he]; rfl
          · rw [if_neg h2, if_neg]
            rintro ⟨ha, hb, hd⟩
            exact (Decidable.not_and_iff_not_or_not.1 h1).elim (fun g => g ha) (fun g => by
              have : ¬ j = c := fun e => h2 ⟨ha, e⟩
              exact g ⟨by omega, by omega⟩)
      · cases h
    · cases h

theorem HD.put {C : Ctx} {ρ : Env} {L : Log} {w : World} (H : HD C ρ L w) {id : Nat} {r r' : Row} (hl : look (.h id) L = some (.row true r)) {b : Nat} {o : Obj} (hb : r.owns ρ id b)
    (hown : ∀ c, r'.owns ρ id c ↔ r.owns ρ id c) (hh : r'.holds ρ id (putB w b o)) : HD C ρ ((.h id, .row true r') :: L) (putB w b o) := by
  have hkb := H.own id r hl b hb
  refine ⟨fun id2 o2 r2 h2 => ?_, fun id2 r2 h2 c hc => ?_, fun id2 r2 h2 c hc => ?_, fun i j r1 r2 hij h1 h2 c hc1 hc2 => ?_, ⟨H.fr.os, H.fr.tape, H.fr.output, by rw [putB_size]; exact H.fr.size, fun c hc => ?_⟩⟩
  · rw [look_cons] at h2
    by_cases he : Key.h id = Key.h id2
    · rw [if_pos he] at h2
      obtain ⟨rfl, rfl⟩ := Ent.row.inj (Option.some.inj h2)
      obtain rfl := Key.h.inj he
      exact hh
    · rw [if_neg he] at h2
      refine Row.holds_same (H.rows id2 o2 r2 h2) fun c hc => putB_other _ _ _ ?_
      intro e
      subst e
      cases o2
      · exact hkb (H.ro id2 r2 h2 c hc)
      · exact H.sep id id2 r r2 (fun e => he (congrArg _ e)) hl h2 c hb hc
  · rw [look_cons] at h2
    by_cases he : Key.h id = Key.h id2
    · rw [if_pos he] at h2
      obtain ⟨_, rfl⟩ := Ent.row.inj (Option.some.inj h2)
      obtain rfl := Key.h.inj he
      exact H.own id r hl c ((hown c).1 hc)
    · rw [if_neg he] at h2; exact H.own id2 r2 h2 c hc
  · rw [look_cons] at h2
    by_cases he : Key.h id = Key.h id2
    · rw [if_pos he] at h2
      have := (Ent.row.inj (Option.some.inj h2)).1
      cases this
    · rw [if_neg he] at h2; exact H.ro id2 r2 h2 c hc
  · rw [look_cons] at h1 h2
    by_cases he1 : Key.h id = Key.h i
    · obtain rfl := Key.h.inj he1
      rw [if_pos rfl] at h1
      obtain ⟨_, rfl⟩ := Ent.row.inj (Option.some.inj h1)
      rw [if_neg (fun e => hij (Key.h.inj e))] at h2
      exact H.sep id j r r2 hij hl h2 c ((hown c).1 hc1) hc2
    · rw [if_neg he1] at h1
      by_cases he2 : Key.h id = Key.h j
      · obtain rfl := Key.h.inj he2
        rw [if_pos rfl] at h2
        obtain ⟨_, rfl⟩ := Ent.row.inj (Option.some.inj h2)
        exact H.sep i id r1 r hij h1 hl c hc1 ((hown c).1 hc2)
      · rw [if_neg he2] at h2
        exact H.sep i j r1 r2 hij h1 h2 c hc1 hc2
  · refine ⟨(H.fr.keep c hc).1, ?_⟩
    rw [putB_other _ _ _ (fun e => by subst e; exact hkb hc)]
    exact (H.fr.keep c hc).2

/-- What a store makes of a row. -/
def wr (L : Log) (p : PT) (vs : List SV) : Option (List F × Nat × Row) :=
  bif !(vs.all (SV.one L)) then none else
  match p with
  | .at id o =>
    match look (.h id) L with
    | some (.row true (.cells e l)) =>
      bif Nat.ble (o + vs.length) l.length then some ([], id, .cells e (l.take o ++ (vs ++ l.drop (o + vs.length)))) else none
    | _ => none
  | .ax _ _ _ _ => none
  | .el id i z o =>
    match look (.h id) L with
    | some (.row true (.lst e ks m le)) =>
      bif !(Nat.beq e 0) && (Nat.beq z ks.length && Nat.ble (o + vs.length) z) then
        match recPut ks le i o vs with
        | some le' => some ([.be (.cmp .lss (mkNat i) (mkNat m))], id, .lst e ks m le')
        | none => none
      else none
    | _ => none
  | .fm fa i o =>
    match look (.h fa) L with
    | some (.row true (.fam e ks m le)) =>
      bif Nat.ble (o + vs.length) ks.length then
        match recPut ks le i o vs with
        | some le' => some ([.be (.cmp .lss (mkNat i) (mkNat m))], fa, .fam e ks m le')
        | none => none
      else none
    | _ => none

theorem toArray_splice (ρ : Env) (l vs : List SV) (o : Nat) (h : o + vs.length ≤ l.length) :
    splice (l.map (SV.den ρ)).toArray o (vs.map (SV.den ρ)) = ((l.take o ++ (vs ++ l.drop (o + vs.length))).map (SV.den ρ)).toArray := by
  apply Array.ext_getElem?
  intro j
  rw [splice_get _ _ _ (by simpa using h)]
  simp only [List.length_map, List.getElem?_toArray, List.getElem?_map]
  by_cases h1 : j < o
  · rw [if_neg (by omega), List.getElem?_append_left (by simp; omega), List.getElem?_take_of_lt h1]
  · rw [List.getElem?_append_right (by simp; omega)]
    simp only [List.length_take]
    rw [Nat.min_eq_left (by omega)]
    by_cases h2 : j < o + vs.length
    · rw [if_pos ⟨by omega, h2⟩, List.getElem?_append_left (by omega)]
    · rw [if_neg (by omega), List.getElem?_append_right (by omega), List.getElem?_drop]
      congr 2; omega

theorem wr_run {C : Ctx} {ρ : Env} {L : Log} {w : World} (H : HD C ρ L w) {p : PT} {vs : List SV} {v : List F} {id : Nat} {r' : Row} (h : wr L p vs = some (v, id, r')) (hv : allH ρ v) (P : Program) :
    ∃ w', (storeCells (p.addr ρ) (vs.map (SV.den ρ))).run P w = .ok () w' ∧ HD C ρ ((.h id, .row true r') :: L) w' := by
  unfold wr at h
  cases hone : vs.all (SV.one L)
  · simp only [hone, Bool.not_false, cond_true] at h; cases h
  · simp only [hone, Bool.not_true, cond_false] at h
    have hcell : ∀ x, x ∈ vs.map (SV.den ρ) → x.oneCell' = true := by
      intro x hx
      obtain ⟨s, hs, rfl⟩ := List.mem_map.1 hx
      exact SV.one_den H (List.all_eq_true.1 hone s hs)
    cases p with
    | «at» id0 o =>
      simp only at h
      split at h
      · rename_i e l hl
        cases hb : Nat.ble (o + vs.length) l.length
        · simp only [hb, cond_false] at h; cases h
        · simp only [hb, cond_true] at h
          obtain ⟨rfl, h'⟩ := Prod.mk.inj (Option.some.inj h)
          obtain ⟨rfl, rfl⟩ := Prod.mk.inj h'
          have hle := Nat.le_of_ble_eq_true hb
          have hh := H.rows id0 true _ hl
          simp only [Row.holds] at hh
          refine ⟨_, run_storeCells P _ w (ρ.k id0) o 0 _ e hh (by simpa using hle) hcell, ?_⟩
          refine H.put hl (b := ρ.k id0) rfl (fun c => Iff.rfl) ?_
          simp only [Row.holds, Nat.add_zero]
          rw [putB_same _ _ _ (lt_of_some hh), toArray_splice ρ l vs o hle]
      · cases h
    | ax id0 o i z => cases h
    | el id0 i z o =>
      simp only at h
      split at h
      · rename_i e ks m le hl
        cases hb : (!(Nat.beq e 0) && (Nat.beq z ks.length && Nat.ble (o + vs.length) z))
        · simp only [hb, cond_false] at h; cases h
        · simp only [hb, cond_true] at h
          simp only [Bool.and_eq_true, Bool.not_eq_true'] at hb
          obtain ⟨he0, hb⟩ := hb
          have hz := Nat.eq_of_beq_eq_true hb.1
          subst hz
          have hle := Nat.le_of_ble_eq_true hb.2
          split at h
          · rename_i le' hle'
            obtain ⟨rfl, h'⟩ := Prod.mk.inj (Option.some.inj h)
            obtain ⟨rfl, rfl⟩ := Prod.mk.inj h'
            obtain ⟨hno, hyes⟩ := H.rows id0 true _ hl
            have hlt := lss_den (allH_cons.1 hv).1
            simp only [mkNat_den] at hlt
            cases hbb : ρ.b id0
            · have := (hno hbb).1; omega
            · obtain ⟨cs, cp, hx, hcs, hsz, hmc, hget⟩ := hyes hbb
              have hcs := hcs.get he0
              have hsz : (ρ.i id0).toNat + cp * ks.length ≤ cs.size := by
                rcases hsz with g | g
                · subst g; cases he0
                · exact g
              have hi : (i.den ρ).toNat < (m.den ρ).toNat := by omega
              have hmul := Nat.mul_le_mul_right ks.length (show (i.den ρ).toNat + 1 ≤ cp by omega)
              rw [Nat.add_mul, Nat.one_mul] at hmul
              have hfit : (ρ.i id0).toNat + (i.den ρ).toNat * ks.length + o + 0 + (vs.map (SV.den ρ)).length ≤ cs.size := by
                rw [List.length_map]; omega
              refine ⟨_, run_storeCells P _ w (ρ.k id0) ((ρ.i id0).toNat + (i.den ρ).toNat * ks.length + o) 0 cs e hcs hfit hcell, ?_⟩
              refine H.put hl (b := ρ.k id0) ⟨hbb, rfl⟩ (fun c => Iff.rfl) ⟨fun hf => absurd (hbb.symm.trans hf) (by decide), fun _ => ?_⟩
              refine ⟨_, cp, hx, .inl (putB_same _ _ _ (lt_of_some hcs)), .inr (by rw [splice_size]; exact hsz), hmc, fun a ha j k hk => ?_⟩
              have hjk : j < ks.length := (List.getElem?_eq_some_iff.1 hk).1
              rw [splice_get _ _ _ (by simpa using hfit), List.length_map]
              have hput := recPut_den (ρ := ρ) hle' a j k hk
              have hiff : ((ρ.i id0).toNat + (i.den ρ).toNat * ks.length + o + 0 ≤ (ρ.i id0).toNat + a * ks.length + j ∧ (ρ.i id0).toNat + a * ks.length + j < (ρ.i id0).toNat + (i.den ρ).toNat * ks.length + o + 0 + vs.length) ↔ (a = (i.den ρ).toNat ∧ o ≤ j ∧ j < o + vs.length) := by
                generalize (i.den ρ).toNat = q at *
                constructor
                · intro hh
                  have haq : a = q := by
                    rcases Nat.lt_trichotomy a q with g | g | g
                    · have := Nat.mul_le_mul_right ks.length (show a + 1 ≤ q by omega)
                      rw [Nat.add_mul, Nat.one_mul] at this; omega
                    · exact g
                    · have := Nat.mul_le_mul_right ks.length (show q + 1 ≤ a by omega)
                      rw [Nat.add_mul, Nat.one_mul] at this; omega
                  subst haq
                  exact ⟨rfl, by omega, by omega⟩
                · rintro ⟨rfl, g1, g2⟩; omega
              by_cases hc : a = (i.den ρ).toNat ∧ o ≤ j ∧ j < o + vs.length
              · rw [if_pos (hiff.2 hc), hput, if_pos hc]
                obtain ⟨rfl, g1, g2⟩ := hc
                rw [show (ρ.i id0).toNat + (i.den ρ).toNat * ks.length + j - ((ρ.i id0).toNat + (i.den ρ).toNat * ks.length + o + 0) = j - o by omega]
                rw [List.getElem?_eq_getElem (by simp; omega)]; rfl
              · rw [if_neg (fun g => hc (hiff.1 g)), hput, if_neg hc]
                exact hget a ha j k hk
          · cases h
      · cases h
    | fm fa i o =>
      simp only at h
      split at h
      · rename_i e ks m le hl
        cases hb : Nat.ble (o + vs.length) ks.length
        · simp only [hb, cond_false] at h; cases h
        · simp only [hb, cond_true] at h
          have hle := Nat.le_of_ble_eq_true hb
          split at h
          · rename_i le' hle'
            obtain ⟨rfl, h'⟩ := Prod.mk.inj (Option.some.inj h)
            obtain ⟨rfl, rfl⟩ := Prod.mk.inj h'
            obtain ⟨hrow, hinj⟩ := H.rows fa true _ hl
            have hlt := lss_den (allH_cons.1 hv).1
            simp only [mkNat_den] at hlt
            have hi : (i.den ρ).toNat < (m.den ρ).toNat := by omega
            obtain ⟨cs, hcs, hsz, hget⟩ := hrow _ hi
            have hfit : o + 0 + (vs.map (SV.den ρ)).length ≤ cs.size := by rw [hsz, List.length_map]; omega
            refine ⟨_, run_storeCells P _ w (ρ.f fa (i.den ρ).toNat) o 0 cs e hcs hfit hcell, ?_⟩
            refine H.put hl (b := ρ.f fa (i.den ρ).toNat) ⟨_, hi, rfl⟩ (fun c => Iff.rfl) ⟨fun a ha => ?_, hinj⟩
            by_cases hai : a = (i.den ρ).toNat
            · subst hai
              refine ⟨_, putB_same _ _ _ (lt_of_some hcs), by rw [splice_size]; exact hsz, fun j k hk => ?_⟩
              have hjk : j < ks.length := (List.getElem?_eq_some_iff.1 hk).1
              rw [splice_get _ _ _ (by simpa using hfit), recPut_den (ρ := ρ) hle' _ j k hk, List.length_map]
              by_cases hc : o + 0 ≤ j ∧ j < o + 0 + vs.length
              · rw [if_pos hc, if_pos ⟨rfl, by omega, by omega⟩, Nat.add_zero]
                rw [List.getElem?_eq_getElem (by simp; omega)]; rfl
              · rw [if_neg hc, if_neg (fun g => hc ⟨by omega, by omega⟩)]
                exact hget j k hk
            · obtain ⟨cs2, hcs2, hsz2, hget2⟩ := hrow a ha
              refine ⟨cs2, by rw [putB_other _ _ _ (fun e => hai (hinj _ _ ha hi e))]; exact hcs2, hsz2, fun j k hk => ?_⟩
              rw [recPut_den (ρ := ρ) hle' _ j k hk, if_neg (fun g => hai g.1)]
              exact hget2 j k hk
          · cases h
      · cases h
end Go.Proofs.Ytcegefhjgkoknaa.E
