/- The engine, part 22: loops with an invariant. -/
import Derived.Test.YtcegefhjgkoknaaE21
namespace Go.Proofs.Ytcegefhjgkoknaa.E
open Go.RowKit
set_option linter.unusedVariables false
set_option linter.unusedSimpArgs false

/-- What a loop changes: a slot's number or truth, a cell's, what a family of blocks bears. -/
inductive Item where
  | ri (t : Nat)
  | rb (t : Nat)
  | ci (id o : Nat)
  | cb (id o : Nat)
  | fm (id : Nat)
def sameL : List Int → List (Nat → Nat → Int) → Prop := fun _ ls => match ls with
  | [a, b] => a = b
  | _ => False

def hav1 (it : Item) (v : Nat) (b : Br) : Option (Br × List F) :=
  match it with
  | .ri t => match look (.r t) b.R with
    | some (.reg (.lit true) (.int k e)) => some ({ b with R := (.r t, .reg (.lit true) (.int k (.var v))) :: b.R }, [.be (.cmp .eql (.var v) e)])
    | _ => none
  | .rb t => match look (.r t) b.R with
    | some (.reg (.lit true) (.b e)) => some ({ b with R := (.r t, .reg (.lit true) (.b (.var v))) :: b.R }, [.be (.eqb (.var v) e)])
    | _ => none
  | .ci id o => match look (.h id) b.H with
    | some (.row true (.cells el l)) => match l[o]? with
      | some (.int k e) => some ({ b with H := (.h id, .row true (.cells el (l.set o (.int k (.var v))))) :: b.H, pre := (.h id, .row true (.cells el (l.set o (.int k (.var v))))) :: b.pre }, [.be (.cmp .eql (.var v) e)])
      | _ => none
    | _ => none
  | .cb id o => match look (.h id) b.H with
    | some (.row true (.cells el l)) => match l[o]? with
      | some (.b e) => some ({ b with H := (.h id, .row true (.cells el (l.set o (.b (.var v))))) :: b.H, pre := (.h id, .row true (.cells el (l.set o (.b (.var v))))) :: b.pre }, [.be (.eqb (.var v) e)])
      | _ => none
    | _ => none
  | .fm id => match look (.h id) b.H with
    | some (.row true (.fam el ks n le)) => some ({ b with H := (.h id, .row true (.fam el ks n (.var v))) :: b.H, pre := (.h id, .row true (.fam el ks n (.var v))) :: b.pre }, [.rel sameL [] [.var v, le]])
    | _ => none

theorem HD.repl {C : Ctx} {ρ : Env} {L : Log} {w : World} (H : HD C ρ L w) {id : Nat} {r r' : Row} (hl : look (.h id) L = some (.row true r)) (hown : ∀ c, r'.owns ρ id c ↔ r.owns ρ id c) (hh : r'.holds ρ id w) : HD C ρ ((.h id, .row true r') :: L) w := by
  have back : ∀ i o x, look (.h i) ((.h id, .row true r') :: L) = some (.row o x) → ∃ y, look (.h i) L = some (.row o y) ∧ (∀ c, x.owns ρ i c ↔ y.owns ρ i c) ∧ x.holds ρ i w := by
    intro i o x h
    rw [look_cons] at h
    by_cases he : Key.h id = Key.h i
    · obtain rfl := Key.h.inj he
      rw [if_pos rfl] at h
      obtain ⟨rfl, rfl⟩ := Ent.row.inj (Option.some.inj h)
      exact ⟨r, hl, hown, hh⟩
    · rw [if_neg he] at h
      exact ⟨x, h, fun c => Iff.rfl, H.rows i o x h⟩
  refine ⟨fun i o x h => ?_, fun i x h c hc => ?_, fun i x h c hc => ?_, fun i j x y hij h1 h2 c hc1 hc2 => ?_, H.fr⟩
  · obtain ⟨y, _, _, h3⟩ := back i o x h; exact h3
  · obtain ⟨y, h1, h2, _⟩ := back i true x h; exact H.own i y h1 c ((h2 c).1 hc)
  · obtain ⟨y, h1, h2, _⟩ := back i false x h; exact H.ro i y h1 c ((h2 c).1 hc)
  · obtain ⟨x', a1, a2, _⟩ := back i true x h1
    obtain ⟨y', b1, b2, _⟩ := back j true y h2
    exact H.sep i j x' y' hij a1 b1 c ((a2 c).1 hc1) ((b2 c).1 hc2)

def setI (ρ : Env) (n : Nat) (z : Int) : Env := { ρ with i := fun v => if v = n then z else ρ.i v }
def setB (ρ : Env) (n : Nat) (z : Bool) : Env := { ρ with b := fun v => if v = n then z else ρ.b v }
def setL (ρ : Env) (n : Nat) (z : Nat → Nat → Int) : Env := { ρ with l := fun v => if v = n then z else ρ.l v }
theorem setI_agr (ρ : Env) (n : Nat) (z : Int) : Agr n (n + 1) ρ (setI ρ n z) := by
  constructor <;> intro v hv <;> first | rfl | (simp only [setI]; rw [if_neg (by omega)])
theorem setB_agr (ρ : Env) (n : Nat) (z : Bool) : Agr n (n + 1) ρ (setB ρ n z) := by
  constructor <;> intro v hv <;> first | rfl | (simp only [setB]; rw [if_neg (by omega)])
theorem setL_agr (ρ : Env) (n : Nat) (z : Nat → Nat → Int) : Agr n (n + 1) ρ (setL ρ n z) := by
  constructor <;> intro v hv <;> first | rfl | (simp only [setL]; rw [if_neg (by omega)])
theorem off_lt {v m : Nat} (h : v < m) : off m BIG v = true := by
  unfold off; rw [Bool.or_eq_true]; exact .inl (Nat.ble_eq_true_of_le h)

theorem SV.avos_set {lo hi : Nat} {s : SV} (hs : s.avo lo hi = true) : ∀ {l : List SV} {o : Nat}, SV.avos lo hi l = true → SV.avos lo hi (l.set o s) = true
  | [], o, h => h
  | x :: l, 0, h => by simp only [SV.avos, Bool.and_eq_true] at h; simp only [List.set_cons_zero, SV.avos, hs, h.2, Bool.and_self]
  | x :: l, o + 1, h => by simp only [SV.avos, Bool.and_eq_true] at h; simp only [List.set_cons_succ, SV.avos, h.1, SV.avos_set hs h.2, Bool.and_self]
theorem map_set_same {ρ : Env} {s t : SV} : ∀ {l : List SV} {o : Nat}, l[o]? = some s → t.den ρ = s.den ρ → (l.set o t).map (SV.den ρ) = l.map (SV.den ρ)
  | [], o, h, _ => by simp at h
  | x :: l, 0, h, he => by obtain rfl := Option.some.inj h; simp only [List.set_cons_zero, List.map_cons, he]
  | x :: l, o + 1, h, he => by simp only [List.set_cons_succ, List.map_cons]; rw [map_set_same (by simpa using h) he]

theorem SV.avos_get {lo hi : Nat} : ∀ {l : List SV} {o : Nat} {s : SV}, SV.avos lo hi l = true → l[o]? = some s → s.avo lo hi = true
  | [], o, s, _, h => by simp at h
  | x :: l, 0, s, g, h => by obtain rfl := Option.some.inj h; simp only [SV.avos, Bool.and_eq_true] at g; exact g.1
  | x :: l, o + 1, s, g, h => by simp only [SV.avos, Bool.and_eq_true] at g; exact SV.avos_get g.2 (by simpa using h)

theorem hav1_ok {it : Item} {v : Nat} {b b' : Br} {eqs : List F} (h : hav1 it v b = some (b', eqs)) {base : Log} (hws : b.ws base v) (hv : v + 1 ≤ BIG) {C : Ctx} {nt : Nat} {ρ : Env} {a : Act} {w : World} (hb : BrS C nt ρ b a w) :
    ∃ ρ', Agr v (v + 1) ρ ρ' ∧ BrS C nt ρ' b' a w ∧ allH ρ' eqs := by
  cases it with
  | ri t =>
    simp only [hav1] at h
    split at h
    · rename_i k e hl
      simp only [Option.some.injEq, Prod.mk.injEq] at h; obtain ⟨rfl, rfl⟩ := h
      have hea := (Log.avo_look hws.2.2.1 hl).2
      simp only [Ent.avo, SV.avo, BE.avo, Bool.true_and] at hea
      have hag := setI_agr ρ v (e.den ρ)
      have hb' := hb.agr hws hag hv
      have he : e.den (setI ρ v (e.den ρ)) = e.den ρ := IE.den_agr hag e (IE.avo_mono (Nat.le_refl _) hv _ hea)
      refine ⟨_, hag, ⟨hb'.g, hb'.pc, hb'.hd, hb'.rd.defers, hb'.rd.size, fun t' c s hl' => ?_⟩, allH_cons.2 ⟨?_, allH_nil _⟩⟩
      · rw [look_cons] at hl'
        by_cases ht : Key.r t = Key.r t'
        · obtain rfl := Key.r.inj ht
          rw [if_pos rfl] at hl'
          obtain ⟨rfl, rfl⟩ := Ent.reg.inj (Option.some.inj hl')
          rw [hb'.rd.regs t _ _ hl]
          simp only [SV.den, IE.den, he, BE.den]
          simp [setI]
        · rw [if_neg ht] at hl'; exact hb'.rd.regs t' c s hl'
      · simp only [F.holds, BE.den, cmpI, IE.den, he]; simp [setI]
    · cases h
  | rb t =>
    simp only [hav1] at h
    split at h
    · rename_i e hl
      simp only [Option.some.injEq, Prod.mk.injEq] at h; obtain ⟨rfl, rfl⟩ := h
      have hea := (Log.avo_look hws.2.2.1 hl).2
      simp only [Ent.avo, SV.avo, BE.avo, Bool.true_and] at hea
      have hag := setB_agr ρ v (e.den ρ)
      have hb' := hb.agr hws hag hv
      have he : e.den (setB ρ v (e.den ρ)) = e.den ρ := BE.den_agr hag e (BE.avo_mono (Nat.le_refl _) hv _ hea)
      refine ⟨_, hag, ⟨hb'.g, hb'.pc, hb'.hd, hb'.rd.defers, hb'.rd.size, fun t' c s hl' => ?_⟩, allH_cons.2 ⟨?_, allH_nil _⟩⟩
      · rw [look_cons] at hl'
        by_cases ht : Key.r t = Key.r t'
        · obtain rfl := Key.r.inj ht
          rw [if_pos rfl] at hl'
          obtain ⟨rfl, rfl⟩ := Ent.reg.inj (Option.some.inj hl')
          rw [hb'.rd.regs t _ _ hl]
          simp only [SV.den, he, BE.den]
          simp [setB]
        · rw [if_neg ht] at hl'; exact hb'.rd.regs t' c s hl'
      · simp only [F.holds, BE.den, he]; simp [setB]
    · cases h
  | ci id o =>
    simp only [hav1] at h
    split at h
    · rename_i el l hl
      split at h
      · rename_i k e hlo
        simp only [Option.some.injEq, Prod.mk.injEq] at h; obtain ⟨rfl, rfl⟩ := h
        have hla := (Log.avo_look hws.2.2.2.1 hl).2
        simp only [Ent.avo, Row.avo] at hla
        have hea := SV.avos_get hla hlo
        simp only [SV.avo] at hea
        have hag := setI_agr ρ v (e.den ρ)
        have hb' := hb.agr hws hag hv
        have he : e.den (setI ρ v (e.den ρ)) = e.den ρ := IE.den_agr hag e (IE.avo_mono (Nat.le_refl _) hv _ hea)
        refine ⟨_, hag, ⟨hb'.g, hb'.pc, hb'.hd.repl hl (fun c => Iff.rfl) ?_, hb'.rd⟩, allH_cons.2 ⟨?_, allH_nil _⟩⟩
        · have := hb'.hd.rows id true _ hl
          simp only [Row.holds] at this ⊢
          rw [map_set_same hlo (by simp only [SV.den, IE.den, he]; simp [setI])]
          exact this
        · simp only [F.holds, BE.den, cmpI, IE.den, he]; simp [setI]
      · cases h
    · cases h
  | cb id o =>
    simp only [hav1] at h
    split at h
    · rename_i el l hl
      split at h
      · rename_i e hlo
        simp only [Option.some.injEq, Prod.mk.injEq] at h; obtain ⟨rfl, rfl⟩ := h
        have hla := (Log.avo_look hws.2.2.2.1 hl).2
        simp only [Ent.avo, Row.avo] at hla
        have hea := SV.avos_get hla hlo
        simp only [SV.avo] at hea
        have hag := setB_agr ρ v (e.den ρ)
        have hb' := hb.agr hws hag hv
        have he : e.den (setB ρ v (e.den ρ)) = e.den ρ := BE.den_agr hag e (BE.avo_mono (Nat.le_refl _) hv _ hea)
        refine ⟨_, hag, ⟨hb'.g, hb'.pc, hb'.hd.repl hl (fun c => Iff.rfl) ?_, hb'.rd⟩, allH_cons.2 ⟨?_, allH_nil _⟩⟩
        · have := hb'.hd.rows id true _ hl
          simp only [Row.holds] at this ⊢
          rw [map_set_same hlo (by simp only [SV.den, BE.den, he]; simp [setB])]
          exact this
        · simp only [F.holds, BE.den, he]; simp [setB]
      · cases h
    · cases h
  | fm id =>
    simp only [hav1] at h
    split at h
    · rename_i el ks n le hl
      simp only [Option.some.injEq, Prod.mk.injEq] at h; obtain ⟨rfl, rfl⟩ := h
      have hla := (Log.avo_look hws.2.2.2.1 hl).2
      simp only [Ent.avo, Row.avo, Bool.and_eq_true] at hla
      have hag := setL_agr ρ v (le.den ρ)
      have hb' := hb.agr hws hag hv
      have he : le.den (setL ρ v (le.den ρ)) = le.den ρ := LE.den_agr hag le (LE.avo_mono (Nat.le_refl _) hv _ hla.2.1)
      have hvv : (LE.var v).den (setL ρ v (le.den ρ)) = le.den ρ := by simp [LE.den, setL]
      refine ⟨_, hag, ⟨hb'.g, hb'.pc, hb'.hd.repl hl (fun c => Iff.rfl) ?_, hb'.rd⟩, allH_cons.2 ⟨?_, allH_nil _⟩⟩
      · have := hb'.hd.rows id true _ hl
        simp only [Row.holds, he] at this
        simp only [Row.holds, hvv]
        exact this
      · simp only [F.holds, List.map_cons, List.map_nil, sameL, hvv, he]
    · cases h

theorem hav1_ws {it : Item} {v : Nat} {b b' : Br} {eqs : List F} (h : hav1 it v b = some (b', eqs)) {base : Log} (hws : b.ws base v) : b'.ws base (v + 1) ∧ F.avos (v + 1) BIG eqs = true := by
  have hw := Br.ws_mono (Nat.le_succ v) hws
  have hvo : off (v + 1) BIG v = true := off_lt (Nat.lt_succ_self v)
  cases it with
  | ri t =>
    simp only [hav1] at h
    split at h
    · rename_i k e hl
      simp only [Option.some.injEq, Prod.mk.injEq] at h; obtain ⟨rfl, rfl⟩ := h
      have hea := (Log.avo_look hw.2.2.1 hl).2
      simp only [Ent.avo, SV.avo, BE.avo, Bool.true_and] at hea
      refine ⟨⟨hw.1, hw.2.1, ?_, hw.2.2.2.1, hw.2.2.2.2⟩, by simp only [F.avos, List.all_cons, List.all_nil, F.avo, BE.avo, IE.avo, hvo, hea, Bool.and_self]⟩
      simp only [Log.avo, Key.avo, Ent.avo, SV.avo, BE.avo, IE.avo, hvo, hw.2.2.1, Bool.and_self]
    · cases h
  | rb t =>
    simp only [hav1] at h
    split at h
    · rename_i e hl
      simp only [Option.some.injEq, Prod.mk.injEq] at h; obtain ⟨rfl, rfl⟩ := h
      have hea := (Log.avo_look hw.2.2.1 hl).2
      simp only [Ent.avo, SV.avo, BE.avo, Bool.true_and] at hea
      refine ⟨⟨hw.1, hw.2.1, ?_, hw.2.2.2.1, hw.2.2.2.2⟩, by simp only [F.avos, List.all_cons, List.all_nil, F.avo, BE.avo, hvo, hea, Bool.and_self]⟩
      simp only [Log.avo, Key.avo, Ent.avo, SV.avo, BE.avo, hvo, hw.2.2.1, Bool.and_self]
    · cases h
  | ci id o =>
    simp only [hav1] at h
    split at h
    · rename_i el l hl
      split at h
      · rename_i k e hlo
        simp only [Option.some.injEq, Prod.mk.injEq] at h; obtain ⟨rfl, rfl⟩ := h
        have hk := Log.avo_look hw.2.2.2.1 hl
        have hla := hk.2
        simp only [Ent.avo, Row.avo] at hla
        have hea := SV.avos_get hla hlo
        simp only [SV.avo] at hea
        have hent : (Key.h id).avo (v + 1) BIG = true ∧ SV.avos (v + 1) BIG (l.set o (.int k (.var v))) = true := ⟨hk.1, SV.avos_set (by simp only [SV.avo, IE.avo, hvo]) hla⟩
        refine ⟨⟨hw.1, hw.2.1, hw.2.2.1, ?_, ?_⟩, by simp only [F.avos, List.all_cons, List.all_nil, F.avo, BE.avo, IE.avo, hvo, hea, Bool.and_self]⟩
        · simp only [Log.avo, Ent.avo, Row.avo, hent.1, hent.2, hw.2.2.2.1, Bool.and_self]
        · simp only [List.cons_append, hw.2.2.2.2]
      · cases h
    · cases h
  | cb id o =>
    simp only [hav1] at h
    split at h
    · rename_i el l hl
      split at h
      · rename_i e hlo
        simp only [Option.some.injEq, Prod.mk.injEq] at h; obtain ⟨rfl, rfl⟩ := h
        have hk := Log.avo_look hw.2.2.2.1 hl
        have hla := hk.2
        simp only [Ent.avo, Row.avo] at hla
        have hea := SV.avos_get hla hlo
        simp only [SV.avo] at hea
        have hent : (Key.h id).avo (v + 1) BIG = true ∧ SV.avos (v + 1) BIG (l.set o (.b (.var v))) = true := ⟨hk.1, SV.avos_set (by simp only [SV.avo, BE.avo, hvo]) hla⟩
        refine ⟨⟨hw.1, hw.2.1, hw.2.2.1, ?_, ?_⟩, by simp only [F.avos, List.all_cons, List.all_nil, F.avo, BE.avo, hvo, hea, Bool.and_self]⟩
        · simp only [Log.avo, Ent.avo, Row.avo, hent.1, hent.2, hw.2.2.2.1, Bool.and_self]
        · simp only [List.cons_append, hw.2.2.2.2]
      · cases h
    · cases h
  | fm id =>
    simp only [hav1] at h
    split at h
    · rename_i el ks n le hl
      simp only [Option.some.injEq, Prod.mk.injEq] at h; obtain ⟨rfl, rfl⟩ := h
      have hk := Log.avo_look hw.2.2.2.1 hl
      have hla := hk.2
      simp only [Ent.avo, Row.avo, Bool.and_eq_true] at hla
      refine ⟨⟨hw.1, hw.2.1, hw.2.2.1, ?_, ?_⟩, by simp only [F.avos, List.all_cons, List.all_nil, F.avo, LE.avo, hvo, hla.2.1, Bool.and_self]⟩
      · simp only [Log.avo, Ent.avo, Row.avo, LE.avo, hk.1, hla.1, hla.2.2, hvo, hw.2.2.2.1, Bool.and_self]
      · simp only [List.cons_append, hw.2.2.2.2]
    · cases h

def havs : List Item → Nat → Br → Option (Br × List F)
  | [], _, b => some (b, [])
  | it :: r, v, b => match hav1 it v b with
    | some (b1, e1) => match havs r (v + 1) b1 with
      | some (b2, e2) => some (b2, e1 ++ e2)
      | none => none
    | none => none
theorem havs_ok : ∀ {its : List Item} {v : Nat} {b b' : Br} {eqs : List F}, havs its v b = some (b', eqs) → ∀ {base : Log}, b.ws base v → v + its.length ≤ BIG → 
    (b'.ws base (v + its.length) ∧ F.avos (v + its.length) BIG eqs = true) ∧ ∀ {C : Ctx} {nt : Nat} {ρ : Env} {a : Act} {w : World}, BrS C nt ρ b a w → ∃ ρ', Agr v (v + its.length) ρ ρ' ∧ BrS C nt ρ' b' a w ∧ allH ρ' eqs
  | [], v, b, b', eqs, h, base, hws, hv => by
    simp only [havs, Option.some.injEq, Prod.mk.injEq] at h; obtain ⟨rfl, rfl⟩ := h
    exact ⟨⟨hws, rfl⟩, fun hb => ⟨_, Agr.refl _ _ _, hb, allH_nil _⟩⟩
  | it :: r, v, b, b', eqs, h, base, hws, hv => by
    simp only [havs] at h
    split at h
    · rename_i b1 e1 h1
      split at h
      · rename_i b2 e2 h2
        simp only [Option.some.injEq, Prod.mk.injEq] at h; obtain ⟨rfl, rfl⟩ := h
        simp only [List.length_cons] at hv ⊢
        have w1 := hav1_ws h1 hws
        obtain ⟨w2, ok2⟩ := havs_ok h2 w1.1 (by omega)
        rw [show v + (r.length + 1) = v + 1 + r.length by omega]
        refine ⟨⟨w2.1, F.avos_app (F.avos_mono (by omega) (Nat.le_refl _) w1.2) w2.2⟩, fun hb => ?_⟩
        obtain ⟨ρ1, g1, s1, q1⟩ := hav1_ok h1 hws (by omega) hb
        obtain ⟨ρ2, g2, s2, q2⟩ := ok2 s1
        refine ⟨ρ2, g1.trans g2 (by omega) (by omega), s2, allH_app.2 ⟨?_, q2⟩⟩
        exact (allH_agr g2 (F.avos_mono (Nat.le_refl _) (by omega) w1.2)).2 q1
      · cases h
    · cases h
end Go.Proofs.Ytcegefhjgkoknaa.E
