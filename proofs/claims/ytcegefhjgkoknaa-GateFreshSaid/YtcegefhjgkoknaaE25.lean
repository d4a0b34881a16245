/- The engine, part 25: checks by a list of facts; results that are true. -/
import Derived.Test.YtcegefhjgkoknaaE24
namespace Go.Proofs.Ytcegefhjgkoknaa.E
open Go.RowKit
set_option linter.unusedVariables false
set_option linter.unusedSimpArgs false

def F.eqq : F → F → Bool
  | .be a, .be b => a.eq b
  | .imp c f, .imp d g => c.eq d && f.eqq g
  | _, _ => false
theorem F.eqq_eq : ∀ {a b : F}, a.eqq b = true → a = b
  | .be a, .be b, h => by simp only [F.eqq] at h; rw [BE.eq_eq _ _ h]
  | .imp c f, .imp d g, h => by simp only [F.eqq, Bool.and_eq_true] at h; rw [BE.eq_eq _ _ h.1, F.eqq_eq h.2]
  | .be _, .imp _ _, h => by cases h
  | .be _, .rel _ _ _, h => by cases h
  | .imp _ _, .be _, h => by cases h
  | .imp _ _, .rel _ _ _, h => by cases h
  | .rel _ _ _, .be _, h => by cases h
  | .rel _ _ _, .imp _ _, h => by cases h
  | .rel _ _ _, .rel _ _ _, h => by cases h
def hasF (l : List F) (x : F) : Bool := l.any fun y => x.eqq y
theorem hasF_mem {l : List F} {x : F} (h : hasF l x = true) : x ∈ l := by
  unfold hasF at h
  rw [List.any_eq_true] at h
  obtain ⟨y, hy, he⟩ := h
  rw [F.eqq_eq he]; exact hy
/-- A conclusion is covered by a wanted one that is the same, from facts among its own; or by one whose conclusion is 'false'. -/
def cov (want : Vcs) (v : List F × F) : Bool := hasF v.1 v.2 || want.any fun u => (u.2.eqq v.2 || u.2.eqq (.be (.lit false))) && u.1.all (hasF v.1)
def cover (want vcs : Vcs) : Bool := vcs.all (cov want)
theorem cover_ok {want vcs : Vcs} (hw : Valid want) (h : cover want vcs = true) : Valid vcs := by
  intro v hv ρ hg
  have := List.all_eq_true.1 h v hv
  unfold cov at this
  rw [Bool.or_eq_true] at this
  rcases this with h1 | h1
  · exact hg _ (hasF_mem h1)
  · rw [List.any_eq_true] at h1
    obtain ⟨u, hu, h2⟩ := h1
    simp only [Bool.and_eq_true, Bool.or_eq_true] at h2
    obtain ⟨h2, h3⟩ := h2
    have hu2 : u.2.holds ρ := hw u hu ρ fun x hx => hg x (hasF_mem (List.all_eq_true.1 h3 x hx))
    rcases h2 with h2 | h2
    · rw [← F.eqq_eq h2]; exact hu2
    · rw [F.eqq_eq h2] at hu2; cases hu2

section
variable {ρ : Env} {a b : IE}
theorem h_lss : (F.be (.cmp .lss a b)).holds ρ ↔ a.den ρ < b.den ρ := by simp [F.holds, BE.den, cmpI]
theorem h_leq : (F.be (.cmp .leq a b)).holds ρ ↔ a.den ρ ≤ b.den ρ := by simp [F.holds, BE.den, cmpI]
theorem h_gtr : (F.be (.cmp .gtr a b)).holds ρ ↔ b.den ρ < a.den ρ := by simp [F.holds, BE.den, cmpI]
theorem h_geq : (F.be (.cmp .geq a b)).holds ρ ↔ b.den ρ ≤ a.den ρ := by simp [F.holds, BE.den, cmpI]
theorem h_eql : (F.be (.cmp .eql a b)).holds ρ ↔ a.den ρ = b.den ρ := by simp [F.holds, BE.den, cmpI]
theorem h_neq : (F.be (.cmp .neq a b)).holds ρ ↔ a.den ρ ≠ b.den ρ := by simp [F.holds, BE.den, cmpI]
theorem h_not {c : BE} : (F.be (.not c)).holds ρ ↔ ¬ (F.be c).holds ρ := by simp [F.holds, BE.den]
theorem h_ite {c d e : BE} : (F.be (.ite c d e)).holds ρ ↔ (F.be c).holds ρ ∧ (F.be d).holds ρ ∨ ¬ (F.be c).holds ρ ∧ (F.be e).holds ρ := by
  simp only [F.holds, BE.den]; cases c.den ρ <;> simp
theorem h_true : (F.be (.lit true)).holds ρ ↔ True := by simp [F.holds, BE.den]
theorem h_false : (F.be (.lit false)).holds ρ ↔ False := by simp [F.holds, BE.den]
end
/-- What is to hold, for every result to be true. -/
def trueV (g : List F) : T Alt → Option Vcs
  | .lf x => match x.s with
    | .b e => some [(g ++ (x.fs ++ x.pc), .be e)]
    | _ => none
  | .nd _ a b => match trueV g a, trueV g b with
    | some u, some v => some (u ++ v)
    | _, _ => none
  | .or a b => match trueV g a, trueV g b with
    | some u, some v => some (u ++ v)
    | _, _ => none
  | .no => some []
theorem trueV_ok {ρ : Env} {g : List F} (hg : allH ρ g) {q : Alt → Prop} : ∀ {t : T Alt} {v : Vcs}, trueV g t = some v → Valid v → t.post ρ (fun x => allH ρ x.fs ∧ allH ρ x.pc ∧ q x) → ∃ x, q x ∧ x.s.den ρ = .bool true
  | .lf x, v, h, hv, hp => by
    simp only [trueV] at h
    split at h
    · rename_i e he
      obtain rfl := Option.some.inj h
      obtain ⟨h1, h2, h3⟩ := hp
      refine ⟨x, h3, ?_⟩
      have : (F.be e).holds ρ := hv (_, .be e) (.head _) ρ (allH_app.2 ⟨hg, allH_app.2 ⟨h1, h2⟩⟩)
      simp only [F.holds] at this
      rw [he, SV.den, this]
    · cases h
  | .nd c a b, v, h, hv, hp => by
    simp only [trueV] at h
    split at h
    · rename_i u1 u2 e1 e2
      obtain rfl := Option.some.inj h
      simp only [T.post] at hp
      split at hp
      · exact trueV_ok hg e1 hv.app.1 hp
      · exact trueV_ok hg e2 hv.app.2 hp
    · cases h
  | .or a b, v, h, hv, hp => by
    simp only [trueV] at h
    split at h
    · rename_i u1 u2 e1 e2
      obtain rfl := Option.some.inj h
      rcases hp with hp | hp
      · exact trueV_ok hg e1 hv.app.1 hp
      · exact trueV_ok hg e2 hv.app.2 hp
    · cases h
  | .no, v, h, hv, hp => by cases hp

def chk (g : List F) (want : Vcs) (o : Option COut) : Bool :=
  match o with
  | some o => match trueV g o.t with
    | some v => cover want o.vcs && cover want v
    | none => false
  | none => false

/-- A function that answers true, whatever it is given of this form. -/
theorem chk_ok {P : Program} {call : CallFn} (hcall : CallOK P call) {want : Vcs} (hw : Valid want) {f : Nat} {args : List SV} {n : Nat} {H : Log} {g : List F} (hc : chk g want (call f args n H g) = true)
    (hH : Log.avo n BIG H = true) (ha : SV.avos n BIG args = true) (hg : F.avos n BIG g = true) (hn : n ≤ BIG) (C : Ctx) (ρ : Env) (w : World) (h1 : allH ρ g) (h2 : HD C ρ H w) :
    Calls P f (args.map (SV.den ρ)).toArray w fun e w' => e = .returned (.bool true) ∧ Fr C w' := by
  unfold chk at hc
  split at hc
  · rename_i o ho
    split at hc
    · rename_i v hv
      simp only [Bool.and_eq_true] at hc
      obtain ⟨h0, hbig, _, h⟩ := hcall f args n H g o ho hH ha hg hn
      refine (h (cover_ok hw hc.1) C ρ w h1 h2).mono fun e w' he => ?_
      obtain ⟨ρ', hag, hp⟩ := he
      obtain ⟨x, ⟨hx1, hx2⟩, hx⟩ := trueV_ok ((allH_agr hag (F.avos_mono (Nat.le_refl _) hbig hg)).2 h1) hv (cover_ok hw hc.2) hp
      exact ⟨by rw [hx1, hx], hx2.fr⟩
    · cases hc
  · cases hc
end Go.Proofs.Ytcegefhjgkoknaa.E
