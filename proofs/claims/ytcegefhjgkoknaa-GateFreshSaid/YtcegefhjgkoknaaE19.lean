/- The engine, part 19: regions that draw their order: in whatever order. -/
import Derived.Test.YtcegefhjgkoknaaE18
namespace Go.Proofs.Ytcegefhjgkoknaa.E
open Go.RowKit
set_option linter.unusedVariables false
set_option linter.unusedSimpArgs false

def inL (listed : Array Bool) (k : Nat) : Bool := listed.getD k false

theorem ready_mem {all : Array Oper} {listed : Array Bool} {i : Nat} (h : i ∈ Region.ready .any all listed) :
    i < all.size ∧ inL listed i = false ∧ ∀ o, all.toList[i]? = some o → ∀ e, e ∈ o.after.toList → Region.binds .any e = true → inL listed e.on = true := by
  unfold Region.ready at h
  rw [List.mem_filter, List.mem_range] at h
  obtain ⟨h1, h2⟩ := h
  simp only [Bool.and_eq_true, Bool.not_eq_true'] at h2
  refine ⟨h1, ?_, fun o ho e he hb => ?_⟩
  · unfold inL
    have := h2.1
    rw [Array.getD_eq_getD_getElem?] at this ⊢
    cases hl : listed[i]? with
    | none => rfl
    | some b => rw [hl] at this; exact this
  · have ho' : all[i]? = some o := by rw [← Array.getElem?_toList]; exact ho
    rw [ho'] at h2
    have h3 := h2.2
    simp only [Option.map_some, Option.getD_some] at h3
    have := Array.all_eq_true_iff_forall_mem.1 h3 e (Array.mem_toList_iff.1 he)
    simp only [hb, Bool.not_true, Bool.false_or] at this
    exact this

theorem inL_set {listed : Array Bool} {i : Nat} (hi : i < listed.size) : inL (listed.setIfInBounds i true) = addS (inL listed) i := by
  funext k
  unfold inL
  rw [Array.getD_eq_getD_getElem?, Array.getElem?_setIfInBounds]
  by_cases h : i = k
  · subst h; rw [if_pos rfl, if_pos hi, addS_self]; rfl
  · rw [if_neg h, addS_other (fun e => h e.symm)]
    rw [Array.getD_eq_getD_getElem?]

def miss (listed : Array Bool) (N : Nat) : Nat := ((List.range N).filter fun k => !(inL listed k)).length
theorem filter_len_lt {p q : Nat → Bool} : ∀ {l : List Nat} {i : Nat}, (∀ k, q k = true → p k = true) → i ∈ l → p i = true → q i = false → (l.filter q).length < (l.filter p).length
  | [], i, _, h, _, _ => by cases h
  | x :: l, i, hpq, h, hp, hq => by
    have hle : ∀ l : List Nat, (l.filter q).length ≤ (l.filter p).length := by
      intro l
      induction l with
      | nil => exact Nat.le_refl _
      | cons y l ih =>
        by_cases hy : q y = true
        · rw [List.filter_cons_of_pos hy, List.filter_cons_of_pos (hpq y hy)]; simp; exact ih
        · rw [List.filter_cons_of_neg hy]
          by_cases hy2 : p y = true
          · rw [List.filter_cons_of_pos hy2]; simp; omega
          · rw [List.filter_cons_of_neg hy2]; exact ih
    cases h with
    | head =>
      rw [List.filter_cons_of_pos hp, List.filter_cons_of_neg (by rw [hq]; decide)]
      have := hle l
      simp; omega
    | tail _ h =>
      have ih := filter_len_lt hpq h hp hq
      by_cases hy : q x = true
      · rw [List.filter_cons_of_pos hy, List.filter_cons_of_pos (hpq x hy)]; simp; exact ih
      · rw [List.filter_cons_of_neg hy]
        by_cases hy2 : p x = true
        · rw [List.filter_cons_of_pos hy2]; simp; omega
        · rw [List.filter_cons_of_neg hy2]; exact ih
theorem miss_set {listed : Array Bool} {N i : Nat} (hi : i < N) (hs : i < listed.size) (hn : inL listed i = false) : miss (listed.setIfInBounds i true) N < miss listed N := by
  unfold miss
  rw [inL_set hs]
  refine filter_len_lt (i := i) (fun k hk => ?_) (List.mem_range.2 hi) (by rw [hn]; rfl) (by rw [addS_self]; rfl)
  by_cases h : k = i
  · subst h; rw [addS_self] at hk; cases hk
  · rw [addS_other h] at hk; exact hk

theorem wpAny_stand {P : Program} {nt : Nat} {all : Array Oper} {R H : Log} {g : List F} {n n' : Nat} {efs : List Ef} (F1 : Fine P nt all R H g n n' efs) {C : Ctx} {ρ0 : Env} (hvcs : ∀ x, x ∈ efs → Valid x.vcs) (Q : Exit → Act → World → Prop)
    (hQ : ∀ σ a w, Stand C nt ρ0 n n' efs R H g (fun _ => true) σ a w → Q .normal a w) :
    ∀ (fuel : Nat) (listed : Array Bool) (a : Act) (w : World), listed.size = all.size → miss listed all.size ≤ fuel → Down all.toList (inL listed) →
      (∃ σ, Stand C nt ρ0 n n' efs R H g (inL listed) σ a w) → wpAny P .any all Q fuel listed a w := by
  have hlen : all.toList.length = all.size := by simp
  -- where nothing is ready, all is done
  have fin : ∀ (listed : Array Bool) (a : Act) (w : World), listed.size = all.size → Region.ready .any all listed = [] → (∃ σ, Stand C nt ρ0 n n' efs R H g (inL listed) σ a w) → Q .normal a w := by
    intro listed a w hs hr hst
    have hall : ∀ k, k < all.size → inL listed k = true := by
      intro k
      induction k using Nat.strongRecOn with
      | _ k ih =>
        intro hk
        cases hin : inL listed k
        · exfalso
          have hmem : k ∈ Region.ready .any all listed := by
            unfold Region.ready
            rw [List.mem_filter, List.mem_range]
            refine ⟨hk, ?_⟩
            simp only [Bool.and_eq_true, Bool.not_eq_true']
            have ho : all[k]? = some all[k] := Array.getElem?_eq_getElem hk
            refine ⟨?_, ?_⟩
            · have hk2 : k < listed.size := by omega
              have hg : listed[k]? = some listed[k] := Array.getElem?_eq_getElem hk2
              unfold inL at hin
              rw [Array.getD_eq_getD_getElem?, hg] at hin
              rw [Array.getD_eq_getD_getElem?, hg]
              exact hin
            · rw [ho]
              simp only [Option.map_some, Option.getD_some]
              rw [Array.all_eq_true_iff_forall_mem]
              intro e he
              cases hb : Region.binds .any e
              · rfl
              · simp only [Bool.not_true, Bool.false_or]
                have hlt := edges_lt F1.edges k all[k] (by rw [Array.getElem?_toList]; exact ho) e (Array.mem_toList_iff.2 he) hb
                exact ih e.on (by omega) (by omega)
          rw [hr] at hmem; cases hmem
        · rfl
    obtain ⟨σ, st⟩ := hst
    have hsame : ∀ e, e ∈ efs → (fun _ => true) e.i = inL listed e.i := fun e he => by
      have := (ef_idx F1 he).2
      rw [hlen] at this
      exact (hall e.i this).symm
    refine hQ σ a w ⟨st.agr, fun f hf => st.g f (selF_mem.2 ?_), st.hd.sub fun id o r hl => ?_, ⟨st.rd.defers, st.rd.size, fun t c s hl => st.rd.regs t c s ?_⟩⟩
    · rcases selF_mem.1 hf with hf1 | ⟨e, he, _, hfe⟩
      · exact .inl hf1
      · exact .inr ⟨e, he, by rw [← hsame e he], hfe⟩
    · rw [← hl]; exact selH_same (fun e he _ => (hsame e he).symm) rfl
    · rw [← hl]; exact selR_same (fun e he _ => (hsame e he).symm) rfl
  intro fuel
  induction fuel with
  | zero =>
    intro listed a w hs hm hd hst
    have hr : Region.ready .any all listed = [] := by
      cases hrr : Region.ready .any all listed with
      | nil => rfl
      | cons i l =>
        exfalso
        obtain ⟨h1, h2, _⟩ := ready_mem (all := all) (listed := listed) (i := i) (by rw [hrr]; exact .head _)
        have := miss_set h1 (by omega) h2
        omega
    exact ⟨hr, fin listed a w hs hr hst⟩
  | succ fuel ih =>
    intro listed a w hs hm hd hst
    refine ⟨fun hr => fin listed a w hs hr hst, fun i hi => ?_⟩
    obtain ⟨h1, h2, h3⟩ := ready_mem hi
    have hil : i < efs.length := by rw [F1.told.len, hlen]; exact h1
    have hxi := (F1.told.each i efs[i] (List.getElem?_eq_getElem hil)).1
    have hset : Set1 all (inL listed) (efs[i]).i := ⟨hd, by rw [hxi]; exact h2, by rw [hxi]; exact h3⟩
    obtain ⟨σ, st⟩ := hst
    have hstep := stand_step F1 hvcs (List.getElem_mem hil) hset st Q
    rw [hxi] at hstep
    refine wpOp_mono (fun a' w' hx => ?_) hstep
    refine ih (listed.setIfInBounds i true) a' w' (by simp [hs]) (by have := miss_set (N := all.size) h1 (by omega) h2; omega) ?_ (by rw [inL_set (by omega)]; exact hx)
    rw [inL_set (by omega)]
    intro k o ho hk e he hb
    by_cases hki : k = i
    · subst hki
      have := h3 o ho e he hb
      by_cases hei : e.on = k
      · rw [hei, addS_self]
      · rw [addS_other hei]; exact this
    · rw [addS_other hki] at hk
      have := hd k o ho hk e he hb
      by_cases hei : e.on = i
      · rw [hei, addS_self]
      · rw [addS_other hei]; exact this
end Go.Proofs.Ytcegefhjgkoknaa.E
