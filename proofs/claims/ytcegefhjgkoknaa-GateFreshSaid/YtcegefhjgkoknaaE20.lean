/- The engine, part 20: the table of calls, whole. -/
import Derived.Test.YtcegefhjgkoknaaE19
namespace Go.Proofs.Ytcegefhjgkoknaa.E
open Go.RowKit
set_option linter.unusedVariables false
set_option linter.unusedSimpArgs false

theorem drF_ok {P : Program} (hm : P.follows .mixedOrders = true) (hN : NoRt P) {call : CallFn} (hcall : CallOK P call) : DrOK P (drF P call) := by
  intro id all base C nt amb n b v t n' h hamb hws hn
  unfold drF at h
  simp only at h
  split at h
  · rename_i efs n1 hr
    cases hc : (edgesOK 0 all.toList && transOK (masks all.toList []) && (efs.all fun x => (x.heapy || freshB x.n x.n' x.pre) && ownB x.pre && efs.all fun y => pairOK (masks all.toList []) x y))
    · rw [hc] at h; cases h
    · rw [hc] at h
      simp only [cond_true, Option.some.injEq, Prod.mk.injEq] at h
      obtain ⟨rfl, rfl, rfl⟩ := h
      simp only [Bool.and_eq_true] at hc
      obtain ⟨⟨c1, c2⟩, c3⟩ := hc
      have hgav : F.avos n BIG (b.g ++ (b.pc ++ amb)) = true := F.avos_app hws.1 (F.avos_app hws.2.1 hamb)
      have told := drRun_told hcall hN hws.2.2.1 hws.2.2.2.1 hgav all.toList 0 n [] efs n1 hr (by simp) rfl (Nat.zero_le _) (Nat.le_refl _) hn (fun k x hx => by simp at hx) (fun k j x y _ hx => by simp at hx)
      have hx : ∀ x, x ∈ efs → ((x.heapy = true ∨ freshB x.n x.n' x.pre = true) ∧ ownB x.pre = true) ∧ ∀ y, y ∈ efs → pairOK (masks all.toList []) x y = true := by
        intro x hx
        have := List.all_eq_true.1 c3 x hx
        simp only [Bool.and_eq_true, Bool.or_eq_true, List.all_eq_true] at this
        exact this
      have F1 : Fine P nt all b.R b.H (b.g ++ (b.pc ++ amb)) n n1 efs :=
        ⟨told, c1, c2, fun x h => (hx x h).1.1, fun x h => (hx x h).1.2, fun x y h1 h2 => (hx x h1).2 y h2, hws.2.2.1, hws.2.2.2.1, hgav⟩
      have hwsE : ∀ e, e ∈ efs → e.ws n1 := by
        intro e he
        have h1 := ef_ok F1 he
        obtain ⟨_, _, _, _, o, _, _, hok⟩ := told.each e.i e (ef_idx F1 he).1
        exact hok.ws h1.2.2.1
      refine ⟨told.le, told.big, ⟨selF_avo (fun e he => (hwsE e he).2.2.1) (F.avos_mono told.le (Nat.le_refl _) hws.1), F.avos_mono told.le (Nat.le_refl _) hws.2.1,
        selR_avo (fun e he => ⟨(hwsE e he).1, (hwsE e he).2.1⟩) (Log.avo_mono told.le (Nat.le_refl _) _ hws.2.2.1), selH_avo (fun e he => (hwsE e he).2.2.2) (Log.avo_mono told.le (Nat.le_refl _) _ hws.2.2.2.1), ?_⟩, fun hv ρ a w hA hb Q hQ => ?_⟩
      · show selH _ efs b.H = selH _ efs b.pre ++ base
        rw [hws.2.2.2.2, selH_app]
      · refine wp_region_any hm ?_
        have hvcs : ∀ x, x ∈ efs → Valid x.vcs := fun x hx y hy => hv y (List.mem_flatMap.2 ⟨x, hx, hy⟩)
        refine wpAny_stand F1 (C := C) (ρ0 := ρ) hvcs Q (fun σ a' w' st => ?_) _ _ _ _ (by simp) ?_ ?_ ⟨ρ, ?_⟩
        · refine hQ .normal σ a' w' st.agr ⟨rfl, ?_, ?_, st.hd, st.rd⟩
          · intro f hf
            rcases selF_mem.1 hf with hf1 | ⟨e, he, hp, hfe⟩
            · exact st.g f (selF_mem.2 (.inl (List.mem_append.2 (.inl hf1))))
            · exact st.g f (selF_mem.2 (.inr ⟨e, he, hp, hfe⟩))
          · exact fun f hf => st.g f (selF_mem.2 (.inl (List.mem_append.2 (.inr (List.mem_append.2 (.inl hf))))))
        · unfold miss
          exact Nat.le_trans (List.length_filter_le _ _) (by simp)
        · intro i o ho hi
          exfalso
          unfold inL at hi
          rw [Array.getD_eq_getD_getElem?] at hi
          by_cases hlt : i < all.size
          · rw [Array.getElem?_replicate, if_pos hlt] at hi; cases hi
          · rw [Array.getElem?_replicate, if_neg hlt] at hi; cases hi
        · have hno : ∀ k, inL (Array.replicate all.size false) k = false := by
            intro k
            unfold inL
            rw [Array.getD_eq_getD_getElem?, Array.getElem?_replicate]
            split <;> rfl
          refine ⟨Agr.refl _ _ _, fun f hf => ?_, ?_, ?_⟩
          · rcases selF_mem.1 hf with hf1 | ⟨e, he, hp, _⟩
            · rcases List.mem_append.1 hf1 with h1 | h1
              · exact hb.g f h1
              · rcases List.mem_append.1 h1 with h1 | h1
                · exact hb.pc f h1
                · exact hA f h1
            · rw [hno] at hp; cases hp
          · have : HD C ρ b.H { w with drawn := w.drawn + 1 } :=
              ⟨fun id o r hl => Row.holds_same (hb.hd.rows id o r hl) fun _ _ => rfl, hb.hd.own, hb.hd.ro, hb.hd.sep, ⟨hb.hd.fr.os, hb.hd.fr.tape, hb.hd.fr.output, hb.hd.fr.size, hb.hd.fr.keep⟩⟩
            exact this.sub fun id o r hl => by
              rw [selH_none (fun e _ hp => by rw [hno] at hp; cases hp)] at hl; exact hl
          · exact ⟨hb.rd.defers, hb.rd.size, fun t c s hl => by
              rw [selR_none (fun e _ hp => by rw [hno] at hp; cases hp)] at hl
              exact hb.rd.regs t c s hl⟩
  · cases h

def noCtr : CallFn := fun _ _ _ _ _ => none
theorem noCtr_ok (P : Program) : CallOK P noCtr := fun f args n H g out h => by cases h
end Go.Proofs.Ytcegefhjgkoknaa.E
