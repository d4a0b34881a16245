/- The engine, part 23: the rule for loops with an invariant. -/
import Derived.Test.YtcegefhjgkoknaaE22
namespace Go.Proofs.Ytcegefhjgkoknaa.E
open Go.RowKit
set_option linter.unusedVariables false
set_option linter.unusedSimpArgs false

/-- A fact about what a loop changes; the first of the variables that stand for it is handed in. -/
inductive IFm where
  | be (f : Nat → BE)
  | rel (r : List Int → List (Nat → Nat → Int) → Prop) (is : Nat → List IE) (ls : Nat → List LE)
def IFm.at (n : Nat) : IFm → F
  | .be f => .be (f n)
  | .rel r is ls => .rel r (is n) (ls n)
def eqrIs (r : Ren) : List IE → List IE → Bool
  | [], [] => true
  | a :: l, b :: m => a.eqr r b && eqrIs r l m
  | _, _ => false
def eqrLs (r : Ren) : List LE → List LE → Bool
  | [], [] => true
  | a :: l, b :: m => a.eqr r b && eqrLs r l m
  | _, _ => false
theorem eqrIs_den {r : Ren} {ρ : Env} : ∀ {l m : List IE}, eqrIs r l m = true → m.map (IE.den (r.env ρ)) = l.map (IE.den ρ)
  | [], [], _ => rfl
  | [], _ :: _, h => by cases h
  | _ :: _, [], h => by cases h
  | a :: l, b :: m, h => by
    simp only [eqrIs, Bool.and_eq_true] at h
    simp only [List.map_cons, IE.eqr_den _ _ h.1, eqrIs_den h.2]
theorem eqrLs_den {r : Ren} {ρ : Env} : ∀ {l m : List LE}, eqrLs r l m = true → m.map (LE.den (r.env ρ)) = l.map (LE.den ρ)
  | [], [], _ => rfl
  | [], _ :: _, h => by cases h
  | _ :: _, [], h => by cases h
  | a :: l, b :: m, h => by
    simp only [eqrLs, Bool.and_eq_true] at h
    simp only [List.map_cons, LE.eqr_den _ _ h.1, eqrLs_den h.2]
def IFm.eqr (r : Ren) : IFm → Bool
  | .be f => (f r.m).eqr r (f r.n)
  | .rel _ is ls => eqrIs r (is r.m) (is r.n) && eqrLs r (ls r.m) (ls r.n)
theorem IFm.eqr_holds {r : Ren} {ρ : Env} {x : IFm} (h : x.eqr r = true) (hh : (x.at r.m).holds ρ) : (x.at r.n).holds (r.env ρ) := by
  cases x with
  | be f => simp only [IFm.eqr] at h; simp only [IFm.at, F.holds, BE.eqr_den _ _ h] at hh ⊢; exact hh
  | rel q is ls =>
    simp only [IFm.eqr, Bool.and_eq_true] at h
    simp only [IFm.at, F.holds, eqrIs_den h.1, eqrLs_den h.2] at hh ⊢; exact hh

structure AnnS where
  items : Br → List Item
  inv : List IFm
  mes : Nat → IE

def wrO (ops : List Oper) : List Nat := ops.flatMap fun o => match o.dst with | some d => [d] | none => []
def wrC : Code → List Nat
  | .region _ ops _ => wrO ops.toList
  | .seq a b => wrC a ++ wrC b
  | .cond _ a b => wrC a ++ wrC b
  | .block _ a => wrC a
  | .loop a => wrC a
  | .scope a => wrC a
  | .rangeFunc _ _ a b => wrC a ++ wrC b
  | _ => []
def isItem (t : Nat) : List Item → Bool
  | [] => false
  | .ri u :: r => Nat.beq u t || isItem t r
  | .rb u :: r => Nat.beq u t || isItem t r
  | _ :: r => isItem t r
def goneR (its : List Item) : List Nat → Log → Log
  | [], R => R
  | t :: r, R => bif isItem t its then goneR its r R else (.r t, .gone) :: goneR its r R
theorem goneR_look {its : List Item} {t : Nat} {c : BE} {s : SV} : ∀ {ws : List Nat} {R : Log}, look (.r t) (goneR its ws R) = some (.reg c s) → look (.r t) R = some (.reg c s)
  | [], R, h => h
  | u :: r, R, h => by
    simp only [goneR] at h
    cases hi : isItem u its
    · rw [hi] at h
      simp only [cond_false] at h
      rw [look_cons] at h
      by_cases hu : Key.r u = Key.r t
      · rw [if_pos hu] at h; cases h
      · rw [if_neg hu] at h; exact goneR_look h
    · rw [hi] at h; exact goneR_look h
theorem goneR_avo {its : List Item} {lo hi : Nat} : ∀ {ws : List Nat} {R : Log}, Log.avo lo hi R = true → Log.avo lo hi (goneR its ws R) = true
  | [], R, h => h
  | u :: r, R, h => by
    simp only [goneR]
    cases hi : isItem u its
    · simp only [cond_false, Log.avo, Key.avo, Ent.avo, Bool.true_and]; exact goneR_avo h
    · simp only [cond_true]; exact goneR_avo h

def backF (an : AnnS) (its : List Item) (n N : Nat) (hb : Br) (amb : List F) (z : Ex × Br) (m : Nat) : Res (Ex × Br) :=
  match z.1 with
  | .normal =>
    bif !(Nat.ble (m + its.length) N) then none else
    match havs its m z.2 with
    | none => none
    | some (b2, eqs2) =>
      let r : Ren := ⟨m, n, its.length⟩
      bif subLog r b2.R hb.R hb.R && (subLog r b2.H hb.H hb.H && (an.inv.all (IFm.eqr r) && (an.mes m).eqr r (an.mes n))) then
        some ((eqs2 ++ (z.2.g ++ (z.2.pc ++ amb)), .be (.cmp .lss (mkNat (an.mes m)) (mkNat (an.mes n)))) :: an.inv.map (fun x => (eqs2 ++ (z.2.g ++ (z.2.pc ++ amb)), x.at m)), .no, m + its.length)
      else none
  | .exit j => some ([], .lf (.exit j, z.2), m)
  | .ret => some ([], .lf (.ret, z.2), m)

def LOOPW : Nat := 5000

def runInv (amb : List F) (an : AnnS) (body : Nat → Br → Res (Ex × Br)) (ws : List Nat) (n : Nat) (b : Br) : Res (Ex × Br) :=
  let its := an.items b
  let d := its.length
  let N := n + LOOPW
  bif !(Nat.ble N BIG && Nat.ble (n + d) N) then none else
  match havs its n b with
  | none => none
  | some (b1, eqs) =>
    let inv := an.inv.map (IFm.at n)
    let hb : Br := { b1 with g := inv ++ b.g, pc := b.pc, R := goneR its ws b1.R }
    bif !(F.avos (n + d) BIG inv && (an.mes n).avo (n + d) BIG) then none else
    match body (n + d) hb with
    | none => none
    | some (v, t, n2) =>
      match bindT (backF an its n N hb amb) t n2 with
      | none => none
      | some (v2, t2, n3) => bif Nat.ble n3 N then some (inv.map (fun f => (eqs ++ (b.g ++ (b.pc ++ amb)), f)) ++ (v ++ v2), t2, N) else none

theorem hav1_gpc {it : Item} {v : Nat} {b b' : Br} {eqs : List F} (h : hav1 it v b = some (b', eqs)) : b'.g = b.g ∧ b'.pc = b.pc := by
  cases it <;> simp only [hav1] at h <;> (repeat' split at h) <;> first
    | (cases h; done)
    | (simp only [Option.some.injEq, Prod.mk.injEq] at h; obtain ⟨rfl, rfl⟩ := h; exact ⟨rfl, rfl⟩)

theorem runInv_ok {P : Program} {base : Log} {C : Ctx} {nt : Nat} {amb : List F} {n0 : Nat} (hamb : F.avos n0 BIG amb = true) {c : Code} {body : Nat → Br → Res (Ex × Br)} (hbody : FnOK base C nt amb n0 (fun a w Q => c.wp P Q a w) body) (an : AnnS) (ws : List Nat) :
    FnOK base C nt amb n0 (fun a w Q => (Code.loop c).wp P Q a w) (runInv amb an body ws) := by
  intro n b v t n' h hn0 hws hn
  unfold runInv at h
  simp only at h
  cases hN : (Nat.ble (n + LOOPW) BIG && Nat.ble (n + (an.items b).length) (n + LOOPW))
  · rw [hN] at h; cases h
  rw [hN] at h
  simp only [Bool.not_true, cond_false] at h
  simp only [Bool.and_eq_true] at hN
  have hNB := Nat.le_of_ble_eq_true hN.1
  have hdN := Nat.le_of_ble_eq_true hN.2
  generalize hits : an.items b = its at *
  split at h
  · cases h
  · rename_i b1 eqs hhav
    cases hchk : (F.avos (n + its.length) BIG (an.inv.map (IFm.at n)) && (an.mes n).avo (n + its.length) BIG)
    · rw [hchk] at h; cases h
    rw [hchk] at h
    simp only [Bool.not_true, cond_false] at h
    simp only [Bool.and_eq_true] at hchk
    split at h
    · cases h
    · rename_i v1 t1 n2 hrun
      split at h
      · cases h
      · rename_i v2 t2 n3 hbd
        cases hle3 : Nat.ble n3 (n + LOOPW)
        · rw [hle3] at h; cases h
        rw [hle3] at h
        simp only [cond_true, Option.some.injEq, Prod.mk.injEq] at h
        obtain ⟨rfl, rfl, rfl⟩ := h
        have hn3 := Nat.le_of_ble_eq_true hle3
        have hambn := F.avos_mono hn0 (Nat.le_refl _) hamb
        obtain ⟨⟨w1, w2⟩, hk⟩ := havs_ok hhav hws (by omega)
        have hbws : ({ b1 with g := an.inv.map (IFm.at n) ++ b.g, pc := b.pc, R := goneR its ws b1.R } : Br).ws base (n + its.length) :=
          ⟨F.avos_app hchk.1 (F.avos_mono (by omega) (Nat.le_refl _) hws.1), F.avos_mono (by omega) (Nat.le_refl _) hws.2.1, goneR_avo w1.2.2.1, w1.2.2.2.1, w1.2.2.2.2⟩
        obtain ⟨a1, a2, a3, a4⟩ := hbody (n + its.length) _ v1 t1 n2 hrun (by omega) hbws (by omega)
        -- the relation of the loop
        let hb : Br := { b1 with g := an.inv.map (IFm.at n) ++ b.g, pc := b.pc, R := goneR its ws b1.R }
        have key : ∀ (ρ0 : Env) (k : Nat) (e : Exit) (a' : Act) (w' : World) (z : Ex × Br) (m : Nat) (v : Vcs) (t : T (Ex × Br)) (m' : Nat), backF an its n (n + LOOPW) hb amb z m = some (v, t, m') → (n2 ≤ m ∧ z.2.ws base m) → m ≤ BIG →
            m ≤ m' ∧ m' ≤ BIG ∧ t.all m' (fun x => x.2.ws base m') ∧ (Valid v → ∀ ρ, (qB C nt ρ z e a' w' ∧ allH ρ amb ∧ Agr n (n + LOOPW) ρ0 ρ ∧ ((an.mes n).den ρ).toNat = k ∧ (allH ρ0 b.g ∧ allH ρ0 b.pc)) →
              Goal (fun Q => Exit.then (fun a w => ∃ k', k' < k ∧ ∃ σ, Agr n (n + LOOPW) ρ0 σ ∧ BrS C nt σ hb a w ∧ ((an.mes n).den σ).toNat = k') Q e a' w') (qB C nt) ρ m m' t) := by
          intro ρ0 k e a' w' z m v t m' hz hwz hm
          obtain ⟨ze, zb⟩ := z
          cases ze with
          | exit j =>
            simp only [backF, Option.some.injEq, Prod.mk.injEq] at hz
            obtain ⟨rfl, rfl, rfl⟩ := hz
            exact ⟨Nat.le_refl _, hm, hwz.2, fun _ ρ hp Q hQ => by obtain ⟨⟨rfl, hbs⟩, _⟩ := hp; exact hQ _ ρ a' w' (Agr.refl _ _ _) ⟨rfl, hbs⟩⟩
          | ret =>
            simp only [backF, Option.some.injEq, Prod.mk.injEq] at hz
            obtain ⟨rfl, rfl, rfl⟩ := hz
            exact ⟨Nat.le_refl _, hm, hwz.2, fun _ ρ hp Q hQ => by obtain ⟨⟨rfl, hbs⟩, _⟩ := hp; exact hQ _ ρ a' w' (Agr.refl _ _ _) ⟨rfl, hbs⟩⟩
          | normal =>
            simp only [backF] at hz
            cases hmN : Nat.ble (m + its.length) (n + LOOPW)
            · rw [hmN] at hz; cases hz
            rw [hmN] at hz
            simp only [Bool.not_true, cond_false] at hz
            have hmN' := Nat.le_of_ble_eq_true hmN
            split at hz
            · cases hz
            · rename_i b2 eqs2 hh2
              cases hc2 : (subLog ⟨m, n, its.length⟩ b2.R hb.R hb.R && (subLog ⟨m, n, its.length⟩ b2.H hb.H hb.H && (an.inv.all (IFm.eqr ⟨m, n, its.length⟩) && (an.mes m).eqr ⟨m, n, its.length⟩ (an.mes n))))
              · rw [hc2] at hz; cases hz
              rw [hc2] at hz
              simp only [cond_true, Option.some.injEq, Prod.mk.injEq] at hz
              obtain ⟨rfl, rfl, rfl⟩ := hz
              simp only [Bool.and_eq_true] at hc2
              obtain ⟨s1, s2, s3, s4⟩ := hc2
              refine ⟨by omega, by omega, trivial, fun hv ρ hp Q hQ => ?_⟩
              obtain ⟨⟨he, hbs⟩, hA, hag0, hmes, hg0, hpc0⟩ := hp
              simp only at he hbs
              subst he
              obtain ⟨⟨x1, x2⟩, hk2⟩ := havs_ok hh2 hwz.2 (by omega)
              obtain ⟨ρ3, hag3, hb3, heq3⟩ := hk2 hbs
              have hws2 : Br.ws base m zb := hwz.2
              have hΓ : allH ρ3 (eqs2 ++ (zb.g ++ (zb.pc ++ amb))) := by
                have hb3' := hbs.agr hws2 hag3 (by omega)
                exact allH_app.2 ⟨heq3, allH_app.2 ⟨hb3'.g, allH_app.2 ⟨hb3'.pc, (allH_agr hag3 (F.avos_mono (by omega) (by omega) hambn)).2 hA⟩⟩⟩
              have hlt := lss_den (hv _ (.head _) ρ3 hΓ)
              simp only [mkNat_den] at hlt
              have hinv : ∀ x, x ∈ an.inv → (x.at m).holds ρ3 := fun x hx => hv (_, x.at m) (.tail _ (List.mem_map.2 ⟨x, hx, rfl⟩)) ρ3 hΓ
              let r : Ren := ⟨m, n, its.length⟩
              have hagσ : Agr n (n + LOOPW) ρ0 (r.env ρ3) := by
                have h1 : Agr n (n + LOOPW) ρ0 ρ3 := hag0.trans (hag3.mono (by omega) (by omega)) (Nat.le_refl _) (Nat.le_refl _)
                exact h1.trans ((r.env_agr ρ3).mono (Nat.le_refl _) (by show n + its.length ≤ n + LOOPW; omega)) (Nat.le_refl _) (Nat.le_refl _)
              have hmσ : (an.mes n).den (r.env ρ3) = (an.mes m).den ρ3 := IE.eqr_den _ _ s4
              have hmn : (an.mes n).den ρ3 = (an.mes n).den ρ := IE.den_agr hag3 _ (IE.avo_mono (by omega) (by omega) _ hchk.2)
              refine ⟨((an.mes n).den (r.env ρ3)).toNat, ?_, r.env ρ3, hagσ, ⟨?_, ?_, subLog_hd s2 hb3.hd, subLog_rd s1 hb3.rd⟩, rfl⟩
              · rw [hmσ]
                rw [hmn] at hlt
                rw [← hmes]
                omega
              · refine allH_app.2 ⟨fun f hf => ?_, (allH_agr hagσ (F.avos_mono (Nat.le_refl _) hNB hws.1)).2 hg0⟩
                obtain ⟨x, hx, rfl⟩ := List.mem_map.1 hf
                exact IFm.eqr_holds (r := r) (List.all_eq_true.1 s3 x hx) (hinv x hx)
              · exact (allH_agr hagσ (F.avos_mono (Nat.le_refl _) hNB hws.2.1)).2 hpc0
        have all1 : t1.all n2 (fun z => n2 ≤ n2 ∧ z.2.ws base n2) := T.all_mono (Nat.le_refl _) (fun z hz => ⟨Nat.le_refl _, hz⟩) a3
        have base0 := fun (ρ0 : Env) (k : Nat) (e : Exit) (a' : Act) (w' : World) => bindT_ok (ws := fun m (z : Ex × Br) => n2 ≤ m ∧ z.2.ws base m) (ws' := fun m (z : Ex × Br) => z.2.ws base m)
          (fun _ _ z hnm hz => ⟨Nat.le_trans hz.1 hnm, Br.ws_mono hnm hz.2⟩) (fun _ _ z hnm hz => Br.ws_mono hnm hz) (key ρ0 k e a' w') t1 n2 v2 t2 n3 hbd all1 a2
        obtain ⟨g1, g2, g3, _⟩ := base0 ⟨fun _ => 0, fun _ => false, fun _ => 0, fun _ _ => 0, fun _ _ _ => 0, fun _ => undef, fun _ _ => undef⟩ 0 .normal ⟨#[], []⟩ C.w0
        refine ⟨by omega, hNB, T.all_mono hn3 (fun z hz => Br.ws_mono hn3 hz) g3, fun hv ρ0 a w hA hb0 Q hQ => ?_⟩
        obtain ⟨hv1, hv2⟩ := hv.app
        obtain ⟨hv2, hv3⟩ := hv2.app
        have hAσ : ∀ σ, Agr n (n + LOOPW) ρ0 σ → allH σ amb := fun σ hag => (allH_agr hag (F.avos_mono (Nat.le_refl _) hNB hambn)).2 hA
        -- at the start
        obtain ⟨ρ1, hag1, hb1, heq1⟩ := hk hb0
        have hΓ1 : allH ρ1 (eqs ++ (b.g ++ (b.pc ++ amb))) := by
          have hb0' := hb0.agr hws hag1 (by omega)
          exact allH_app.2 ⟨heq1, allH_app.2 ⟨hb0'.g, allH_app.2 ⟨hb0'.pc, (allH_agr hag1 (F.avos_mono (Nat.le_refl _) (by omega) hambn)).2 hA⟩⟩⟩
        have hb0' := hb0.agr hws hag1 (by omega)
        have hstart : BrS C nt ρ1 hb a w :=
          ⟨allH_app.2 ⟨fun f hf => hv1 (_, f) (List.mem_map.2 ⟨f, hf, rfl⟩) ρ1 hΓ1, hb0'.g⟩, hb0'.pc, hb1.hd, ⟨hb1.rd.defers, hb1.rd.size, fun t c s hl => hb1.rd.regs t c s (goneR_look hl)⟩⟩
        refine wp_loop_ghost (fun k a w => ∃ σ, Agr n (n + LOOPW) ρ0 σ ∧ BrS C nt σ hb a w ∧ ((an.mes n).den σ).toNat = k) ((an.mes n).den ρ1).toNat ⟨ρ1, hag1.mono (Nat.le_refl _) (by omega), hstart, rfl⟩ ?_
        intro k a w hI
        obtain ⟨σ, hagσ, hbσ, hmσ⟩ := hI
        refine a4 hv2 σ a w (hAσ σ hagσ) hbσ _ fun e ρ2 a' w' hag2 hp => ?_
        have hag02 : Agr n (n + LOOPW) ρ0 ρ2 := hagσ.trans (hag2.mono (by omega) (by omega)) (Nat.le_refl _) (Nat.le_refl _)
        have hm2 : ((an.mes n).den ρ2).toNat = k := by
          rw [IE.den_agr hag2 _ (IE.avo_mono (Nat.le_refl _) a2 _ hchk.2)]; exact hmσ
        obtain ⟨_, _, _, g4⟩ := base0 ρ0 k e a' w'
        refine g4 hv3 ρ2 (T.post_mono (fun z hz => ⟨hz, hAσ ρ2 hag02, hag02, hm2, hb0.g, hb0.pc⟩) hp) Q fun e' ρ4 a'' w'' hag4 hp' => ?_
        exact hQ e' ρ4 a'' w'' (hag02.trans (hag4.mono (by omega) hn3) (Nat.le_refl _) (Nat.le_refl _)) hp'
end Go.Proofs.Ytcegefhjgkoknaa.E
