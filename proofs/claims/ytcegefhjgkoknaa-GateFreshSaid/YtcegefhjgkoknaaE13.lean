/- The engine, part 13: functions that are walked into. -/
import Derived.Test.YtcegefhjgkoknaaE12
namespace Go.Proofs.Ytcegefhjgkoknaa.E
open Go.RowKit
set_option linter.unusedVariables false
set_option linter.unusedSimpArgs false

def resV (P : Program) (R H : Log) : List ResultVar → Option (List F × List SV)
  | [] => some ([], [])
  | .tmp t :: r => match sev R (.lit true) (.tmp t), resV P R H r with
    | some s, some (v, l) => some (v, s :: l)
    | _, _ => none
  | .cell x t :: r => match sev R (.lit true) (.tmp x), resV P R H r with
    | some s, some (v, l) => match sLoad P H t s with
      | some (u, y) => some (u ++ v, y :: l)
      | none => none
    | _, _ => none
def oneV : List SV → SV
  | [s] => s
  | l => .tup l

theorem resV_run {P : Program} {C : Ctx} {nt : Nat} {ρ : Env} {R H : Log} {a : Act} {w : World} (HH : HD C ρ H w) (RR : RD nt ρ R a) : ∀ {rs : List ResultVar} {v : List F} {l : List SV}, resV P R H rs = some (v, l) → allH ρ v →
    (rs.mapM (m := Sem) fun
      | .tmp t => pure (a.tmps.getD t undef)
      | .cell x t => do loadVar t (← asAddr (a.tmps.getD x undef))).run P w = .ok (l.map (SV.den ρ)) w
  | [], v, l, h, hv => by simp only [resV, Option.some.injEq, Prod.mk.injEq] at h; obtain ⟨rfl, rfl⟩ := h; simp
  | .tmp t :: r, v, l, h, hv => by
    simp only [resV] at h
    split at h
    · rename_i s v' l' h1 h2
      simp only [Option.some.injEq, Prod.mk.injEq] at h; obtain ⟨rfl, rfl⟩ := h
      have e1 := sev_den RR (c := .lit true) rfl h1
      simp only [Act.eval] at e1
      simp only [List.mapM_cons, Sem.run_bind, Sem.run_pure, Result.andThen_ok, resV_run HH RR h2 hv, e1, List.map_cons]
    · cases h
  | .cell x t :: r, v, l, h, hv => by
    simp only [resV] at h
    split at h
    · rename_i s v' l' h1 h2
      split at h
      · rename_i u y hy
        simp only [Option.some.injEq, Prod.mk.injEq] at h; obtain ⟨rfl, rfl⟩ := h
        have e1 := sev_den RR (c := .lit true) rfl h1
        simp only [Act.eval] at e1
        have hl := sLoad_run HH hy (allH_app.1 hv).1
        have hp : ∃ p, s = .ptr p := by
          unfold sLoad at hy
          split at hy
          · exact ⟨_, rfl⟩
          · exact ⟨_, rfl⟩
          · cases hy
        obtain ⟨p, rfl⟩ := hp
        simp only [SV.den, Instr.loadAt, Instr.sureAddr, Sem.run_bind, Sem.run_pure, Result.andThen_ok] at hl
        have hadr : (asAddr (a.tmps.getD x undef)).run P w = .ok (p.addr ρ) w := by rw [e1]; rfl
        simp only [List.mapM_cons, Sem.run_bind, hadr, Sem.run_pure, Result.andThen_ok, hl, resV_run HH RR h2 (allH_app.1 hv).2, List.map_cons]
      · cases h
    · cases h

theorem results_run {P : Program} {C : Ctx} {nt : Nat} {ρ : Env} {R H : Log} {a : Act} {w : World} (HH : HD C ρ H w) (RR : RD nt ρ R a) {fn : Func} {v : List F} {l : List SV} (h : resV P R H fn.results.toList = some (v, l)) (hv : allH ρ v) :
    (results fn a.tmps).run P w = .ok ((oneV l).den ρ) w := by
  have h1 := resV_run HH RR h hv
  have h2 : (fn.results.mapM (m := Sem) fun
      | .tmp t => pure (a.tmps.getD t undef)
      | .cell x t => do loadVar t (← asAddr (a.tmps.getD x undef))).run P w = .ok (l.map (SV.den ρ)).toArray w := by
    rw [← Array.toArray_toList (xs := fn.results), List.mapM_toArray]
    simp only [Sem.run_map, h1, Result.andThen_ok]
  unfold results
  rw [Sem.run_bind]
  refine (congrArg (fun r => Result.andThen r _) h2).trans ?_
  simp only [Result.andThen_ok, Sem.run_pure, List.size_toArray, List.length_map]
  cases l with
  | nil => simp [oneV, SV.den, SV.dens]
  | cons s r => cases r with
    | nil => simp [oneV]
    | cons s' r => simp [oneV, SV.den, SV.dens_eq, SV.dens]

def fin (P : Program) (fn : Func) (amb : List F) (z : Ex × Br) (n : Nat) : Res Alt :=
  match z.1 with
  | .exit _ => none
  | _ => match resV P z.2.R z.2.H fn.results.toList with
    | some (v, l) => bif (oneV l).avo n BIG then some (v.map fun f => (z.2.g ++ (z.2.pc ++ amb), f), .lf ⟨z.2.g, [], oneV l, z.2.pre⟩, n) else none
    | none => none

/-! what a call leaves behind -/
def oldK (n : Nat) (k : Key) : Bool :=
  match k with
  | .r _ => true
  | .h id => !(Nat.ble n id && Nat.blt id BIG)
def trimA (n n' : Nat) (x : Alt) : Alt :=
  let k := x.pre.filter fun e => oldK n e.1
  bif x.s.avo n n' && Log.avo n n' k then { x with pre := k } else x
theorem look_filter {n : Nat} {k : Key} : ∀ {L H : Log} {e : Ent}, Log.avo n BIG H = true → look k (L.filter (fun e => oldK n e.1) ++ H) = some e → look k (L ++ H) = some e
  | [], H, e, hH, h => h
  | (j, f) :: L, H, e, hH, h => by
    by_cases hj : oldK n j = true
    · rw [List.filter_cons_of_pos (by exact hj), List.cons_append, look_cons] at h
      rw [List.cons_append, look_cons]
      by_cases hk : j = k
      · rw [if_pos hk] at h ⊢; exact h
      · rw [if_neg hk] at h ⊢; exact look_filter hH h
    · rw [List.filter_cons_of_neg (by exact hj)] at h
      have h' := look_filter hH h
      rw [List.cons_append, look_cons, if_neg]
      · exact h'
      · intro e'
        subst e'
        -- j is new: it stands neither in what was kept nor in H
        have hno : ∀ M : Log, look j (M.filter (fun e => oldK n e.1) ++ H) = look j H := by
          intro M
          induction M with
          | nil => rfl
          | cons x M ih =>
            by_cases hx : oldK n x.1 = true
            · rw [List.filter_cons_of_pos (by exact hx), List.cons_append]
              rw [show x = (x.1, x.2) from rfl, look_cons, if_neg (fun e => by rw [← e] at hj; exact hj hx)]
              exact ih
            · rw [List.filter_cons_of_neg (by exact hx)]; exact ih
        rw [hno] at h
        have hav := (Log.avo_look hH h).1
        cases j with
        | r t => exact hj rfl
        | h id =>
          have := off_iff hav
          apply hj
          simp only [oldK]
          rcases this with g | g
          · have : Nat.ble n id = false := by
              cases hh : Nat.ble n id
              · rfl
              · have := Nat.le_of_ble_eq_true hh; omega
            rw [this]; rfl
          · have : Nat.blt id BIG = false := by
              cases hh : Nat.blt id BIG
              · rfl
              · have : id + 1 ≤ BIG := Nat.le_of_ble_eq_true hh; omega
            rw [this]; simp
theorem Log.avo_filter {lo hi : Nat} (p : Key × Ent → Bool) : ∀ {L : Log}, Log.avo lo hi L = true → Log.avo lo hi (L.filter p) = true
  | [], _ => rfl
  | x :: L, h => by
    simp only [Log.avo, Bool.and_eq_true] at h
    by_cases hx : p x = true
    · rw [List.filter_cons_of_pos hx]; simp only [Log.avo, Bool.and_eq_true]; exact ⟨h.1, Log.avo_filter p h.2⟩
    · rw [List.filter_cons_of_neg hx]; exact Log.avo_filter p h.2

def AltS (C : Ctx) (H : Log) (ρ : Env) (e : Ending) (w : World) (x : Alt) : Prop := allH ρ x.fs ∧ allH ρ x.pc ∧ e = .returned (x.s.den ρ) ∧ HD C ρ (x.pre ++ H) w

theorem trimA_ok {C : Ctx} {H : Log} {ρ : Env} {e : Ending} {w : World} {n n' : Nat} (hH : Log.avo n BIG H = true) {x : Alt} (h : AltS C H ρ e w x) : AltS C H ρ e w (trimA n n' x) := by
  unfold trimA
  simp only
  cases hb : (x.s.avo n n' && Log.avo n n' (x.pre.filter fun e => oldK n e.1))
  · exact h
  · exact ⟨h.1, h.2.1, h.2.2.1, h.2.2.2.sub fun id o r hl => look_filter hH hl⟩
theorem trimA_ws {n n' m : Nat} {x : Alt} (h : x.ws m) : (trimA n n' x).ws m := by
  unfold trimA
  simp only
  cases hb : (x.s.avo n n' && Log.avo n n' (x.pre.filter fun e => oldK n e.1))
  · exact h
  · exact ⟨h.1, h.2.1, h.2.2.1, Log.avo_filter _ h.2.2.2⟩

/-- Two ways become one. -/
def mrg2 (c : BE) (a b : T Alt) : T Alt :=
  match a, b with
  | .lf ⟨f, [], s, []⟩, .lf ⟨g, [], u, []⟩ => match phiV c s u with
    | some r => .lf ⟨f.map (.imp c) ++ g.map (.imp (mkNot c)), [], r, []⟩
    | none => .nd c a b
  | a, b => .nd c a b
def mrg : T Alt → T Alt
  | .lf x => .lf x
  | .nd c a b => mrg2 c (mrg a) (mrg b)
  | .or a b => .or (mrg a) (mrg b)
  | .no => .no

theorem mrg2_ok {C : Ctx} {H : Log} {ρ : Env} {e : Ending} {w : World} {c : BE} {a b : T Alt}
    (h : (T.nd c a b).post ρ (AltS C H ρ e w)) : (mrg2 c a b).post ρ (AltS C H ρ e w) := by
  unfold mrg2
  split
  · rename_i f s g u
    split
    · rename_i r hs
      simp only [T.post] at h ⊢
      have hfs := phiV_den (ρ := ρ) hs
      split at h
      · rename_i hc
        obtain ⟨h1, h2, h3, h4⟩ := h
        refine ⟨allH_app.2 ⟨fun x hx => ?_, fun x hx => ?_⟩, allH_nil _, by rw [h3, hfs, if_pos hc], h4⟩
        · obtain ⟨f', hf', rfl⟩ := List.mem_map.1 hx; exact fun _ => h1 f' hf'
        · obtain ⟨f', hf', rfl⟩ := List.mem_map.1 hx
          intro hn; rw [mkNot_den, hc] at hn; cases hn
      · rename_i hc
        obtain ⟨h1, h2, h3, h4⟩ := h
        refine ⟨allH_app.2 ⟨fun x hx => ?_, fun x hx => ?_⟩, allH_nil _, by rw [h3, hfs, if_neg hc], h4⟩
        · obtain ⟨f', hf', rfl⟩ := List.mem_map.1 hx; exact fun hn => absurd hn hc
        · obtain ⟨f', hf', rfl⟩ := List.mem_map.1 hx; exact fun _ => h1 f' hf'
    · exact h
  · exact h
theorem mrg_ok {C : Ctx} {H : Log} {ρ : Env} {e : Ending} {w : World} : ∀ {t : T Alt}, t.post ρ (AltS C H ρ e w) → (mrg t).post ρ (AltS C H ρ e w)
  | .lf x, h => h
  | .nd c a b, h => by
    refine mrg2_ok ?_
    simp only [T.post] at h ⊢
    split at h
    · rename_i hc; rw [if_pos hc]; exact mrg_ok h
    · rename_i hc; rw [if_neg hc]; exact mrg_ok h
  | .or a b, h => by
    simp only [mrg, T.post] at h ⊢
    exact h.imp mrg_ok mrg_ok
  | .no, h => h.elim
theorem phi_avo {lo hi : Nat} {c : BE} (hc : c.avo lo hi = true) {x y s : SV} (h : phi c x y = some s) (hx : x.avo lo hi = true) (hy : y.avo lo hi = true) : s.avo lo hi = true := by
  have iteI : ∀ {a b : IE}, a.avo lo hi = true → b.avo lo hi = true → (mkIteI c a b).avo lo hi = true := by
    intro a b ha hb; unfold mkIteI; split
    · exact ha
    · exact hb
    · cases a.eq b
      · simp only [cond_false, IE.avo, hc, ha, hb, Bool.and_self]
      · exact ha
  have iteB : ∀ {a b : BE}, a.avo lo hi = true → b.avo lo hi = true → (mkIteB c a b).avo lo hi = true := by
    intro a b ha hb; unfold mkIteB; split
    · exact ha
    · exact hb
    · cases a.eq b
      · simp only [cond_false, BE.avo, hc, ha, hb, Bool.and_self]
      · exact ha
  unfold phi at h
  split at h
  · obtain rfl := Option.some.inj h; exact iteB hx hy
  · rename_i k a j b
    cases hk : kEq k j
    · rw [hk] at h; cases h
    · rw [hk] at h; obtain rfl := Option.some.inj h; exact iteI hx hy
  · rename_i p q
    cases hk : p.eq q
    · rw [hk] at h; cases h
    · rw [hk] at h; obtain rfl := Option.some.inj h; exact hx
  · obtain rfl := Option.some.inj h; rfl
  · obtain rfl := Option.some.inj h; rfl
  · obtain rfl := Option.some.inj h; rfl
  · rename_i p n k q m j
    cases hk : p.eq q
    · rw [hk] at h; cases h
    · rw [hk] at h; obtain rfl := Option.some.inj h
      simp only [SV.avo, Bool.and_eq_true] at hx hy ⊢
      exact ⟨hx.1, iteI hx.2.1 hy.2.1, iteI hx.2.2 hy.2.2⟩
  · rename_i a b
    cases hk : Nat.beq a b
    · rw [hk] at h; cases h
    · rw [hk] at h; obtain rfl := Option.some.inj h; exact hx
  · rename_i a b
    cases hk : Nat.beq a b
    · rw [hk] at h; cases h
    · rw [hk] at h; obtain rfl := Option.some.inj h; exact hx
  · cases h
theorem phis_avo {lo hi : Nat} {c : BE} (hc : c.avo lo hi = true) : ∀ {x y l : List SV}, phis c x y = some l → SV.avos lo hi x = true → SV.avos lo hi y = true → SV.avos lo hi l = true
  | [], [], l, h, _, _ => by simp only [phis] at h; obtain rfl := Option.some.inj h; rfl
  | [], y :: ys, l, h, _, _ => by simp only [phis] at h; cases h
  | x :: xs, [], l, h, _, _ => by simp only [phis] at h; cases h
  | x :: xs, y :: ys, l, h, hx, hy => by
    simp only [phis] at h
    split at h
    · rename_i s r h1 h2
      obtain rfl := Option.some.inj h
      simp only [SV.avos, Bool.and_eq_true] at hx hy ⊢
      exact ⟨phi_avo hc h1 hx.1 hy.1, phis_avo hc h2 hx.2 hy.2⟩
    · cases h
theorem phiV_avo {lo hi : Nat} {c : BE} (hc : c.avo lo hi = true) {x y s : SV} (h : phiV c x y = some s) (hx : x.avo lo hi = true) (hy : y.avo lo hi = true) : s.avo lo hi = true := by
  unfold phiV at h
  split at h
  · rename_i a b
    cases hp : phis c a b with
    | none => rw [hp] at h; cases h
    | some l => rw [hp] at h; obtain rfl := Option.some.inj h; exact phis_avo hc hp hx hy
  · split at h
    · split at h
      · rename_i l r h1 h2
        obtain rfl := Option.some.inj h
        simp only [SV.avo, SV.avos, Bool.and_eq_true] at hx hy ⊢
        exact ⟨phis_avo hc h1 hx.1 hy.1, phi_avo hc h2 hx.2.1 hy.2.1, trivial⟩
      · cases h
    · rename_i a b _ _ _
      cases hp : phis c a b with
      | none => rw [hp] at h; cases h
      | some l => rw [hp] at h; obtain rfl := Option.some.inj h; exact phis_avo hc hp hx hy
  · exact phi_avo hc h hx hy
theorem mrg2_ws {n m : Nat} {c : BE} {a b : T Alt} (h : (T.nd c a b).all n (Alt.ws n)) : (mrg2 c a b).all n (Alt.ws n) := by
  unfold mrg2
  split
  · rename_i f s g u
    split
    · rename_i r hs
      obtain ⟨hc, h1, h2⟩ := h
      refine ⟨F.avos_app ?_ ?_, rfl, phiV_avo hc hs h1.2.2.1 h2.2.2.1, rfl⟩
      · have := h1.1
        simp only [F.avos, List.all_map, List.all_eq_true, Function.comp] at this ⊢
        exact fun f hf => by simp only [F.avo, hc, this f hf, Bool.and_self]
      · have := h2.1
        simp only [F.avos, List.all_map, List.all_eq_true, Function.comp] at this ⊢
        exact fun f hf => by simp only [F.avo, mkNot_avo hc, this f hf, Bool.and_self]
    · exact h
  · exact h
theorem mrg_ws {n : Nat} : ∀ {t : T Alt}, t.all n (Alt.ws n) → (mrg t).all n (Alt.ws n)
  | .lf x, h => h
  | .nd c a b, h => mrg2_ws (m := n) ⟨h.1, mrg_ws h.2.1, mrg_ws h.2.2⟩
  | .or a b, h => ⟨mrg_ws h.1, mrg_ws h.2⟩
  | .no, _ => trivial

/-- The conditions of a way are known at its end. -/
def push (ps : List F) : T Alt → T Alt
  | .lf x => .lf { x with pc := ps }
  | .nd c a b => .nd c (push (.be c :: ps) a) (push (.be (mkNot c) :: ps) b)
  | .or a b => .or (push ps a) (push ps b)
  | .no => .no
theorem push_ok {C : Ctx} {H : Log} {ρ : Env} {e : Ending} {w : World} : ∀ {t : T Alt} {ps : List F}, allH ρ ps → t.post ρ (AltS C H ρ e w) → (push ps t).post ρ (AltS C H ρ e w)
  | .lf x, ps, hp, h => ⟨h.1, hp, h.2.2.1, h.2.2.2⟩
  | .nd c a b, ps, hp, h => by
    simp only [push, T.post] at h ⊢
    split at h
    · rename_i hc; rw [if_pos hc]; exact push_ok (allH_cons.2 ⟨hc, hp⟩) h
    · rename_i hc; rw [if_neg hc]
      refine push_ok (allH_cons.2 ⟨?_, hp⟩) h
      simp only [F.holds, mkNot_den]; cases hh : c.den ρ
      · rfl
      · exact absurd hh hc
  | .or a b, ps, hp, h => by
    simp only [push, T.post] at h ⊢
    exact h.imp (push_ok hp) (push_ok hp)
  | .no, ps, hp, h => h.elim
theorem push_ws {n : Nat} : ∀ {t : T Alt} {ps : List F}, F.avos n BIG ps = true → t.all n (Alt.ws n) → (push ps t).all n (Alt.ws n)
  | .lf x, ps, hp, h => ⟨h.1, hp, h.2.2.1, h.2.2.2⟩
  | .nd c a b, ps, hp, h => by
    have e1 : F.avos n BIG (.be c :: ps) = true := by
      simp only [F.avos, List.all_cons, F.avo, h.1, Bool.true_and] at hp ⊢; exact hp
    have e2 : F.avos n BIG (.be (mkNot c) :: ps) = true := by
      simp only [F.avos, List.all_cons, F.avo, mkNot_avo h.1, Bool.true_and] at hp ⊢; exact hp
    exact ⟨h.1, push_ws e1 h.2.1, push_ws e2 h.2.2⟩
  | .or a b, ps, hp, h => ⟨push_ws hp h.1, push_ws hp h.2⟩
  | .no, ps, hp, _ => trivial
end Go.Proofs.Ytcegefhjgkoknaa.E
