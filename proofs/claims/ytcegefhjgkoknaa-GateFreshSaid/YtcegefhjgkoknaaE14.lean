/- The engine, part 14: a table of calls: contracts, and functions that are walked into. -/
import Derived.Test.YtcegefhjgkoknaaE13
namespace Go.Proofs.Ytcegefhjgkoknaa.E
open Go.RowKit
set_option linter.unusedVariables false
set_option linter.unusedSimpArgs false

def argsR : Nat → List SV → Log
  | _, [] => []
  | i, s :: r => (.r i, .reg (.lit true) s) :: argsR (i + 1) r
theorem argsR_look {c : BE} {s : SV} : ∀ {l : List SV} {i t : Nat}, look (.r t) (argsR i l) = some (.reg c s) → c = .lit true ∧ i ≤ t ∧ l[t - i]? = some s
  | [], i, t, h => by simp [argsR, look] at h
  | x :: r, i, t, h => by
    simp only [argsR, look_cons] at h
    by_cases he : Key.r i = Key.r t
    · obtain rfl := Key.r.inj he
      rw [if_pos rfl] at h
      obtain ⟨rfl, rfl⟩ := Ent.reg.inj (Option.some.inj h)
      exact ⟨rfl, Nat.le_refl _, by simp⟩
    · rw [if_neg he] at h
      obtain ⟨h1, h2, h3⟩ := argsR_look h
      refine ⟨h1, by omega, ?_⟩
      rw [show t - i = (t - (i + 1)) + 1 by omega, List.getElem?_cons_succ]
      exact h3
theorem argsR_avo {lo hi : Nat} : ∀ {l : List SV} {i : Nat}, SV.avos lo hi l = true → Log.avo lo hi (argsR i l) = true
  | [], i, _ => rfl
  | x :: r, i, h => by
    simp only [SV.avos, Bool.and_eq_true] at h
    simp only [argsR, Log.avo, Key.avo, Ent.avo, BE.avo, h.1, argsR_avo h.2, Bool.and_self]

def inl (P : Program) (call : CallFn) (dr : RegFn) (lp : LoopFn) : CallFn := fun f args n H g =>
  match P.funcs[f]? with
  | some fn =>
    match fn.body with
    | some c =>
      match runC P call dr lp (args.length + (fn.ntmps - args.length)) g c n ⟨[], [], argsR 0 args, H, []⟩ with
      | some (v, t, n1) =>
        match bindT (fin P fn g) t n1 with
        | some (v2, t2, n2) => some ⟨v ++ v2, push [] (mrg (t2.map (trimA n n2))), n2⟩
        | none => none
      | none => none
    | none => none
  | none => none

def tbl (P : Program) (ctr : CallFn) (dr : CallFn → RegFn) (lp : Nat → LoopFn) : Nat → CallFn
  | 0 => fun _ _ _ _ _ => none
  | k + 1 => fun f args n H g =>
    match ctr f args n H g with
    | some out => some out
    | none => inl P (tbl P ctr dr lp k) (dr (tbl P ctr dr lp k)) (lp f) f args n H g

theorem enter_rd {nt : Nat} {ρ : Env} {args : List SV} {k : Nat} (hk : nt = args.length + k) : RD nt ρ (argsR 0 args) { tmps := (args.map (SV.den ρ)).toArray ++ Array.replicate k undef, defers := [] } := by
  refine ⟨rfl, by simp [hk], fun t c s hl => ?_⟩
  obtain ⟨rfl, _, h⟩ := argsR_look hl
  rw [Nat.sub_zero] at h
  have hlt := (List.getElem?_eq_some_iff.1 h).1
  rw [Array.getElem?_append_left (by simpa using hlt)]
  simp [h, BE.den]

theorem inl_ok {P : Program} {call : CallFn} (hcall : CallOK P call) (hN : NoRt P) {dr : RegFn} (hdr : DrOK P dr) {lp : LoopFn} (hlp : LpOK P lp) : CallOK P (inl P call dr lp) := by
  intro f args n H g out h hH hA hg hn
  unfold inl at h
  split at h
  · rename_i fn hf
    split at h
    · rename_i c hb
      split at h
      · rename_i v t n1 hr
        split at h
        · rename_i v2 t2 n2 h2
          obtain rfl := Option.some.inj h
          have hws : (⟨[], [], argsR 0 args, H, []⟩ : Br).ws H n := ⟨rfl, rfl, argsR_avo hA, hH, rfl⟩
          have key : ∀ (C : Ctx), _ := fun C => runC_ok hcall hN hdr hlp C hg c n _ v t n1 hr (Nat.le_refl _) hws hn
          have fkey : ∀ (C : Ctx) (e : Exit) (a' : Act) (w' : World) (R : Ending → World → Prop) (z : Ex × Br) (m : Nat) (v : Vcs) (t : T Alt) (m' : Nat), fin P fn g z m = some (v, t, m') → (n1 ≤ m ∧ z.2.ws H m) → m ≤ BIG →
              m ≤ m' ∧ m' ≤ BIG ∧ t.all m' (Alt.ws m') ∧ (Valid v → ∀ ρ, (qB C (args.length + (fn.ntmps - args.length)) ρ z e a' w' ∧ allH ρ g) →
                Goal (fun Q => ∃ vv, (results fn a'.tmps).run P w' = .ok vv w' ∧ a'.defers = [] ∧ (e = .normal ∨ e = .ret) ∧ Q .normal ⟨#[vv], []⟩ w')
                  (fun ρ x e a w => a.tmps = #[x.s.den ρ] ∧ AltS C H ρ (.returned (x.s.den ρ)) w x) ρ m m' t) := by
            intro C e a' w' R z m v t m' hz hws hm
            obtain ⟨ze, zb⟩ := z
            have main : ∀ (l : List SV) (u : List F), (ze = .normal ∨ ze = .ret) → resV P zb.R zb.H fn.results.toList = some (u, l) → (oneV l).avo m BIG = true →
                v = (u.map fun f => (zb.g ++ (zb.pc ++ g), f)) → t = .lf ⟨zb.g, [], oneV l, zb.pre⟩ → m' = m →
                m ≤ m' ∧ m' ≤ BIG ∧ t.all m' (Alt.ws m') ∧ (Valid v → ∀ ρ, (qB C (args.length + (fn.ntmps - args.length)) ρ (ze, zb) e a' w' ∧ allH ρ g) →
                Goal (fun Q => ∃ vv, (results fn a'.tmps).run P w' = .ok vv w' ∧ a'.defers = [] ∧ (e = .normal ∨ e = .ret) ∧ Q .normal ⟨#[vv], []⟩ w')
                  (fun ρ x e a w => a.tmps = #[x.s.den ρ] ∧ AltS C H ρ (.returned (x.s.den ρ)) w x) ρ m m' t) := by
              intro l u hze hres hav hv ht hm'
              subst hv ht hm'
              refine ⟨Nat.le_refl _, hm, ⟨hws.2.1, rfl, hav, ?_⟩, fun hval ρ hp Q hQ => ?_⟩
              · have h4 := hws.2.2.2.2.1
                have h5 := hws.2.2.2.2.2
                simp only at h5
                rw [h5] at h4
                clear hws h5
                revert h4
                generalize zb.pre = pr
                induction pr with
                | nil => intro _; rfl
                | cons x pr ih =>
                  intro h4
                  simp only [List.cons_append, Log.avo, Bool.and_eq_true] at h4 ⊢
                  exact ⟨h4.1, ih h4.2⟩
              · obtain ⟨⟨he, hbs⟩, hgA⟩ := hp
                simp only at he hbs
                have hu : allH ρ u := fun f hf => hval _ (List.mem_map.2 ⟨f, hf, rfl⟩) ρ (allH_app.2 ⟨hbs.g, allH_app.2 ⟨hbs.pc, hgA⟩⟩)
                refine ⟨_, results_run hbs.hd hbs.rd hres hu, hbs.rd.defers, by (rcases hze with rfl | rfl); exact .inl he; exact .inr he, hQ .normal ρ _ w' (Agr.refl _ _ _) ?_⟩
                refine ⟨rfl, hbs.g, allH_nil _, rfl, ?_⟩
                have h5 := hws.2.2.2.2.2
                simp only at h5
                rw [← h5]; exact hbs.hd
            cases ze with
            | exit j => simp only [fin] at hz; cases hz
            | normal =>
              simp only [fin] at hz
              split at hz
              · rename_i u l hres
                cases hav : (oneV l).avo m BIG
                · rw [hav] at hz; cases hz
                · rw [hav] at hz
                  simp only [cond_true, Option.some.injEq, Prod.mk.injEq] at hz
                  obtain ⟨rfl, rfl, rfl⟩ := hz
                  exact main l u (.inl rfl) hres hav rfl rfl rfl
              · cases hz
            | ret =>
              simp only [fin] at hz
              split at hz
              · rename_i u l hres
                cases hav : (oneV l).avo m BIG
                · rw [hav] at hz; cases hz
                · rw [hav] at hz
                  simp only [cond_true, Option.some.injEq, Prod.mk.injEq] at hz
                  obtain ⟨rfl, rfl, rfl⟩ := hz
                  exact main l u (.inr rfl) hres hav rfl rfl rfl
              · cases hz
          obtain ⟨a1, a2, a3, _⟩ := key ⟨default, fun _ => False⟩
          have all1 : t.all n1 (fun z => n1 ≤ n1 ∧ z.2.ws H n1) := T.all_mono (Nat.le_refl _) (fun z hz => ⟨Nat.le_refl _, hz⟩) a3
          have base0 := fun (C : Ctx) (e : Exit) (a' : Act) (w' : World) (R : Ending → World → Prop) => bindT_ok (ws := fun m (z : Ex × Br) => n1 ≤ m ∧ z.2.ws H m) (ws' := fun m (x : Alt) => x.ws m)
            (fun _ _ z hnm hz => ⟨Nat.le_trans hz.1 hnm, Br.ws_mono hnm hz.2⟩) (fun _ _ x hnm hx => Alt.ws_mono hnm hx) (fkey C e a' w' R) t n1 v2 t2 n2 h2 all1 a2
          obtain ⟨g1, g2, g3, _⟩ := base0 ⟨default, fun _ => False⟩ .normal ⟨#[], []⟩ default (fun _ _ => True)
          refine ⟨by show n ≤ n2; omega, g2, push_ws rfl (mrg_ws (T.all_map (T.all_mono (Nat.le_refl _) (fun x hx => trimA_ws hx) g3))), fun hv C ρ w hgρ HH => ?_⟩
          obtain ⟨_, _, _, a4⟩ := key C
          refine calls_of_wp hf hb ?_
          have hR : RD (args.length + (fn.ntmps - args.length)) ρ (argsR 0 args) { tmps := (args.map (SV.den ρ)).toArray ++ Array.replicate (fn.ntmps - (args.map (SV.den ρ)).toArray.size) undef, defers := [] } :=
            enter_rd (by simp)
          refine a4 hv.app.1 ρ _ w hgρ ⟨allH_nil _, allH_nil _, HH, hR⟩ _ fun e ρ' a' w' hagr hp => ?_
          obtain ⟨_, _, _, g4⟩ := base0 C e a' w' (fun _ _ => True)
          have hgρ' := (allH_agr hagr (F.avos_mono (Nat.le_refl _) a2 hg)).2 hgρ
          obtain ⟨vv, hres, hdef, hexit, hQ⟩ := g4 hv.app.2 ρ' (T.post_mono (fun z hz => ⟨hz, hgρ'⟩) hp)
            (fun _ a w => ∃ ρ'', Agr n1 n2 ρ' ρ'' ∧ t2.post ρ'' fun x => a.tmps = #[x.s.den ρ''] ∧ AltS C H ρ'' (.returned (x.s.den ρ'')) w x)
            (fun e ρ'' a w hag hpp => ⟨ρ'', hag, hpp⟩)
          obtain ⟨ρ'', hag, hpp⟩ := hQ
          have hpost : (push [] (mrg (t2.map (trimA n n2)))).post ρ'' (AltS C H ρ'' (.returned vv) w') := by
            refine push_ok (allH_nil _) (mrg_ok (T.post_map.2 (T.post_mono (fun x hx => ?_) hpp)))
            obtain ⟨h1, h2⟩ := hx
            have hvv : vv = x.s.den ρ'' := by
              have : (#[vv] : Array Value) = #[x.s.den ρ''] := h1
              simpa using this
            exact trimA_ok hH (by rw [hvv]; exact h2)
          have fine : ∃ ρ', Agr n n2 ρ ρ' ∧ (push [] (mrg (t2.map (trimA n n2)))).post ρ' fun x => allH ρ' x.fs ∧ allH ρ' x.pc ∧ Ending.returned vv = .returned (x.s.den ρ') ∧ HD C ρ' (x.pre ++ H) w' :=
            ⟨ρ'', hagr.trans hag g1 a1, hpost⟩
          rcases hexit with rfl | rfl
          · exact ⟨hdef, vv, hres, fine⟩
          · exact ⟨hdef, vv, hres, fine⟩
        · cases h
      · cases h
    · cases h
  · cases h

theorem tbl_ok {P : Program} {ctr : CallFn} (hctr : CallOK P ctr) (hN : NoRt P) {dr : CallFn → RegFn} (hdr : ∀ call, CallOK P call → DrOK P (dr call)) {lp : Nat → LoopFn} (hlp : ∀ f, LpOK P (lp f)) : ∀ k, CallOK P (tbl P ctr dr lp k)
  | 0 => fun f args n H g out h => by simp only [tbl] at h; cases h
  | k + 1 => fun f args n H g out h => by
    simp only [tbl] at h
    split at h
    · rename_i o ho
      obtain rfl := Option.some.inj h
      exact hctr f args n H g _ ho
    · exact inl_ok (tbl_ok hctr hN hdr hlp k) hN (hdr _ (tbl_ok hctr hN hdr hlp k)) (hlp f) f args n H g out h
end Go.Proofs.Ytcegefhjgkoknaa.E
