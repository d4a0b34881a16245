/- The engine, part 10: ways (trees of outcomes), scopes, one operation with its calls. -/
import Derived.Test.YtcegefhjgkoknaaE9
import Derived.LoopN
import Derived.Deep.LoopGhost
namespace Go.Proofs.Ytcegefhjgkoknaa.E
open Go.RowKit
set_option linter.unusedVariables false
set_option linter.unusedSimpArgs false
set_option linter.unusedSectionVars false

def BIG : Nat := 1000000000

theorem off_mono {lo hi lo' hi' v : Nat} (h1 : lo ≤ lo') (h2 : hi' ≤ hi) (h : off lo hi v = true) : off lo' hi' v = true := by
  unfold off
  rcases off_iff h with g | g
  · rw [Bool.or_eq_true]; exact .inl (Nat.ble_eq_true_of_le (by omega))
  · rw [Bool.or_eq_true]; exact .inr (Nat.ble_eq_true_of_le (by omega))
section
variable {lo hi lo' hi' : Nat} (h1 : lo ≤ lo') (h2 : hi' ≤ hi)
include h1 h2
mutual
theorem IE.avo_mono : ∀ e : IE, e.avo lo hi = true → e.avo lo' hi' = true
  | .lit _, _ => rfl
  | .var v, g => off_mono h1 h2 g
  | .add a b, g => by simp only [IE.avo, Bool.and_eq_true] at g ⊢; exact ⟨IE.avo_mono a g.1, IE.avo_mono b g.2⟩
  | .sub a b, g => by simp only [IE.avo, Bool.and_eq_true] at g ⊢; exact ⟨IE.avo_mono a g.1, IE.avo_mono b g.2⟩
  | .mul a b, g => by simp only [IE.avo, Bool.and_eq_true] at g ⊢; exact ⟨IE.avo_mono a g.1, IE.avo_mono b g.2⟩
  | .quo a b, g => by simp only [IE.avo, Bool.and_eq_true] at g ⊢; exact ⟨IE.avo_mono a g.1, IE.avo_mono b g.2⟩
  | .rem a b, g => by simp only [IE.avo, Bool.and_eq_true] at g ⊢; exact ⟨IE.avo_mono a g.1, IE.avo_mono b g.2⟩
  | .mx a b, g => by simp only [IE.avo, Bool.and_eq_true] at g ⊢; exact ⟨IE.avo_mono a g.1, IE.avo_mono b g.2⟩
  | .mn a b, g => by simp only [IE.avo, Bool.and_eq_true] at g ⊢; exact ⟨IE.avo_mono a g.1, IE.avo_mono b g.2⟩
  | .bits _ _ a b, g => by simp only [IE.avo, Bool.and_eq_true] at g ⊢; exact ⟨IE.avo_mono a g.1, IE.avo_mono b g.2⟩
  | .shl _ a b, g => by simp only [IE.avo, Bool.and_eq_true] at g ⊢; exact ⟨IE.avo_mono a g.1, IE.avo_mono b g.2⟩
  | .shr _ a b, g => by simp only [IE.avo, Bool.and_eq_true] at g ⊢; exact ⟨IE.avo_mono a g.1, IE.avo_mono b g.2⟩
  | .wrap _ a, g => by simp only [IE.avo] at g ⊢; exact IE.avo_mono a g
  | .nat a, g => by simp only [IE.avo] at g ⊢; exact IE.avo_mono a g
  | .ite c a b, g => by simp only [IE.avo, Bool.and_eq_true] at g ⊢; exact ⟨BE.avo_mono c g.1, IE.avo_mono a g.2.1, IE.avo_mono b g.2.2⟩
  | .get l i _, g => by simp only [IE.avo, Bool.and_eq_true] at g ⊢; exact ⟨LE.avo_mono l g.1, IE.avo_mono i g.2⟩
theorem BE.avo_mono : ∀ e : BE, e.avo lo hi = true → e.avo lo' hi' = true
  | .lit _, _ => rfl
  | .var v, g => off_mono h1 h2 g
  | .not a, g => by simp only [BE.avo] at g ⊢; exact BE.avo_mono a g
  | .cmp _ a b, g => by simp only [BE.avo, Bool.and_eq_true] at g ⊢; exact ⟨IE.avo_mono a g.1, IE.avo_mono b g.2⟩
  | .ite c a b, g => by simp only [BE.avo, Bool.and_eq_true] at g ⊢; exact ⟨BE.avo_mono c g.1, BE.avo_mono a g.2.1, BE.avo_mono b g.2.2⟩
  | .eqb a b, g => by simp only [BE.avo, Bool.and_eq_true] at g ⊢; exact ⟨BE.avo_mono a g.1, BE.avo_mono b g.2⟩
theorem LE.avo_mono : ∀ e : LE, e.avo lo hi = true → e.avo lo' hi' = true
  | .var v, g => off_mono h1 h2 g
  | .upd l i _ e, g => by simp only [LE.avo, Bool.and_eq_true] at g ⊢; exact ⟨LE.avo_mono l g.1, IE.avo_mono i g.2.1, IE.avo_mono e g.2.2⟩
  | .ite c a b, g => by simp only [LE.avo, Bool.and_eq_true] at g ⊢; exact ⟨BE.avo_mono c g.1, LE.avo_mono a g.2.1, LE.avo_mono b g.2.2⟩
end
theorem PT.avo_mono (p : PT) (g : p.avo lo hi = true) : p.avo lo' hi' = true := by
  cases p with
  | «at» a b => exact off_mono h1 h2 g
  | ax a b c d => simp only [PT.avo, Bool.and_eq_true] at g ⊢; exact ⟨off_mono h1 h2 g.1, IE.avo_mono h1 h2 _ g.2⟩
  | fm a b c => simp only [PT.avo, Bool.and_eq_true] at g ⊢; exact ⟨off_mono h1 h2 g.1, IE.avo_mono h1 h2 _ g.2⟩
  | el a b c d => simp only [PT.avo, Bool.and_eq_true] at g ⊢; exact ⟨off_mono h1 h2 g.1, IE.avo_mono h1 h2 _ g.2⟩
mutual
theorem SV.avo_mono : ∀ s : SV, s.avo lo hi = true → s.avo lo' hi' = true
  | .b e, g => BE.avo_mono h1 h2 e g
  | .int _ e, g => IE.avo_mono h1 h2 e g
  | .ptr p, g => PT.avo_mono h1 h2 p g
  | .sl p n c, g => by simp only [SV.avo, Bool.and_eq_true] at g ⊢; exact ⟨PT.avo_mono h1 h2 p g.1, IE.avo_mono h1 h2 n g.2.1, IE.avo_mono h1 h2 c g.2.2⟩
  | .nilp, _ => rfl
  | .nils, _ => rfl
  | .nilf, _ => rfl
  | .con _, _ => rfl
  | .fn _ a c, g => by simp only [SV.avo, Bool.and_eq_true] at g ⊢; exact ⟨SV.avos_mono a g.1, SV.avos_mono c g.2⟩
  | .agg l, g => SV.avos_mono l g
  | .tup l, g => SV.avos_mono l g
  | .opq v, g => off_mono h1 h2 g
  | .map v, g => off_mono h1 h2 g
  | .lst v, g => off_mono h1 h2 g
  | .yv v i, g => by simp only [SV.avo, Bool.and_eq_true] at g ⊢; exact ⟨off_mono h1 h2 g.1, IE.avo_mono h1 h2 i g.2⟩
theorem SV.avos_mono : ∀ l : List SV, SV.avos lo hi l = true → SV.avos lo' hi' l = true
  | [], _ => rfl
  | s :: r, g => by simp only [SV.avos, Bool.and_eq_true] at g ⊢; exact ⟨SV.avo_mono s g.1, SV.avos_mono r g.2⟩
end
theorem CK.avo_mono (c : CK) (g : c.avo lo hi = true) : c.avo lo' hi' = true := by
  cases c <;> first | rfl | exact off_mono h1 h2 g
theorem Row.avo_mono (r : Row) (g : r.avo lo hi = true) : r.avo lo' hi' = true := by
  cases r with
  | cells e l => exact SV.avos_mono h1 h2 l g
  | lst e ks n le => simp only [Row.avo, Bool.and_eq_true, List.all_eq_true] at g ⊢; exact ⟨IE.avo_mono h1 h2 n g.1, LE.avo_mono h1 h2 le g.2.1, fun k hk => CK.avo_mono h1 h2 k (g.2.2 k hk)⟩
  | fam e ks n le => simp only [Row.avo, Bool.and_eq_true, List.all_eq_true] at g ⊢; exact ⟨IE.avo_mono h1 h2 n g.1, LE.avo_mono h1 h2 le g.2.1, fun k hk => CK.avo_mono h1 h2 k (g.2.2 k hk)⟩
  | any e z => rfl
theorem Ent.avo_mono (e : Ent) (g : e.avo lo hi = true) : e.avo lo' hi' = true := by
  cases e with
  | reg c s => simp only [Ent.avo, Bool.and_eq_true] at g ⊢; exact ⟨BE.avo_mono h1 h2 c g.1, SV.avo_mono h1 h2 s g.2⟩
  | row o r => exact Row.avo_mono h1 h2 r g
  | gone => rfl
theorem Key.avo_mono (k : Key) (g : k.avo lo hi = true) : k.avo lo' hi' = true := by
  cases k with
  | r t => rfl
  | h id => exact off_mono h1 h2 g
theorem Log.avo_mono : ∀ L : Log, Log.avo lo hi L = true → Log.avo lo' hi' L = true
  | [], _ => rfl
  | (k, e) :: r, g => by simp only [Log.avo, Bool.and_eq_true] at g ⊢; exact ⟨⟨Key.avo_mono h1 h2 k g.1.1, Ent.avo_mono h1 h2 e g.1.2⟩, Log.avo_mono r g.2⟩
theorem F.avo_mono : ∀ f : F, f.avo lo hi = true → f.avo lo' hi' = true
  | .be b, g => BE.avo_mono h1 h2 b g
  | .rel r is ls, g => by
    simp only [F.avo, Bool.and_eq_true, List.all_eq_true] at g ⊢
    exact ⟨fun x hx => IE.avo_mono h1 h2 x (g.1 x hx), fun x hx => LE.avo_mono h1 h2 x (g.2 x hx)⟩
  | .imp c f, g => by simp only [F.avo, Bool.and_eq_true] at g ⊢; exact ⟨BE.avo_mono h1 h2 c g.1, F.avo_mono f g.2⟩
theorem F.avos_mono {l : List F} (g : F.avos lo hi l = true) : F.avos lo' hi' l = true := by
  simp only [F.avos, List.all_eq_true] at g ⊢
  exact fun f hf => F.avo_mono h1 h2 f (g f hf)
end
theorem F.avos_app {lo hi : Nat} {l m : List F} (h : F.avos lo hi l = true) (g : F.avos lo hi m = true) : F.avos lo hi (l ++ m) = true := by
  simp only [F.avos, List.all_append, Bool.and_eq_true] at *; exact ⟨h, g⟩
theorem Log.avo_app {lo hi : Nat} : ∀ {l m : Log}, Log.avo lo hi l = true → Log.avo lo hi m = true → Log.avo lo hi (l ++ m) = true
  | [], m, _, g => g
  | (k, e) :: r, m, h, g => by
    simp only [Log.avo, Bool.and_eq_true] at h
    simp only [List.cons_append, Log.avo, Bool.and_eq_true]
    exact ⟨h.1, Log.avo_app h.2 g⟩

/-! ways -/
inductive T (α : Type) where
  | lf (x : α)
  | nd (c : BE) (a b : T α)
  | or (a b : T α)
  | no

def T.post {α : Type} (ρ : Env) (p : α → Prop) : T α → Prop
  | .lf x => p x
  | .nd c a b => if c.den ρ then a.post ρ p else b.post ρ p
  | .or a b => a.post ρ p ∨ b.post ρ p
  | .no => False
/-- All leaves are so, and the conditions speak of no variable from n on. -/
def T.all {α : Type} (n : Nat) (p : α → Prop) : T α → Prop
  | .lf x => p x
  | .nd c a b => c.avo n BIG = true ∧ a.all n p ∧ b.all n p
  | .or a b => a.all n p ∧ b.all n p
  | .no => True
theorem T.post_mono {α : Type} {ρ : Env} {p q : α → Prop} (h : ∀ x, p x → q x) : ∀ {t : T α}, t.post ρ p → t.post ρ q
  | .lf x, g => h x g
  | .nd c a b, g => by
    simp only [T.post] at g ⊢
    split at g
    · rename_i hc; rw [if_pos hc]; exact T.post_mono h g
    · rename_i hc; rw [if_neg hc]; exact T.post_mono h g
  | .or a b, g => by
    simp only [T.post] at g ⊢
    exact g.imp (T.post_mono h) (T.post_mono h)
  | .no, g => g.elim
theorem T.all_mono {α : Type} {n m : Nat} {p q : α → Prop} (hn : n ≤ m) (h : ∀ x, p x → q x) : ∀ {t : T α}, t.all n p → t.all m q
  | .lf x, g => h x g
  | .nd c a b, g => ⟨BE.avo_mono hn (Nat.le_refl _) c g.1, T.all_mono hn h g.2.1, T.all_mono hn h g.2.2⟩
  | .or a b, g => ⟨T.all_mono hn h g.1, T.all_mono hn h g.2⟩
  | .no, _ => trivial

abbrev Vcs := List (List F × F)
def Valid (v : Vcs) : Prop := ∀ x, x ∈ v → ∀ ρ, allH ρ x.1 → x.2.holds ρ
theorem Valid.app {v u : Vcs} (h : Valid (v ++ u)) : Valid v ∧ Valid u := ⟨fun x hx => h x (List.mem_append.2 (.inl hx)), fun x hx => h x (List.mem_append.2 (.inr hx))⟩
/-- What must hold, in a context. -/
def ctxV (g : List F) (v : Vcs) : Vcs := v.map fun x => (g ++ x.1, x.2)
theorem Valid.ctx {g : List F} {v : Vcs} (h : Valid (ctxV g v)) : ∀ x, x ∈ v → ∀ ρ, allH ρ g → allH ρ x.1 → x.2.holds ρ :=
  fun x hx ρ hg hx1 => h (g ++ x.1, x.2) (List.mem_map.2 ⟨x, hx, rfl⟩) ρ (allH_app.2 ⟨hg, hx1⟩)

structure Alt where
  fs : List F
  pc : List F
  s : SV
  pre : Log
structure COut where
  vcs : Vcs
  t : T Alt
  n : Nat
def Alt.ws (n : Nat) (x : Alt) : Prop := F.avos n BIG x.fs = true ∧ F.avos n BIG x.pc = true ∧ x.s.avo n BIG = true ∧ Log.avo n BIG x.pre = true
theorem Alt.ws_mono {n m : Nat} (h : n ≤ m) {x : Alt} (g : x.ws n) : x.ws m :=
  ⟨F.avos_mono h (Nat.le_refl _) g.1, F.avos_mono h (Nat.le_refl _) g.2.1, SV.avo_mono h (Nat.le_refl _) _ g.2.2.1, Log.avo_mono h (Nat.le_refl _) _ g.2.2.2⟩

abbrev CallFn := Nat → List SV → Nat → Log → List F → Option COut

/-- What a table of calls promises. -/
def CallOK (P : Program) (call : CallFn) : Prop :=
  ∀ (f : Nat) (args : List SV) (n : Nat) (H : Log) (g : List F) (out : COut), call f args n H g = some out → Log.avo n BIG H = true → SV.avos n BIG args = true → F.avos n BIG g = true → n ≤ BIG →
    n ≤ out.n ∧ out.n ≤ BIG ∧ out.t.all out.n (Alt.ws out.n) ∧
    (Valid out.vcs → ∀ (C : Ctx) (ρ : Env) (w : World), allH ρ g → HD C ρ H w →
      Calls P f (args.map (SV.den ρ)).toArray w fun e w' => ∃ ρ', Agr n out.n ρ ρ' ∧
        out.t.post ρ' fun x => allH ρ' x.fs ∧ allH ρ' x.pc ∧ e = .returned (x.s.den ρ') ∧ HD C ρ' (x.pre ++ H) w')

/-- Can it be entered? -/
def hasBody (P : Program) (f : Nat) : Bool :=
  match P.funcs[f]? with
  | some fn => fn.body.isSome
  | none => false
def NoRt (P : Program) : Prop := ∀ (f : Nat) (fn : Func), P.funcs[f]? = some fn → (fn.name == "runtime.NumGoroutine") = false
theorem run_callFunc {P : Program} (hN : NoRt P) {f : Nat} (h : hasBody P f = true) (args : Array Value) (w : World) : (callFunc f args).run P w = .ok (.enter f args) w := by
  unfold hasBody at h
  split at h
  · rename_i fn hf
    have h1 := hN f fn hf
    have h2 : fn.body.isNone = false := by cases hb : fn.body <;> simp_all
    simp only [callFunc, Sem.run_bind, run_program, Result.andThen_ok, hf, h1, h2, Bool.false_eq_true, if_false]
    rfl
  · cases h

/-- It holds by its shape. -/
def plain1 : F → Bool
  | .be (.lit true) => true
  | _ => false
theorem plain1_ok {f : F} (h : plain1 f = true) (ρ : Env) : f.holds ρ := by
  unfold plain1 at h; split at h
  · rfl
  · cases h

def stepO (P : Program) (call : CallFn) (R H : Log) (n : Nat) (g : List F) (c : BE) (o : Op) : Option COut :=
  match o with
  | .call { callee := .value f, args, .. } =>
    match sev R c f, sevs R c args.toList with
    | some (.fn (.func fid) a b), some l =>
      bif hasBody P fid then call fid (a ++ (l ++ b)) n H g else none
    | _, _ => none
  | o =>
    match sop P R H n c o with
    | some r =>
      bif Nat.ble n r.nxt && (Nat.ble r.nxt BIG && (F.avos r.nxt BIG r.facts && (r.val.avo r.nxt BIG && Log.avo r.nxt BIG r.log))) then
        some ⟨(r.vcs.filter fun v => !(plain1 v)).map fun v => (g, v), .lf ⟨r.facts, [], r.val, r.log⟩, r.nxt⟩
      else none
    | none => none

theorem Log.avo_sub {n : Nat} {L : Log} (h : Log.avo n BIG L = true) {m : Nat} (hm : m ≤ BIG) : Log.avo n m L = true := Log.avo_mono (Nat.le_refl _) hm L h

/-- The places of calls among the operations. -/
def isGoCall : Op → Bool
  | .call { callee := .value _, .. } => true
  | _ => false

theorem sevs_avo {n : Nat} {R : Log} (h : Log.avo n BIG R = true) {c : BE} : ∀ {xs : List Operand} {l : List SV}, sevs R c xs = some l → SV.avos n BIG l = true := by
  have one : ∀ {x : Operand} {s : SV}, sev R c x = some s → s.avo n BIG = true := by
    intro x s hs
    cases x with
    | tmp t =>
      simp only [sev] at hs
      split at hs
      · rename_i d s' hl
        cases hi : impl c d
        · rw [hi] at hs; cases hs
        · rw [hi] at hs
          obtain rfl := Option.some.inj hs
          have := (Log.avo_look h hl).2
          simp only [Ent.avo, Bool.and_eq_true] at this
          exact this.2
      · cases hs
    | const v =>
      simp only [sev] at hs; obtain rfl := Option.some.inj hs
      have hc : ∀ v, (ofCell v).avo n BIG = true := by intro v; unfold ofCell; split <;> rfl
      unfold ofValue; split
      · simp only [SV.avo]
        rename_i cs
        induction cs.toList with
        | nil => rfl
        | cons a r ih => simp only [List.map_cons, SV.avos, hc, ih, Bool.and_self]
      · exact hc _
    | func f => simp only [sev] at hs; obtain rfl := Option.some.inj hs; rfl
    | global g => cases hs
  intro xs
  induction xs with
  | nil => intro l hs; simp only [sevs] at hs; obtain rfl := Option.some.inj hs; rfl
  | cons x r ih =>
    intro l hs
    simp only [sevs] at hs
    split at hs
    · rename_i s l' h1 h2
      obtain rfl := Option.some.inj hs
      simp only [SV.avos, one h1, ih h2, Bool.and_self]
    · cases hs
theorem sev_avo {n : Nat} {R : Log} (h : Log.avo n BIG R = true) {c : BE} {x : Operand} {s : SV} (hs : sev R c x = some s) : s.avo n BIG = true := by
  have := sevs_avo h (c := c) (xs := [x]) (l := [s]) (by simp only [sevs, hs])
  simp only [SV.avos, Bool.and_eq_true] at this
  exact this.1
theorem SV.avos_app {lo hi : Nat} : ∀ {l m : List SV}, SV.avos lo hi l = true → SV.avos lo hi m = true → SV.avos lo hi (l ++ m) = true
  | [], m, _, g => g
  | s :: r, m, h, g => by
    simp only [SV.avos, Bool.and_eq_true] at h
    simp only [List.cons_append, SV.avos, Bool.and_eq_true]
    exact ⟨h.1, SV.avos_app h.2 g⟩

/-- One operation, whichever it is. -/
theorem stepO_ok {P : Program} {call : CallFn} (hcall : CallOK P call) (hN : NoRt P) {R H : Log} {n : Nat} {g : List F} {c : BE} {o : Oper} {out : COut} (h : stepO P call R H n g c o.op = some out)
    (hR : Log.avo n BIG R = true) (hH : Log.avo n BIG H = true) (hg : F.avos n BIG g = true) (hn : n ≤ BIG) :
    n ≤ out.n ∧ out.n ≤ BIG ∧ out.t.all out.n (Alt.ws out.n) ∧
    (Valid out.vcs → ∀ (C : Ctx) (nt : Nat) (ρ : Env) (a : Act) (w : World), allH ρ g → HD C ρ H w → RD nt ρ R a → c.den ρ = true →
      ∀ (K : Act → World → Prop) (Q : Exit → Act → World → Prop),
        (∀ ρ' w' v, Agr n out.n ρ ρ' → (out.t.post ρ' fun x => allH ρ' x.fs ∧ allH ρ' x.pc ∧ v = x.s.den ρ' ∧ HD C ρ' (x.pre ++ H) w') → K (a.put o.dst v) w') → o.wp P a w K Q) := by
  unfold stepO at h
  split at h
  · rename_i f args ts ho
    split at h
    · rename_i fid a1 b1 l hf hl
      cases hb : hasBody P fid
      · rw [hb] at h; cases h
      · rw [hb] at h
        simp only [cond_true] at h
        have hfa := sev_avo hR hf
        simp only [SV.avo, Bool.and_eq_true] at hfa
        obtain ⟨h1, h2, h3, h4⟩ := hcall fid _ n H g out h hH (SV.avos_app hfa.1 (SV.avos_app (sevs_avo hR hl) hfa.2)) hg hn
        refine ⟨h1, h2, h3, fun hv C nt ρ a w hgρ HH RR hc K Q hK => ?_⟩
        have hcalls := h4 hv C ρ w hgρ HH
        have hev := sev_den RR hc hf
        have hargs : args.map a.eval = (l.map (SV.den ρ)).toArray := by rw [← sevs_den RR hc hl, map_arr]
        have hrun : (execOp a.eval o).run P w = .ok (.enter fid ((a1 ++ (l ++ b1)).map (SV.den ρ)).toArray) w := by
          simp only [execOp, ho, resolve, hev, SV.den, SV.dens_eq, Deferred.ofValue, hargs, Sem.run_bind, Sem.run_pure, Result.andThen_ok, invoke, run_callFunc hN hb]
          simp [List.map_append]
        simp only [Oper.wp, hrun, Oper.upon]
        refine hcalls.mono fun e w' he => ?_
        obtain ⟨ρ', hagr, hp⟩ := he
        cases e with
        | returned v =>
          exact hK ρ' w' v hagr (T.post_mono (fun x hx => ⟨hx.1, hx.2.1, by have := hx.2.2.1; injection this, hx.2.2.2⟩) hp)
        | panicked ch =>
          exfalso
          have : ∀ t : T Alt, (t.post ρ' fun x => allH ρ' x.fs ∧ allH ρ' x.pc ∧ (Ending.panicked ch) = .returned (x.s.den ρ') ∧ HD C ρ' (x.pre ++ H) w') → False := by
            intro t
            induction t with
            | lf x => intro hx; have := hx.2.2.1; cases this
            | nd c a b iha ihb => intro hx; simp only [T.post] at hx; split at hx; exact iha hx; exact ihb hx
            | or a b iha ihb => intro hx; exact hx.elim iha ihb
            | no => exact fun hx => hx
          exact this _ hp
        | outgrown =>
          exfalso
          have : ∀ t : T Alt, (t.post ρ' fun x => allH ρ' x.fs ∧ allH ρ' x.pc ∧ Ending.outgrown = .returned (x.s.den ρ') ∧ HD C ρ' (x.pre ++ H) w') → False := by
            intro t
            induction t with
            | lf x => intro hx; have := hx.2.2.1; cases this
            | nd c a b iha ihb => intro hx; simp only [T.post] at hx; split at hx; exact iha hx; exact ihb hx
            | or a b iha ihb => intro hx; exact hx.elim iha ihb
            | no => exact fun hx => hx
          exact this _ hp
    · cases h
  · split at h
    · rename_i r hr
      cases hb : (Nat.ble n r.nxt && (Nat.ble r.nxt BIG && (F.avos r.nxt BIG r.facts && (r.val.avo r.nxt BIG && Log.avo r.nxt BIG r.log))))
      · rw [hb] at h; cases h
      · rw [hb] at h
        obtain rfl := Option.some.inj h
        simp only [Bool.and_eq_true] at hb
        obtain ⟨b1, b2, b3, b4, b5⟩ := hb
        have hle := Nat.le_of_ble_eq_true b1
        have hbig := Nat.le_of_ble_eq_true b2
        refine ⟨hle, hbig, ⟨b3, rfl, b4, b5⟩, fun hv C nt ρ a w hgρ HH RR hc K Q hK => ?_⟩
        have hvc : allH ρ r.vcs := fun v hvm => by
          cases hp : plain1 v
          · exact hv (g, v) (List.mem_map.2 ⟨v, List.mem_filter.2 ⟨hvm, by rw [hp]; rfl⟩, rfl⟩) ρ hgρ
          · exact plain1_ok hp ρ
        obtain ⟨ρ', w', nx, hrun, hnx, hagr, hfs, hd⟩ := sop_ok hr C nt ρ a w HH RR hc hvc (Log.avo_sub hH hbig)
        simp only [Oper.wp, hrun]
        rcases hnx with rfl | ⟨rfl, hu⟩
        · exact hK ρ' w' _ hagr ⟨hfs, allH_nil _, rfl, hd⟩
        · exact hK ρ' w' _ hagr ⟨hfs, allH_nil _, hu.symm, hd⟩
    · cases h
end Go.Proofs.Ytcegefhjgkoknaa.E
