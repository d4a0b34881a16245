/- The engine, part 3: facts, folding of constants, reading and writing of places. -/
import Derived.Test.YtcegefhjgkoknaaE2
namespace Go.Proofs.Ytcegefhjgkoknaa.E
open Go.RowKit
set_option linter.unusedVariables false
set_option linter.unusedSimpArgs false

inductive F where
  | be (b : BE)
  | rel (r : List Int → List (Nat → Nat → Int) → Prop) (is : List IE) (ls : List LE)
  | imp (c : BE) (f : F)

def F.holds (ρ : Env) : F → Prop
  | .be b => b.den ρ = true
  | .rel r is ls => r (is.map (IE.den ρ)) (ls.map (LE.den ρ))
  | .imp c f => c.den ρ = true → f.holds ρ
def F.avo (lo hi : Nat) : F → Bool
  | .be b => b.avo lo hi
  | .rel _ is ls => is.all (IE.avo lo hi) && ls.all (LE.avo lo hi)
  | .imp c f => c.avo lo hi && f.avo lo hi
theorem F.holds_agr {lo hi : Nat} {ρ σ : Env} (h : Agr lo hi ρ σ) : ∀ f : F, f.avo lo hi = true → (f.holds σ ↔ f.holds ρ)
  | .be b, g => by simp only [F.avo] at g; simp only [F.holds, BE.den_agr h b g]
  | .rel r is ls, g => by
    simp only [F.avo, Bool.and_eq_true, List.all_eq_true] at g
    have e1 : is.map (IE.den σ) = is.map (IE.den ρ) := List.map_congr_left fun x hx => IE.den_agr h x (g.1 x hx)
    have e2 : ls.map (LE.den σ) = ls.map (LE.den ρ) := List.map_congr_left fun x hx => LE.den_agr h x (g.2 x hx)
    simp only [F.holds, e1, e2]
  | .imp c f, g => by simp only [F.avo, Bool.and_eq_true] at g; simp only [F.holds, BE.den_agr h c g.1, F.holds_agr h f g.2]
def allH (ρ : Env) (l : List F) : Prop := ∀ f, f ∈ l → f.holds ρ
theorem allH_nil (ρ : Env) : allH ρ [] := fun f h => by cases h
theorem allH_cons {ρ : Env} {f : F} {l : List F} : allH ρ (f :: l) ↔ f.holds ρ ∧ allH ρ l := by
  constructor
  · exact fun h => ⟨h f (.head _), fun g hg => h g (.tail _ hg)⟩
  · rintro ⟨h1, h2⟩ g hg
    cases hg with
    | head => exact h1
    | tail _ hg => exact h2 g hg
theorem allH_app {ρ : Env} {l m : List F} : allH ρ (l ++ m) ↔ allH ρ l ∧ allH ρ m := by
  constructor
  · exact fun h => ⟨fun f hf => h f (List.mem_append.2 (.inl hf)), fun f hf => h f (List.mem_append.2 (.inr hf))⟩
  · exact fun h f hf => (List.mem_append.1 hf).elim (h.1 f) (h.2 f)
def F.avos (lo hi : Nat) (l : List F) : Bool := l.all (F.avo lo hi)
theorem allH_agr {lo hi : Nat} {ρ σ : Env} (h : Agr lo hi ρ σ) {l : List F} (g : F.avos lo hi l = true) : allH σ l ↔ allH ρ l := by
  simp only [F.avos, List.all_eq_true] at g
  exact ⟨fun k f hf => (F.holds_agr h f (g f hf)).1 (k f hf), fun k f hf => (F.holds_agr h f (g f hf)).2 (k f hf)⟩

/-! folding -/
def mkAdd : IE → IE → IE
  | .lit a, .lit b => .lit (a + b)
  | a, b => .add a b
theorem mkAdd_den (ρ : Env) (a b : IE) : (mkAdd a b).den ρ = a.den ρ + b.den ρ := by unfold mkAdd; split <;> rfl
def mkSub : IE → IE → IE
  | .lit a, .lit b => .lit (a - b)
  | a, b => .sub a b
theorem mkSub_den (ρ : Env) (a b : IE) : (mkSub a b).den ρ = a.den ρ - b.den ρ := by unfold mkSub; split <;> rfl
def mkMul : IE → IE → IE
  | .lit a, .lit b => .lit (a * b)
  | a, b => .mul a b
theorem mkMul_den (ρ : Env) (a b : IE) : (mkMul a b).den ρ = a.den ρ * b.den ρ := by unfold mkMul; split <;> rfl
def mkQuo : IE → IE → IE
  | .lit a, .lit b => .lit (a.tdiv b)
  | a, b => .quo a b
theorem mkQuo_den (ρ : Env) (a b : IE) : (mkQuo a b).den ρ = (a.den ρ).tdiv (b.den ρ) := by unfold mkQuo; split <;> rfl
def mkRem : IE → IE → IE
  | .lit a, .lit b => .lit (a.tmod b)
  | a, b => .rem a b
theorem mkRem_den (ρ : Env) (a b : IE) : (mkRem a b).den ρ = (a.den ρ).tmod (b.den ρ) := by unfold mkRem; split <;> rfl
def mkMx : IE → IE → IE
  | .lit a, .lit b => .lit (mxI a b)
  | a, b => .mx a b
theorem mkMx_den (ρ : Env) (a b : IE) : (mkMx a b).den ρ = (IE.mx a b).den ρ := by unfold mkMx; split <;> rfl
def mkMn : IE → IE → IE
  | .lit a, .lit b => .lit (mnI a b)
  | a, b => .mn a b
theorem mkMn_den (ρ : Env) (a b : IE) : (mkMn a b).den ρ = (IE.mn a b).den ρ := by unfold mkMn; split <;> rfl
def mkWrap (k : IntKind) : IE → IE
  | .lit a => .lit (k.wrap a)
  | a => .wrap k a
theorem mkWrap_den (ρ : Env) (k : IntKind) (a : IE) : (mkWrap k a).den ρ = k.wrap (a.den ρ) := by unfold mkWrap; split <;> rfl
def mkNat : IE → IE
  | .lit (.ofNat n) => .lit (.ofNat n)
  | .nat a => .nat a
  | a => .nat a
theorem mkNat_den (ρ : Env) (a : IE) : (mkNat a).den ρ = ((a.den ρ).toNat : Int) := by unfold mkNat; split <;> simp [IE.den]
def mkCmp (op : BinOp) : IE → IE → BE
  | .lit a, .lit b => .lit (cmpI op a b)
  | a, b => .cmp op a b
theorem mkCmp_den (ρ : Env) (op : BinOp) (a b : IE) : (mkCmp op a b).den ρ = cmpI op (a.den ρ) (b.den ρ) := by unfold mkCmp; split <;> rfl
def mkEqb : BE → BE → BE
  | .lit a, .lit b => .lit (a == b)
  | a, b => .eqb a b
theorem mkEqb_den (ρ : Env) (a b : BE) : (mkEqb a b).den ρ = (a.den ρ == b.den ρ) := by unfold mkEqb; split <;> rfl
def mkNot : BE → BE
  | .lit b => .lit (!b)
  | .not a => a
  | a => .not a
theorem mkNot_den (ρ : Env) (a : BE) : (mkNot a).den ρ = !(a.den ρ) := by unfold mkNot; split <;> simp [BE.den]
def mkAnd : BE → BE → BE
  | .lit true, b => b
  | .lit false, _ => .lit false
  | a, .lit true => a
  | a, b => .ite a b (.lit false)
theorem mkAnd_den (ρ : Env) (a b : BE) : (mkAnd a b).den ρ = (a.den ρ && b.den ρ) := by
  unfold mkAnd; split <;> simp [BE.den]
def mkIteB : BE → BE → BE → BE
  | .lit true, a, _ => a
  | .lit false, _, b => b
  | c, a, b => bif a.eq b then a else .ite c a b
theorem mkIteB_den (ρ : Env) (c a b : BE) : (mkIteB c a b).den ρ = if c.den ρ then a.den ρ else b.den ρ := by
  unfold mkIteB
  split
  · simp [BE.den]
  · simp [BE.den]
  · cases h : a.eq b
    · rfl
    · have := BE.eq_eq a b h; subst this; simp
def mkIteI : BE → IE → IE → IE
  | .lit true, a, _ => a
  | .lit false, _, b => b
  | c, a, b => bif a.eq b then a else .ite c a b
theorem mkIteI_den (ρ : Env) (c : BE) (a b : IE) : (mkIteI c a b).den ρ = if c.den ρ then a.den ρ else b.den ρ := by
  unfold mkIteI
  split
  · simp [BE.den]
  · simp [BE.den]
  · cases h : a.eq b
    · rfl
    · have := IE.eq_eq a b h; subst this; simp
def mkIteL : BE → LE → LE → LE
  | .lit true, a, _ => a
  | .lit false, _, b => b
  | c, a, b => bif a.eq b then a else .ite c a b
theorem mkIteL_den (ρ : Env) (c : BE) (a b : LE) : (mkIteL c a b).den ρ = if c.den ρ then a.den ρ else b.den ρ := by
  unfold mkIteL
  split
  · simp [BE.den]
  · simp [BE.den]
  · cases h : a.eq b
    · rfl
    · have := LE.eq_eq a b h; subst this; simp

def litNe : IE → IE → Bool
  | .lit a, .lit b => !(Nat.beq a.toNat b.toNat)
  | _, _ => false
def mkGet : LE → IE → Nat → IE
  | .upd l j d e, i, c => bif Nat.beq d c then (bif i.eq j then e else bif litNe i j then mkGet l i c else .get (.upd l j d e) i c) else mkGet l i c
  | l, i, c => .get l i c
theorem mkGet_den (ρ : Env) (i : IE) (c : Nat) : ∀ l : LE, (mkGet l i c).den ρ = l.den ρ (i.den ρ).toNat c
  | .var v => rfl
  | .ite x a b => rfl
  | .upd l j d e => by
    simp only [mkGet, LE.den, updL]
    cases h1 : Nat.beq d c
    · have hn : ¬ c = d := fun e => by rw [e, Nat.beq_refl] at h1; cases h1
      simp only [cond_false, mkGet_den ρ i c l, hn, and_false, if_false]
    · have hc := Nat.eq_of_beq_eq_true h1
      subst hc
      cases h2 : i.eq j
      · simp only [cond_true, cond_false, and_true]
        cases h3 : litNe i j
        · simp only [cond_false, IE.den, LE.den, updL, and_true]
        · have hne : ¬ (i.den ρ).toNat = (j.den ρ).toNat := by
            cases i <;> cases j <;> simp only [litNe, Bool.false_eq_true] at h3
            rename_i m n
            intro e
            simp only [IE.den] at e
            rw [e, Nat.beq_refl] at h3
            cases h3
          simp only [cond_true, mkGet_den ρ i d l, hne, if_false]
      · have hij := IE.eq_eq i j h2
        subst hij
        simp only [cond_true, and_self, if_true]

/-! of values -/
def ofCell : Value → SV
  | .bool b => .b (.lit b)
  | .int k n => .int k (.lit n)
  | .pointer none => .nilp
  | .slice none 0 0 => .nils
  | .nilFunc => .nilf
  | v => .con v
theorem ofCell_den (ρ : Env) (v : Value) : (ofCell v).den ρ = v := by unfold ofCell; split <;> rfl
def ofValue : Value → SV
  | .agg cs => .agg (cs.toList.map ofCell)
  | v => ofCell v
theorem ofCells_den (ρ : Env) (l : List Value) : SV.dens ρ (l.map ofCell) = l := by
  induction l with
  | nil => rfl
  | cons v r ih => simp only [List.map_cons, SV.dens, ofCell_den, ih]
theorem ofValue_den (ρ : Env) (v : Value) : (ofValue v).den ρ = v := by
  unfold ofValue; split
  · simp only [SV.den, ofCells_den, Array.toArray_toList]
  · exact ofCell_den ρ _

/-- What follows from what (by their shape alone). -/
def imp1 : BE → BE → Bool
  | .ite a b e, d => (d.eq (.ite a b e)) || ((e.eq (.lit false)) && (imp1 a d || imp1 b d))
  | c, d => d.eq c
theorem imp1_den (ρ : Env) (d : BE) : ∀ c : BE, imp1 c d = true → c.den ρ = true → d.den ρ = true
  | .ite a b e, h, g => by
    simp only [imp1, Bool.or_eq_true, Bool.and_eq_true] at h
    rcases h with h | ⟨he, h⟩
    · rw [BE.eq_eq _ _ h]; exact g
    · have := BE.eq_eq _ _ he; subst this
      simp only [BE.den] at g
      cases ha : a.den ρ
      · rw [ha] at g; cases g
      · rw [ha] at g
        rcases h with h | h
        · exact imp1_den ρ d a h ha
        · exact imp1_den ρ d b h g
  | .lit _, h, g => by simp only [imp1] at h; rw [BE.eq_eq _ _ h]; exact g
  | .var _, h, g => by simp only [imp1] at h; rw [BE.eq_eq _ _ h]; exact g
  | .not _, h, g => by simp only [imp1] at h; rw [BE.eq_eq _ _ h]; exact g
  | .cmp _ _ _, h, g => by simp only [imp1] at h; rw [BE.eq_eq _ _ h]; exact g
  | .eqb _ _, h, g => by simp only [imp1] at h; rw [BE.eq_eq _ _ h]; exact g
def impl (c d : BE) : Bool :=
  match d with
  | .lit true => true
  | .ite a b (.lit false) => imp1 c d || (imp1 c a && imp1 c b)
  | _ => imp1 c d
theorem impl_den {ρ : Env} {c d : BE} (h : impl c d = true) (g : c.den ρ = true) : d.den ρ = true := by
  unfold impl at h
  split at h
  · rfl
  · simp only [Bool.or_eq_true, Bool.and_eq_true] at h
    rcases h with h | ⟨h1, h2⟩
    · exact imp1_den ρ _ c h g
    · simp only [BE.den, imp1_den ρ _ c h1 g, imp1_den ρ _ c h2 g, if_true]
  · exact imp1_den ρ _ c h g

def sev (L : Log) (c : BE) : Operand → Option SV
  | .tmp t =>
    match look (.r t) L with
    | some (.reg d s) => bif impl c d then some s else none
    | _ => none
  | .const v => some (ofValue v)
  | .func f => some (.fn (.func f) [] [])
  | .global _ => none
theorem sev_den {nt : Nat} {ρ : Env} {L : Log} {a : Act} (h : RD nt ρ L a) {c : BE} (hc : c.den ρ = true) {x : Operand} {s : SV} (hs : sev L c x = some s) : a.eval x = s.den ρ := by
  cases x with
  | tmp t =>
    simp only [sev] at hs
    split at hs
    · rename_i d s' hl
      cases hi : impl c d
      · rw [hi] at hs; cases hs
      · rw [hi] at hs
        obtain rfl := Option.some.inj hs
        have := h.regs t d s' hl
        rw [impl_den hi hc, if_pos rfl] at this
        simp only [Act.eval, Array.getD_eq_getD_getElem?, this, Option.getD_some]
    · cases hs
  | const v => simp only [sev] at hs; obtain rfl := Option.some.inj hs; simp only [Act.eval, ofValue_den]
  | func f => simp only [sev] at hs; obtain rfl := Option.some.inj hs; rfl
  | global g => cases hs

def sevs (L : Log) (c : BE) : List Operand → Option (List SV)
  | [] => some []
  | x :: r => match sev L c x, sevs L c r with
    | some s, some l => some (s :: l)
    | _, _ => none
theorem sevs_den {nt : Nat} {ρ : Env} {L : Log} {a : Act} (h : RD nt ρ L a) {c : BE} (hc : c.den ρ = true) : ∀ {xs : List Operand} {l : List SV}, sevs L c xs = some l → xs.map a.eval = l.map (SV.den ρ)
  | [], l, hs => by simp only [sevs] at hs; obtain rfl := Option.some.inj hs; rfl
  | x :: r, l, hs => by
    simp only [sevs] at hs
    split at hs
    · rename_i s l' h1 h2
      obtain rfl := Option.some.inj hs
      simp only [List.map_cons, sev_den h hc h1, sevs_den h hc h2]
    · cases hs
end Go.Proofs.Ytcegefhjgkoknaa.E
