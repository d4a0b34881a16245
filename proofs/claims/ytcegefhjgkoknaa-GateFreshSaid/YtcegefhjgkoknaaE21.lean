/- The engine, part 21: the same but for the names of some variables. -/
import Derived.Test.YtcegefhjgkoknaaE20
namespace Go.Proofs.Ytcegefhjgkoknaa.E
open Go.RowKit
set_option linter.unusedVariables false
set_option linter.unusedSimpArgs false

/-- v, from m on, is u, from n on (d of them); all others are themselves. -/
structure Ren where
  m : Nat
  n : Nat
  d : Nat
def Ren.v (r : Ren) (v u : Nat) : Bool :=
  bif Nat.ble r.m v && Nat.blt v (r.m + r.d) then Nat.beq u (r.n + (v - r.m)) else (Nat.beq v u && (Nat.blt v r.n || Nat.ble (r.n + r.d) v))
def Ren.back (r : Ren) (u : Nat) : Nat := if r.n ≤ u ∧ u < r.n + r.d then r.m + (u - r.n) else u
theorem Ren.v_back {r : Ren} {v u : Nat} (h : r.v v u = true) : r.back u = v := by
  unfold Ren.v at h
  unfold Ren.back
  cases hc : (Nat.ble r.m v && Nat.blt v (r.m + r.d))
  · rw [hc] at h
    simp only [cond_false, Bool.and_eq_true, Bool.or_eq_true] at h
    have h1 := Nat.eq_of_beq_eq_true h.1
    subst h1
    rw [if_neg]
    rintro ⟨g1, g2⟩
    rcases h.2 with g | g
    · have : v + 1 ≤ r.n := Nat.le_of_ble_eq_true g; omega
    · have := Nat.le_of_ble_eq_true g; omega
  · rw [hc] at h
    simp only [cond_true] at h
    simp only [Bool.and_eq_true] at hc
    have h1 := Nat.eq_of_beq_eq_true h
    have h2 := Nat.le_of_ble_eq_true hc.1
    have h3 : v + 1 ≤ r.m + r.d := Nat.le_of_ble_eq_true hc.2
    subst h1
    rw [if_pos ⟨by omega, by omega⟩]; omega
/-- The environment in which the others mean what these mean. -/
def Ren.env (r : Ren) (ρ : Env) : Env :=
  { i := fun u => ρ.i (r.back u), b := fun u => ρ.b (r.back u), k := fun u => ρ.k (r.back u), f := fun u => ρ.f (r.back u), l := fun u => ρ.l (r.back u), x := fun u => ρ.x (r.back u), y := fun u => ρ.y (r.back u) }
theorem Ren.env_agr (r : Ren) (ρ : Env) : Agr r.n (r.n + r.d) ρ (r.env ρ) := by
  have : ∀ v, v < r.n ∨ r.n + r.d ≤ v → r.back v = v := by
    intro v hv; unfold Ren.back; rw [if_neg]; omega
  constructor <;> intro v hv <;> simp only [Ren.env, this v hv]

mutual
def IE.eqr (r : Ren) : IE → IE → Bool
  | .lit m, .lit n => iEq m n
  | .var v, .var u => r.v v u
  | .add a b, .add c d | .sub a b, .sub c d | .mul a b, .mul c d | .quo a b, .quo c d | .rem a b, .rem c d | .mx a b, .mx c d | .mn a b, .mn c d => a.eqr r c && b.eqr r d
  | .wrap k a, .wrap j c => kEq k j && a.eqr r c
  | .bits o k a b, .bits p j c d => opEq o p && (kEq k j && (a.eqr r c && b.eqr r d))
  | .shl k a b, .shl j c d | .shr k a b, .shr j c d => kEq k j && (a.eqr r c && b.eqr r d)
  | .ite x a b, .ite y c d => x.eqr r y && (a.eqr r c && b.eqr r d)
  | .nat a, .nat c => a.eqr r c
  | .get l i c, .get m j d => Nat.beq c d && (i.eqr r j && l.eqr r m)
  | _, _ => false
def BE.eqr (r : Ren) : BE → BE → Bool
  | .lit m, .lit n => m == n
  | .var v, .var u => r.v v u
  | .not a, .not b => a.eqr r b
  | .cmp o a b, .cmp p c d => opEq o p && (a.eqr r c && b.eqr r d)
  | .ite x a b, .ite y c d => x.eqr r y && (a.eqr r c && b.eqr r d)
  | .eqb a b, .eqb c d => a.eqr r c && b.eqr r d
  | _, _ => false
def LE.eqr (r : Ren) : LE → LE → Bool
  | .var v, .var u => r.v v u
  | .upd l i c e, .upd m j d f => Nat.beq c d && (i.eqr r j && (e.eqr r f && l.eqr r m))
  | .ite x a b, .ite y c d => x.eqr r y && (a.eqr r c && b.eqr r d)
  | _, _ => false
end

mutual
theorem IE.eqr_den {r : Ren} {ρ : Env} : ∀ a b : IE, a.eqr r b = true → b.den (r.env ρ) = a.den ρ := by
  intro a b h
  cases a <;> cases b <;> first
    | (cases h; done)
    | (simp only [IE.eqr] at h; rw [iEq_eq h]; rfl)
    | (simp only [IE.eqr] at h; simp only [IE.den, Ren.env, Ren.v_back h]; done)
    | (simp only [IE.eqr, Bool.and_eq_true] at h; simp only [IE.den, IE.eqr_den _ _ h.1, IE.eqr_den _ _ h.2]; done)
    | (simp only [IE.eqr, Bool.and_eq_true] at h; have := kEq_eq h.1; subst this; simp only [IE.den, IE.eqr_den _ _ h.2]; done)
    | (simp only [IE.eqr, Bool.and_eq_true] at h; have := opEq_eq h.1; subst this; have := kEq_eq h.2.1; subst this; simp only [IE.den, IE.eqr_den _ _ h.2.2.1, IE.eqr_den _ _ h.2.2.2]; done)
    | (simp only [IE.eqr, Bool.and_eq_true] at h; have := kEq_eq h.1; subst this; simp only [IE.den, IE.eqr_den _ _ h.2.1, IE.eqr_den _ _ h.2.2]; done)
    | (simp only [IE.eqr, Bool.and_eq_true] at h; simp only [IE.den, BE.eqr_den _ _ h.1, IE.eqr_den _ _ h.2.1, IE.eqr_den _ _ h.2.2]; done)
    | (simp only [IE.eqr] at h; simp only [IE.den, IE.eqr_den _ _ h]; done)
    | (simp only [IE.eqr, Bool.and_eq_true] at h; have := Nat.eq_of_beq_eq_true h.1; subst this; simp only [IE.den, IE.eqr_den _ _ h.2.1, LE.eqr_den _ _ h.2.2]; done)
theorem BE.eqr_den {r : Ren} {ρ : Env} : ∀ a b : BE, a.eqr r b = true → b.den (r.env ρ) = a.den ρ := by
  intro a b h
  cases a <;> cases b <;> first
    | (cases h; done)
    | (simp only [BE.eqr, beq_iff_eq] at h; rw [h]; rfl)
    | (simp only [BE.eqr] at h; simp only [BE.den, Ren.env, Ren.v_back h]; done)
    | (simp only [BE.eqr] at h; simp only [BE.den, BE.eqr_den _ _ h]; done)
    | (simp only [BE.eqr, Bool.and_eq_true] at h; have := opEq_eq h.1; subst this; simp only [BE.den, IE.eqr_den _ _ h.2.1, IE.eqr_den _ _ h.2.2]; done)
    | (simp only [BE.eqr, Bool.and_eq_true] at h; simp only [BE.den, BE.eqr_den _ _ h.1, BE.eqr_den _ _ h.2.1, BE.eqr_den _ _ h.2.2]; done)
    | (simp only [BE.eqr, Bool.and_eq_true] at h; simp only [BE.den, BE.eqr_den _ _ h.1, BE.eqr_den _ _ h.2]; done)
theorem LE.eqr_den {r : Ren} {ρ : Env} : ∀ a b : LE, a.eqr r b = true → b.den (r.env ρ) = a.den ρ := by
  intro a b h
  cases a <;> cases b <;> first
    | (cases h; done)
    | (simp only [LE.eqr] at h; simp only [LE.den, Ren.env, Ren.v_back h]; done)
    | (simp only [LE.eqr, Bool.and_eq_true] at h; have := Nat.eq_of_beq_eq_true h.1; subst this; simp only [LE.den, IE.eqr_den _ _ h.2.1, IE.eqr_den _ _ h.2.2.1, LE.eqr_den _ _ h.2.2.2]; done)
    | (simp only [LE.eqr, Bool.and_eq_true] at h; simp only [LE.den, BE.eqr_den _ _ h.1, LE.eqr_den _ _ h.2.1, LE.eqr_den _ _ h.2.2]; done)
end

def PT.eqr (r : Ren) : PT → PT → Bool
  | .at a b, .at c d => r.v a c && Nat.beq b d
  | .ax a b i e, .ax c d j f => r.v a c && (Nat.beq b d && (i.eqr r j && Nat.beq e f))
  | .fm a i b, .fm c j d => r.v a c && (i.eqr r j && Nat.beq b d)
  | .el a i b c, .el d j e f => r.v a d && (i.eqr r j && (Nat.beq b e && Nat.beq c f))
  | _, _ => false
theorem PT.eqr_addr {r : Ren} {ρ : Env} {a b : PT} (h : a.eqr r b = true) : b.addr (r.env ρ) = a.addr ρ := by
  cases a <;> cases b <;> first
    | (cases h; done)
    | (simp only [PT.eqr, Bool.and_eq_true] at h; have := Nat.eq_of_beq_eq_true h.2; subst this; simp only [PT.addr, Ren.env, Ren.v_back h.1]; done)
    | (simp only [PT.eqr, Bool.and_eq_true] at h; have := Nat.eq_of_beq_eq_true h.2.1; subst this; have := Nat.eq_of_beq_eq_true h.2.2.2; subst this; simp only [PT.addr, IE.eqr_den _ _ h.2.2.1]; simp only [Ren.env, Ren.v_back h.1]; done)
    | (simp only [PT.eqr, Bool.and_eq_true] at h; have := Nat.eq_of_beq_eq_true h.2.2; subst this; simp only [PT.addr, IE.eqr_den _ _ h.2.1]; simp only [Ren.env, Ren.v_back h.1]; done)
    | (simp only [PT.eqr, Bool.and_eq_true] at h; have := Nat.eq_of_beq_eq_true h.2.2.1; subst this; have := Nat.eq_of_beq_eq_true h.2.2.2; subst this; simp only [PT.addr, IE.eqr_den _ _ h.2.1]; simp only [Ren.env, Ren.v_back h.1]; done)

def fnEq (a b : Fn) : Bool :=
  match a, b with
  | .func f, .func g => Nat.beq f g
  | _, _ => false
theorem fnEq_eq {a b : Fn} (h : fnEq a b = true) : a = b := by
  cases a <;> cases b <;> first | (cases h; done) | (exact congrArg _ (Nat.eq_of_beq_eq_true h))

mutual
def SV.eqr (r : Ren) : SV → SV → Bool
  | .b e, .b f => e.eqr r f
  | .int k e, .int j f => kEq k j && e.eqr r f
  | .ptr p, .ptr q => p.eqr r q
  | .nilp, .nilp => true
  | .sl p n c, .sl q m d => p.eqr r q && (n.eqr r m && c.eqr r d)
  | .nils, .nils => true
  | .nilf, .nilf => true
  | .fn f a c, .fn g e d => fnEq f g && (SV.eqrs r a e && SV.eqrs r c d)
  | .agg a, .agg e => SV.eqrs r a e
  | .tup a, .tup e => SV.eqrs r a e
  | .opq v, .opq u => r.v v u
  | .map v, .map u => r.v v u
  | .lst v, .lst u => r.v v u
  | .yv v i, .yv u j => r.v v u && i.eqr r j
  | _, _ => false
def SV.eqrs (r : Ren) : List SV → List SV → Bool
  | [], [] => true
  | s :: l, t :: m => s.eqr r t && SV.eqrs r l m
  | _, _ => false
end
mutual
theorem SV.eqr_den {r : Ren} {ρ : Env} : ∀ a b : SV, a.eqr r b = true → b.den (r.env ρ) = a.den ρ := by
  intro a b h
  cases a <;> cases b <;> first
    | (cases h; done)
    | rfl
    | (simp only [SV.eqr] at h; simp only [SV.den, BE.eqr_den _ _ h]; done)
    | (simp only [SV.eqr, Bool.and_eq_true] at h; have := kEq_eq h.1; subst this; simp only [SV.den, IE.eqr_den _ _ h.2]; done)
    | (simp only [SV.eqr] at h; simp only [SV.den, PT.eqr_addr h]; done)
    | (simp only [SV.eqr, Bool.and_eq_true] at h; simp only [SV.den, PT.eqr_addr h.1, IE.eqr_den _ _ h.2.1, IE.eqr_den _ _ h.2.2]; done)
    | (simp only [SV.eqr, Bool.and_eq_true] at h; have := fnEq_eq h.1; subst this; simp only [SV.den, SV.eqrs_den _ _ h.2.1, SV.eqrs_den _ _ h.2.2]; done)
    | (simp only [SV.eqr] at h; simp only [SV.den, SV.eqrs_den _ _ h]; done)
    | (simp only [SV.eqr] at h; simp only [SV.den, Ren.env, Ren.v_back h]; done)
    | (simp only [SV.eqr, Bool.and_eq_true] at h; simp only [SV.den, IE.eqr_den _ _ h.2]; simp only [Ren.env, Ren.v_back h.1]; done)
theorem SV.eqrs_den {r : Ren} {ρ : Env} : ∀ a b : List SV, SV.eqrs r a b = true → SV.dens (r.env ρ) b = SV.dens ρ a := by
  intro a b h
  cases a <;> cases b <;> first
    | (cases h; done)
    | rfl
    | (simp only [SV.eqrs, Bool.and_eq_true] at h; simp only [SV.dens, SV.eqr_den _ _ h.1, SV.eqrs_den _ _ h.2]; done)
end

def CK.eqr (r : Ren) : CK → CK → Bool
  | .int a, .int b => kEq a b
  | .bool, .bool => true
  | .ptr a, .ptr b => r.v a b
  | .val a, .val b => r.v a b
  | _, _ => false
def CK.eqrs (r : Ren) : List CK → List CK → Bool
  | [], [] => true
  | s :: l, t :: m => s.eqr r t && CK.eqrs r l m
  | _, _ => false
theorem CK.eqr_v {r : Ren} {ρ : Env} {a b : CK} (h : a.eqr r b = true) (i : Nat) (n : Int) : b.v (r.env ρ) i n = a.v ρ i n := by
  cases a <;> cases b <;> first
    | (cases h; done)
    | rfl
    | (simp only [CK.eqr] at h; rw [kEq_eq h]; rfl)
    | (simp only [CK.eqr] at h; simp only [CK.v, Ren.env, Ren.v_back h]; done)
theorem CK.eqrs_get {r : Ren} : ∀ {l m : List CK}, CK.eqrs r l m = true → l.length = m.length ∧ ∀ (j : Nat) (b : CK), m[j]? = some b → ∃ a, l[j]? = some a ∧ a.eqr r b = true
  | [], [], _ => ⟨rfl, fun j b h => by simp at h⟩
  | [], _ :: _, h => by cases h
  | _ :: _, [], h => by cases h
  | s :: l, t :: m, h => by
    simp only [CK.eqrs, Bool.and_eq_true] at h
    obtain ⟨h1, h2⟩ := CK.eqrs_get h.2
    refine ⟨by simp [h1], fun j b hb => ?_⟩
    cases j with
    | zero => obtain rfl := Option.some.inj hb; exact ⟨s, rfl, h.1⟩
    | succ j => exact h2 j b (by simpa using hb)

def Row.eqr (r : Ren) : Row → Row → Bool
  | .cells e l, .cells f m => Nat.beq e f && SV.eqrs r l m
  | .lst e ks n le, .lst f js m me => Nat.beq e f && (CK.eqrs r ks js && (n.eqr r m && le.eqr r me))
  | .fam e ks n le, .fam f js m me => Nat.beq e f && (CK.eqrs r ks js && (n.eqr r m && le.eqr r me))
  | .any e z, .any f y => Nat.beq e f && Nat.beq z y
  | _, _ => false
theorem Row.eqr_owns {r : Ren} {ρ : Env} {a b : Row} (h : a.eqr r b = true) {v u : Nat} (hv : r.v v u = true) (c : Nat) : b.owns (r.env ρ) u c ↔ a.owns ρ v c := by
  have hb := Ren.v_back hv
  cases a <;> cases b <;> first
    | (cases h; done)
    | (simp only [Row.owns, Ren.env, hb]; done)
    | skip
  simp only [Row.eqr, Bool.and_eq_true] at h
  simp only [Row.owns, IE.eqr_den _ _ h.2.2.1]
  simp only [Ren.env, hb]
theorem Row.eqr_holds {r : Ren} {ρ : Env} {w : World} {a b : Row} (h : a.eqr r b = true) {v u : Nat} (hv : r.v v u = true) (hh : a.holds ρ v w) : b.holds (r.env ρ) u w := by
  have hb := Ren.v_back hv
  cases a <;> cases b <;> first | (cases h; done) | skip
  · simp only [Row.eqr, Bool.and_eq_true] at h
    have := Nat.eq_of_beq_eq_true h.1; subst this
    simp only [Row.holds, ← SV.dens_eq, SV.eqrs_den _ _ h.2] at hh ⊢
    simp only [Ren.env, hb]; exact hh
  · simp only [Row.eqr, Bool.and_eq_true] at h
    have := Nat.eq_of_beq_eq_true h.1; subst this
    obtain ⟨hlen, hget⟩ := CK.eqrs_get h.2.1
    simp only [Row.holds, IE.eqr_den _ _ h.2.2.1, LE.eqr_den _ _ h.2.2.2] at hh ⊢
    refine ⟨fun hf => ?_, fun ht => ?_⟩
    · simp only [Ren.env, hb] at hf ⊢; exact hh.1 hf
    · simp only [Ren.env, hb] at ht
      obtain ⟨cs, c, h1, h2, h3, h4, h5⟩ := hh.2 ht
      refine ⟨cs, c, ?_, ?_, ?_, h4, fun i hi j k hk => ?_⟩
      · simp only [Ren.env, hb]; exact h1
      · simp only [Ren.env, hb]; exact h2
      · simp only [Ren.env, hb]; rw [← hlen]; exact h3
      · obtain ⟨k', hk', he⟩ := hget j k hk
        rw [CK.eqr_v he, ← h5 i hi j k' hk', hlen]
        simp only [Ren.env, hb]
  · simp only [Row.eqr, Bool.and_eq_true] at h
    have := Nat.eq_of_beq_eq_true h.1; subst this
    obtain ⟨hlen, hget⟩ := CK.eqrs_get h.2.1
    simp only [Row.holds, IE.eqr_den _ _ h.2.2.1, LE.eqr_den _ _ h.2.2.2] at hh ⊢
    refine ⟨fun i hi => ?_, fun i j hi hj he => ?_⟩
    · obtain ⟨cs, h1, h2, h3⟩ := hh.1 i hi
      refine ⟨cs, by simp only [Ren.env, hb]; exact h1, by rw [← hlen]; exact h2, fun j k hk => ?_⟩
      obtain ⟨k', hk', he⟩ := hget j k hk
      rw [CK.eqr_v he]; exact h3 j k' hk'
    · simp only [Ren.env, hb] at he; exact hh.2 i j hi hj he
  · simp only [Row.eqr, Bool.and_eq_true] at h
    have := Nat.eq_of_beq_eq_true h.1; subst this
    have := Nat.eq_of_beq_eq_true h.2; subst this
    simp only [Row.holds, Ren.env, hb] at hh ⊢; exact hh

/-- All that the one state tells the other tells, too. -/
def eqrEnt (r : Ren) : Ent → Ent → Bool
  | .reg c s, .reg d t => c.eqr r d && s.eqr r t
  | .row o a, .row p b => (o == p) && a.eqr r b
  | _, _ => false
/-- Slots have their own names; blocks' names are variables: those of the first state, in the order of the second. -/
def keyBack (r : Ren) : Key → Key
  | .r t => .r t
  | .h id => .h (r.back id)
def keyFits (r : Ren) : Key → Bool
  | .r _ => true
  | .h id => r.v (r.back id) id
def subLog (r : Ren) (from_ : Log) (whole : Log) : Log → Bool
  | [] => true
  | (k, _) :: l => (match look k whole with
      | some .gone => true
      | some e => keyFits r k && (match look (keyBack r k) from_ with
        | some e' => eqrEnt r e' e
        | none => false)
      | none => true) && subLog r from_ whole l
theorem subLog_get {r : Ren} {f whole : Log} : ∀ {l : Log}, subLog r f whole l = true → ∀ k, hasK k l = true → ∀ e, look k whole = some e → (e = .gone) ∨ (keyFits r k = true ∧ ∃ e', look (keyBack r k) f = some e' ∧ eqrEnt r e' e = true)
  | [], _, k, h, e, _ => by cases h
  | (j, x) :: l, h, k, hk, e, he => by
    simp only [subLog, Bool.and_eq_true] at h
    simp only [hasK, Bool.or_eq_true] at hk
    rcases hk with hk | hk
    · have := Key.eq_iff.1 hk
      subst this
      have h1 := h.1
      rw [he] at h1
      cases e with
      | gone => exact .inl rfl
      | reg c s =>
        refine .inr ?_
        simp only [Bool.and_eq_true] at h1
        refine ⟨h1.1, ?_⟩
        have h2 := h1.2
        split at h2
        · rename_i e' he'; exact ⟨e', he', h2⟩
        · cases h2
      | row o y =>
        refine .inr ?_
        simp only [Bool.and_eq_true] at h1
        refine ⟨h1.1, ?_⟩
        have h2 := h1.2
        split at h2
        · rename_i e' he'; exact ⟨e', he', h2⟩
        · cases h2
    · exact subLog_get h.2 k hk e he

theorem subLog_rd {r : Ren} {nt : Nat} {ρ : Env} {A B : Log} {a : Act} (h : subLog r A B B = true) (ha : RD nt ρ A a) : RD nt (r.env ρ) B a := by
  refine ⟨ha.defers, ha.size, fun t c s hl => ?_⟩
  rcases subLog_get h (.r t) (look_has hl) _ hl with g | ⟨_, e', h1, h2⟩
  · cases g
  · cases e' with
    | reg d u =>
      simp only [eqrEnt, Bool.and_eq_true] at h2
      rw [ha.regs t d u h1, BE.eqr_den _ _ h2.1, SV.eqr_den _ _ h2.2]
    | row o y => cases h2
    | gone => cases h2
theorem subLog_hd {r : Ren} {C : Ctx} {ρ : Env} {A B : Log} {w : World} (h : subLog r A B B = true) (ha : HD C ρ A w) : HD C (r.env ρ) B w := by
  have key : ∀ id o x, look (.h id) B = some (.row o x) → r.v (r.back id) id = true ∧ ∃ y, look (.h (r.back id)) A = some (.row o y) ∧ y.eqr r x = true := by
    intro id o x hl
    rcases subLog_get h (.h id) (look_has hl) _ hl with g | ⟨h0, e', h1, h2⟩
    · cases g
    · cases e' with
      | reg d u => cases h2
      | row p y =>
        simp only [eqrEnt, Bool.and_eq_true, beq_iff_eq] at h2
        obtain ⟨rfl, h2⟩ := h2
        exact ⟨h0, y, h1, h2⟩
      | gone => cases h2
  refine ⟨fun id o x hl => ?_, fun id x hl b hb => ?_, fun id x hl b hb => ?_, fun i j x y hij hi hj b hb1 hb2 => ?_, ha.fr⟩
  · obtain ⟨hv, y, hy, he⟩ := key id o x hl
    exact Row.eqr_holds he hv (ha.rows _ _ _ hy)
  · obtain ⟨hv, y, hy, he⟩ := key id true x hl
    exact ha.own _ _ hy b ((Row.eqr_owns he hv b).1 hb)
  · obtain ⟨hv, y, hy, he⟩ := key id false x hl
    exact ha.ro _ _ hy b ((Row.eqr_owns he hv b).1 hb)
  · obtain ⟨hv1, y1, hy1, he1⟩ := key i true x hi
    obtain ⟨hv2, y2, hy2, he2⟩ := key j true y hj
    have hne : r.back i ≠ r.back j := by
      intro e
      rw [e] at hv1
      -- the same variable cannot be two
      have h1 := hv1; have h2 := hv2
      unfold Ren.v at h1 h2
      cases hc : (Nat.ble r.m (r.back j) && Nat.blt (r.back j) (r.m + r.d))
      · rw [hc] at h1 h2
        simp only [cond_false, Bool.and_eq_true] at h1 h2
        exact hij ((Nat.eq_of_beq_eq_true h1.1).symm.trans (Nat.eq_of_beq_eq_true h2.1))
      · rw [hc] at h1 h2
        simp only [cond_true] at h1 h2
        exact hij ((Nat.eq_of_beq_eq_true h1).trans (Nat.eq_of_beq_eq_true h2).symm)
    exact ha.sep _ _ _ _ hne hy1 hy2 b ((Row.eqr_owns he1 hv1 b).1 hb1) ((Row.eqr_owns he2 hv2 b).1 hb2)
end Go.Proofs.Ytcegefhjgkoknaa.E
