/- The engine, part 1: expressions over an environment, what they denote, of which variables they speak. -/
import Derived.Below
import Derived.Orders
namespace Go.Proofs.Ytcegefhjgkoknaa.E
open Go.RowKit
set_option linter.unusedVariables false
set_option linter.unusedSimpArgs false

/-- What the variables stand for: numbers, truths, blocks, rows of blocks, rows of records, values of no known form. -/
structure Env where
  i : Nat → Int
  b : Nat → Bool
  k : Nat → Nat
  f : Nat → Nat → Nat
  l : Nat → Nat → Nat → Int
  x : Nat → Value
  y : Nat → Nat → Value

mutual
inductive IE where
  | lit (n : Int)
  | var (v : Nat)
  | add (a b : IE)
  | sub (a b : IE)
  | mul (a b : IE)
  | wrap (k : IntKind) (a : IE)
  | quo (a b : IE)
  | rem (a b : IE)
  | bits (op : BinOp) (k : IntKind) (a b : IE)
  | shl (k : IntKind) (a b : IE)
  | shr (k : IntKind) (a b : IE)
  | mx (a b : IE)
  | mn (a b : IE)
  | ite (c : BE) (a b : IE)
  | nat (a : IE)
  | get (l : LE) (i : IE) (c : Nat)
inductive BE where
  | lit (b : Bool)
  | var (v : Nat)
  | not (a : BE)
  | cmp (op : BinOp) (a b : IE)
  | ite (c a b : BE)
  | eqb (a b : BE)
inductive LE where
  | var (v : Nat)
  | upd (l : LE) (i : IE) (c : Nat) (e : IE)
  | ite (c : BE) (a b : LE)
end

def cmpI (op : BinOp) (x y : Int) : Bool :=
  match op with
  | .eql => x == y
  | .neq => x != y
  | .lss => decide (x < y)
  | .leq => decide (x ≤ y)
  | .gtr => decide (x > y)
  | .geq => decide (x ≥ y)
  | _ => false

def bitsI (op : BinOp) (k : IntKind) (x y : Int) : Int :=
  let a := BitVec.ofInt k.bits x
  let b := BitVec.ofInt k.bits y
  k.wrap (match op with
    | .and => (a &&& b).toNat
    | .or => (a ||| b).toNat
    | .xor => (a ^^^ b).toNat
    | _ => (a &&& ~~~b).toNat)

def shlI (k : IntKind) (x y : Int) : Int := k.wrap (x * 2 ^ (min y.toNat k.bits))
def shrI (k : IntKind) (x y : Int) : Int := x.fdiv (2 ^ (min y.toNat k.bits))
def mxI (x y : Int) : Int := if y > x then y else x
def mnI (x y : Int) : Int := if y < x then y else x

def updL (l : Nat → Nat → Int) (i : Int) (c : Nat) (v : Int) : Nat → Nat → Int :=
  fun j d => if j = i.toNat ∧ d = c then v else l j d

mutual
def IE.den (ρ : Env) : IE → Int
  | .lit n => n
  | .var v => ρ.i v
  | .add a b => a.den ρ + b.den ρ
  | .sub a b => a.den ρ - b.den ρ
  | .mul a b => a.den ρ * b.den ρ
  | .wrap k a => k.wrap (a.den ρ)
  | .quo a b => (a.den ρ).tdiv (b.den ρ)
  | .rem a b => (a.den ρ).tmod (b.den ρ)
  | .bits op k a b => bitsI op k (a.den ρ) (b.den ρ)
  | .shl k a b => shlI k (a.den ρ) (b.den ρ)
  | .shr k a b => shrI k (a.den ρ) (b.den ρ)
  | .mx a b => mxI (a.den ρ) (b.den ρ)
  | .mn a b => mnI (a.den ρ) (b.den ρ)
  | .ite c a b => if c.den ρ then a.den ρ else b.den ρ
  | .nat a => ((a.den ρ).toNat : Int)
  | .get l i c => l.den ρ (i.den ρ).toNat c
def BE.den (ρ : Env) : BE → Bool
  | .lit b => b
  | .var v => ρ.b v
  | .not a => !(a.den ρ)
  | .cmp op a b => cmpI op (a.den ρ) (b.den ρ)
  | .ite c a b => if c.den ρ then a.den ρ else b.den ρ
  | .eqb a b => a.den ρ == b.den ρ
def LE.den (ρ : Env) : LE → Nat → Nat → Int
  | .var v => ρ.l v
  | .upd l i c e => updL (l.den ρ) (i.den ρ) c (e.den ρ)
  | .ite c a b => if c.den ρ then a.den ρ else b.den ρ
end

/-- Two environments say the same of all variables but those from lo on, below hi. -/
structure Agr (lo hi : Nat) (ρ σ : Env) : Prop where
  i : ∀ v, v < lo ∨ hi ≤ v → σ.i v = ρ.i v
  b : ∀ v, v < lo ∨ hi ≤ v → σ.b v = ρ.b v
  k : ∀ v, v < lo ∨ hi ≤ v → σ.k v = ρ.k v
  f : ∀ v, v < lo ∨ hi ≤ v → σ.f v = ρ.f v
  l : ∀ v, v < lo ∨ hi ≤ v → σ.l v = ρ.l v
  x : ∀ v, v < lo ∨ hi ≤ v → σ.x v = ρ.x v
  y : ∀ v, v < lo ∨ hi ≤ v → σ.y v = ρ.y v

theorem Agr.refl (lo hi : Nat) (ρ : Env) : Agr lo hi ρ ρ := ⟨fun _ _ => rfl, fun _ _ => rfl, fun _ _ => rfl, fun _ _ => rfl, fun _ _ => rfl, fun _ _ => rfl, fun _ _ => rfl⟩
theorem Agr.trans {a b c d : Nat} {ρ σ τ : Env} (h : Agr a b ρ σ) (g : Agr c d σ τ) (hb : b ≤ d) (hc : a ≤ c) : Agr a d ρ τ := by
  constructor <;> intro v hv
  · rw [g.i v (by omega), h.i v (by omega)]
  · rw [g.b v (by omega), h.b v (by omega)]
  · rw [g.k v (by omega), h.k v (by omega)]
  · rw [g.f v (by omega), h.f v (by omega)]
  · rw [g.l v (by omega), h.l v (by omega)]
  · rw [g.x v (by omega), h.x v (by omega)]
  · rw [g.y v (by omega), h.y v (by omega)]
theorem Agr.mono {a b c d : Nat} {ρ σ : Env} (h : Agr a b ρ σ) (hc : c ≤ a) (hd : b ≤ d) : Agr c d ρ σ := by
  constructor <;> intro v hv
  · exact h.i v (by omega)
  · exact h.b v (by omega)
  · exact h.k v (by omega)
  · exact h.f v (by omega)
  · exact h.l v (by omega)
  · exact h.x v (by omega)
  · exact h.y v (by omega)

/-- A variable that lies outside of the range. -/
def off (lo hi v : Nat) : Bool := Nat.blt v lo || Nat.ble hi v
theorem off_iff {lo hi v : Nat} (h : off lo hi v = true) : v < lo ∨ hi ≤ v := by
  unfold off at h
  rcases Bool.or_eq_true_iff.1 h with h | h
  · exact .inl (Nat.le_of_ble_eq_true h)
  · exact .inr (Nat.le_of_ble_eq_true h)

mutual
def IE.avo (lo hi : Nat) : IE → Bool
  | .lit _ => true
  | .var v => off lo hi v
  | .add a b | .sub a b | .mul a b | .quo a b | .rem a b | .mx a b | .mn a b => a.avo lo hi && b.avo lo hi
  | .bits _ _ a b | .shl _ a b | .shr _ a b => a.avo lo hi && b.avo lo hi
  | .wrap _ a | .nat a => a.avo lo hi
  | .ite c a b => c.avo lo hi && (a.avo lo hi && b.avo lo hi)
  | .get l i _ => l.avo lo hi && i.avo lo hi
def BE.avo (lo hi : Nat) : BE → Bool
  | .lit _ => true
  | .var v => off lo hi v
  | .not a => a.avo lo hi
  | .cmp _ a b => a.avo lo hi && b.avo lo hi
  | .ite c a b => c.avo lo hi && (a.avo lo hi && b.avo lo hi)
  | .eqb a b => a.avo lo hi && b.avo lo hi
def LE.avo (lo hi : Nat) : LE → Bool
  | .var v => off lo hi v
  | .upd l i _ e => l.avo lo hi && (i.avo lo hi && e.avo lo hi)
  | .ite c a b => c.avo lo hi && (a.avo lo hi && b.avo lo hi)
end

mutual
theorem IE.den_agr {lo hi : Nat} {ρ σ : Env} (h : Agr lo hi ρ σ) : ∀ e : IE, e.avo lo hi = true → e.den σ = e.den ρ
  | .lit _, _ => rfl
  | .var v, g => h.i v (off_iff g)
  | .add a b, g => by simp only [IE.avo, Bool.and_eq_true] at g; simp only [IE.den, IE.den_agr h a g.1, IE.den_agr h b g.2]
  | .sub a b, g => by simp only [IE.avo, Bool.and_eq_true] at g; simp only [IE.den, IE.den_agr h a g.1, IE.den_agr h b g.2]
  | .mul a b, g => by simp only [IE.avo, Bool.and_eq_true] at g; simp only [IE.den, IE.den_agr h a g.1, IE.den_agr h b g.2]
  | .quo a b, g => by simp only [IE.avo, Bool.and_eq_true] at g; simp only [IE.den, IE.den_agr h a g.1, IE.den_agr h b g.2]
  | .rem a b, g => by simp only [IE.avo, Bool.and_eq_true] at g; simp only [IE.den, IE.den_agr h a g.1, IE.den_agr h b g.2]
  | .mx a b, g => by simp only [IE.avo, Bool.and_eq_true] at g; simp only [IE.den, IE.den_agr h a g.1, IE.den_agr h b g.2]
  | .mn a b, g => by simp only [IE.avo, Bool.and_eq_true] at g; simp only [IE.den, IE.den_agr h a g.1, IE.den_agr h b g.2]
  | .bits _ _ a b, g => by simp only [IE.avo, Bool.and_eq_true] at g; simp only [IE.den, IE.den_agr h a g.1, IE.den_agr h b g.2]
  | .shl _ a b, g => by simp only [IE.avo, Bool.and_eq_true] at g; simp only [IE.den, IE.den_agr h a g.1, IE.den_agr h b g.2]
  | .shr _ a b, g => by simp only [IE.avo, Bool.and_eq_true] at g; simp only [IE.den, IE.den_agr h a g.1, IE.den_agr h b g.2]
  | .wrap _ a, g => by simp only [IE.avo] at g; simp only [IE.den, IE.den_agr h a g]
  | .nat a, g => by simp only [IE.avo] at g; simp only [IE.den, IE.den_agr h a g]
  | .ite c a b, g => by simp only [IE.avo, Bool.and_eq_true] at g; simp only [IE.den, BE.den_agr h c g.1, IE.den_agr h a g.2.1, IE.den_agr h b g.2.2]
  | .get l i _, g => by simp only [IE.avo, Bool.and_eq_true] at g; simp only [IE.den, LE.den_agr h l g.1, IE.den_agr h i g.2]
theorem BE.den_agr {lo hi : Nat} {ρ σ : Env} (h : Agr lo hi ρ σ) : ∀ e : BE, e.avo lo hi = true → e.den σ = e.den ρ
  | .lit _, _ => rfl
  | .var v, g => h.b v (off_iff g)
  | .not a, g => by simp only [BE.avo] at g; simp only [BE.den, BE.den_agr h a g]
  | .cmp _ a b, g => by simp only [BE.avo, Bool.and_eq_true] at g; simp only [BE.den, IE.den_agr h a g.1, IE.den_agr h b g.2]
  | .ite c a b, g => by simp only [BE.avo, Bool.and_eq_true] at g; simp only [BE.den, BE.den_agr h c g.1, BE.den_agr h a g.2.1, BE.den_agr h b g.2.2]
  | .eqb a b, g => by simp only [BE.avo, Bool.and_eq_true] at g; simp only [BE.den, BE.den_agr h a g.1, BE.den_agr h b g.2]
theorem LE.den_agr {lo hi : Nat} {ρ σ : Env} (h : Agr lo hi ρ σ) : ∀ e : LE, e.avo lo hi = true → e.den σ = e.den ρ
  | .var v, g => h.l v (off_iff g)
  | .upd l i _ e, g => by simp only [LE.avo, Bool.and_eq_true] at g; simp only [LE.den, LE.den_agr h l g.1, IE.den_agr h i g.2.1, IE.den_agr h e g.2.2]
  | .ite c a b, g => by simp only [LE.avo, Bool.and_eq_true] at g; simp only [LE.den, BE.den_agr h c g.1, LE.den_agr h a g.2.1, LE.den_agr h b g.2.2]
end

/-! equality that the kernel decides -/
def opEq (a b : BinOp) : Bool :=
  match a, b with
  | .add, .add | .sub, .sub | .mul, .mul | .quo, .quo | .rem, .rem | .and, .and | .or, .or | .xor, .xor | .shl, .shl | .shr, .shr | .andNot, .andNot
  | .eql, .eql | .neq, .neq | .lss, .lss | .leq, .leq | .gtr, .gtr | .geq, .geq => true
  | _, _ => false
theorem opEq_eq {a b : BinOp} (h : opEq a b = true) : a = b := by cases a <;> cases b <;> first | rfl | cases h
def kEq (a b : IntKind) : Bool :=
  match a, b with
  | .i8, .i8 | .i16, .i16 | .i32, .i32 | .i64, .i64 | .u8, .u8 | .u16, .u16 | .u32, .u32 | .u64, .u64 => true
  | _, _ => false
theorem kEq_eq {a b : IntKind} (h : kEq a b = true) : a = b := by cases a <;> cases b <;> first | rfl | cases h
def iEq (a b : Int) : Bool :=
  match a, b with
  | .ofNat m, .ofNat n => Nat.beq m n
  | .negSucc m, .negSucc n => Nat.beq m n
  | _, _ => false
theorem iEq_eq {a b : Int} (h : iEq a b = true) : a = b := by
  cases a <;> cases b <;> first | (cases h; done) | (exact congrArg _ (Nat.eq_of_beq_eq_true h))

mutual
def IE.eq : IE → IE → Bool
  | .lit m, .lit n => iEq m n
  | .var v, .var u => Nat.beq v u
  | .add a b, .add c d | .sub a b, .sub c d | .mul a b, .mul c d | .quo a b, .quo c d | .rem a b, .rem c d | .mx a b, .mx c d | .mn a b, .mn c d => a.eq c && b.eq d
  | .wrap k a, .wrap j c => kEq k j && a.eq c
  | .bits o k a b, .bits p j c d => opEq o p && (kEq k j && (a.eq c && b.eq d))
  | .shl k a b, .shl j c d | .shr k a b, .shr j c d => kEq k j && (a.eq c && b.eq d)
  | .ite x a b, .ite y c d => x.eq y && (a.eq c && b.eq d)
  | .nat a, .nat c => a.eq c
  | .get l i c, .get m j d => Nat.beq c d && (i.eq j && l.eq m)
  | _, _ => false
def BE.eq : BE → BE → Bool
  | .lit m, .lit n => m == n
  | .var v, .var u => Nat.beq v u
  | .not a, .not b => a.eq b
  | .cmp o a b, .cmp p c d => opEq o p && (a.eq c && b.eq d)
  | .ite x a b, .ite y c d => x.eq y && (a.eq c && b.eq d)
  | .eqb a b, .eqb c d => a.eq c && b.eq d
  | _, _ => false
def LE.eq : LE → LE → Bool
  | .var v, .var u => Nat.beq v u
  | .upd l i c e, .upd m j d f => Nat.beq c d && (i.eq j && (e.eq f && l.eq m))
  | .ite x a b, .ite y c d => x.eq y && (a.eq c && b.eq d)
  | _, _ => false
end

mutual
theorem IE.eq_eq : ∀ a b : IE, a.eq b = true → a = b := by
  intro a b h
  cases a <;> cases b <;> first
    | (cases h; done)
    | (simp only [IE.eq] at h; rw [iEq_eq h]; done)
    | (simp only [IE.eq] at h; rw [Nat.eq_of_beq_eq_true h]; done)
    | (simp only [IE.eq, Bool.and_eq_true] at h; rw [IE.eq_eq _ _ h.1, IE.eq_eq _ _ h.2]; done)
    | (simp only [IE.eq, Bool.and_eq_true] at h; rw [kEq_eq h.1, IE.eq_eq _ _ h.2]; done)
    | (simp only [IE.eq, Bool.and_eq_true] at h; rw [opEq_eq h.1, kEq_eq h.2.1, IE.eq_eq _ _ h.2.2.1, IE.eq_eq _ _ h.2.2.2]; done)
    | (simp only [IE.eq, Bool.and_eq_true] at h; rw [kEq_eq h.1, IE.eq_eq _ _ h.2.1, IE.eq_eq _ _ h.2.2]; done)
    | (simp only [IE.eq, Bool.and_eq_true] at h; rw [BE.eq_eq _ _ h.1, IE.eq_eq _ _ h.2.1, IE.eq_eq _ _ h.2.2]; done)
    | (simp only [IE.eq] at h; rw [IE.eq_eq _ _ h]; done)
    | (simp only [IE.eq, Bool.and_eq_true] at h; rw [Nat.eq_of_beq_eq_true h.1, IE.eq_eq _ _ h.2.1, LE.eq_eq _ _ h.2.2]; done)
theorem BE.eq_eq : ∀ a b : BE, a.eq b = true → a = b := by
  intro a b h
  cases a <;> cases b <;> first
    | (cases h; done)
    | (simp only [BE.eq, beq_iff_eq] at h; rw [h]; done)
    | (simp only [BE.eq] at h; rw [Nat.eq_of_beq_eq_true h]; done)
    | (simp only [BE.eq] at h; rw [BE.eq_eq _ _ h]; done)
    | (simp only [BE.eq, Bool.and_eq_true] at h; rw [opEq_eq h.1, IE.eq_eq _ _ h.2.1, IE.eq_eq _ _ h.2.2]; done)
    | (simp only [BE.eq, Bool.and_eq_true] at h; rw [BE.eq_eq _ _ h.1, BE.eq_eq _ _ h.2.1, BE.eq_eq _ _ h.2.2]; done)
    | (simp only [BE.eq, Bool.and_eq_true] at h; rw [BE.eq_eq _ _ h.1, BE.eq_eq _ _ h.2]; done)
theorem LE.eq_eq : ∀ a b : LE, a.eq b = true → a = b := by
  intro a b h
  cases a <;> cases b <;> first
    | (cases h; done)
    | (simp only [LE.eq] at h; rw [Nat.eq_of_beq_eq_true h]; done)
    | (simp only [LE.eq, Bool.and_eq_true] at h; rw [Nat.eq_of_beq_eq_true h.1, IE.eq_eq _ _ h.2.1, IE.eq_eq _ _ h.2.2.1, LE.eq_eq _ _ h.2.2.2]; done)
    | (simp only [LE.eq, Bool.and_eq_true] at h; rw [BE.eq_eq _ _ h.1, LE.eq_eq _ _ h.2.1, LE.eq_eq _ _ h.2.2]; done)
end
end Go.Proofs.Ytcegefhjgkoknaa.E
