/- The engine, part 2: values, rows of memory, states, and what they say of a frame's slots and of a world. -/
import Derived.Test.YtcegefhjgkoknaaE1
namespace Go.Proofs.Ytcegefhjgkoknaa.E
open Go.RowKit
set_option linter.unusedVariables false
set_option linter.unusedSimpArgs false

/-- A place: in a block, in a row of records of a block, in a block of a family. -/
inductive PT where
  | at (id o : Nat)
  | ax (id o : Nat) (i : IE) (esz : Nat)
  | fm (fam : Nat) (i : IE) (o : Nat)
  | el (id : Nat) (i : IE) (z o : Nat)

def PT.addr (ρ : Env) : PT → Addr
  | .at id o => ⟨ρ.k id, o, none⟩
  | .ax id o i esz => ⟨ρ.k id, o + (i.den ρ).toNat * esz, none⟩
  | .fm fam i o => ⟨ρ.f fam (i.den ρ).toNat, o, none⟩
  | .el id i z o => ⟨ρ.k id, (ρ.i id).toNat + (i.den ρ).toNat * z + o, none⟩

def PT.avo (lo hi : Nat) : PT → Bool
  | .at id _ => off lo hi id
  | .ax id _ i _ => off lo hi id && i.avo lo hi
  | .fm id i _ => off lo hi id && i.avo lo hi
  | .el id i _ _ => off lo hi id && i.avo lo hi

theorem PT.addr_agr {lo hi : Nat} {ρ σ : Env} (h : Agr lo hi ρ σ) : ∀ p : PT, p.avo lo hi = true → p.addr σ = p.addr ρ
  | .at id o, g => by simp only [PT.avo] at g; simp only [PT.addr, h.k _ (off_iff g)]
  | .ax id o i e, g => by simp only [PT.avo, Bool.and_eq_true] at g; simp only [PT.addr, h.k _ (off_iff g.1), IE.den_agr h i g.2]
  | .fm id i o, g => by simp only [PT.avo, Bool.and_eq_true] at g; simp only [PT.addr, h.f _ (off_iff g.1), IE.den_agr h i g.2]
  | .el id i z o, g => by simp only [PT.avo, Bool.and_eq_true] at g; simp only [PT.addr, h.k _ (off_iff g.1), h.i _ (off_iff g.1), IE.den_agr h i g.2]

def PT.eq : PT → PT → Bool
  | .at a b, .at c d => Nat.beq a c && Nat.beq b d
  | .ax a b i e, .ax c d j f => Nat.beq a c && (Nat.beq b d && (i.eq j && Nat.beq e f))
  | .fm a i b, .fm c j d => Nat.beq a c && (i.eq j && Nat.beq b d)
  | .el a i b c, .el d j e f => Nat.beq a d && (i.eq j && (Nat.beq b e && Nat.beq c f))
  | _, _ => false
theorem PT.eq_eq {a b : PT} (h : a.eq b = true) : a = b := by
  cases a <;> cases b <;> first
    | (cases h; done)
    | (simp only [PT.eq, Bool.and_eq_true] at h; rw [Nat.eq_of_beq_eq_true h.1, Nat.eq_of_beq_eq_true h.2]; done)
    | (simp only [PT.eq, Bool.and_eq_true] at h; rw [Nat.eq_of_beq_eq_true h.1, Nat.eq_of_beq_eq_true h.2.1, IE.eq_eq _ _ h.2.2.1, Nat.eq_of_beq_eq_true h.2.2.2]; done)
    | (simp only [PT.eq, Bool.and_eq_true] at h; rw [Nat.eq_of_beq_eq_true h.1, IE.eq_eq _ _ h.2.1, Nat.eq_of_beq_eq_true h.2.2]; done)
    | (simp only [PT.eq, Bool.and_eq_true] at h; rw [Nat.eq_of_beq_eq_true h.1, IE.eq_eq _ _ h.2.1, Nat.eq_of_beq_eq_true h.2.2.1, Nat.eq_of_beq_eq_true h.2.2.2]; done)

inductive SV where
  | b (e : BE)
  | int (k : IntKind) (e : IE)
  | ptr (p : PT)
  | nilp
  | sl (p : PT) (len cap : IE)
  | nils
  | nilf
  | fn (f : Fn) (first cap : List SV)
  | agg (l : List SV)
  | tup (l : List SV)
  | con (v : Value)
  | opq (v : Nat)
  | map (id : Nat)
  | lst (id : Nat)
  | yv (fa : Nat) (i : IE)

mutual
def SV.den (ρ : Env) : SV → Value
  | .b e => .bool (e.den ρ)
  | .int k e => .int k (e.den ρ)
  | .ptr p => .pointer (some (p.addr ρ))
  | .nilp => .pointer none
  | .sl p n c => .slice (some (p.addr ρ)) (n.den ρ).toNat (c.den ρ).toNat
  | .nils => .slice none 0 0
  | .nilf => .nilFunc
  | .fn f a c => .func f (SV.dens ρ a).toArray (SV.dens ρ c).toArray
  | .agg l => .agg (SV.dens ρ l).toArray
  | .tup l => .tuple (SV.dens ρ l).toArray
  | .con v => v
  | .opq v => ρ.x v
  | .map id => .map (some (ρ.k id))
  | .lst id => ρ.x id
  | .yv fa i => ρ.y fa (i.den ρ).toNat
def SV.dens (ρ : Env) : List SV → List Value
  | [] => []
  | s :: r => s.den ρ :: SV.dens ρ r
end
theorem SV.dens_eq (ρ : Env) : ∀ l : List SV, SV.dens ρ l = l.map (SV.den ρ)
  | [] => rfl
  | s :: r => by simp only [SV.dens, List.map_cons, SV.dens_eq ρ r]

mutual
def SV.avo (lo hi : Nat) : SV → Bool
  | .b e => e.avo lo hi
  | .int _ e => e.avo lo hi
  | .ptr p => p.avo lo hi
  | .sl p n c => p.avo lo hi && (n.avo lo hi && c.avo lo hi)
  | .nilp | .nils | .nilf | .con _ => true
  | .fn _ a c => SV.avos lo hi a && SV.avos lo hi c
  | .agg l | .tup l => SV.avos lo hi l
  | .opq v => off lo hi v
  | .map v => off lo hi v
  | .lst v => off lo hi v
  | .yv v i => off lo hi v && i.avo lo hi
def SV.avos (lo hi : Nat) : List SV → Bool
  | [] => true
  | s :: r => s.avo lo hi && SV.avos lo hi r
end

mutual
theorem SV.den_agr {lo hi : Nat} {ρ σ : Env} (h : Agr lo hi ρ σ) : ∀ s : SV, s.avo lo hi = true → s.den σ = s.den ρ
  | .b e, g => by simp only [SV.avo] at g; simp only [SV.den, BE.den_agr h e g]
  | .int _ e, g => by simp only [SV.avo] at g; simp only [SV.den, IE.den_agr h e g]
  | .ptr p, g => by simp only [SV.avo] at g; simp only [SV.den, PT.addr_agr h p g]
  | .sl p n c, g => by simp only [SV.avo, Bool.and_eq_true] at g; simp only [SV.den, PT.addr_agr h p g.1, IE.den_agr h n g.2.1, IE.den_agr h c g.2.2]
  | .nilp, _ => rfl
  | .nils, _ => rfl
  | .nilf, _ => rfl
  | .con _, _ => rfl
  | .fn _ a c, g => by simp only [SV.avo, Bool.and_eq_true] at g; simp only [SV.den, SV.dens_agr h a g.1, SV.dens_agr h c g.2]
  | .agg l, g => by simp only [SV.avo] at g; simp only [SV.den, SV.dens_agr h l g]
  | .tup l, g => by simp only [SV.avo] at g; simp only [SV.den, SV.dens_agr h l g]
  | .opq v, g => by simp only [SV.avo] at g; simp only [SV.den, h.x _ (off_iff g)]
  | .map v, g => by simp only [SV.avo] at g; simp only [SV.den, h.k _ (off_iff g)]
  | .lst v, g => by simp only [SV.avo] at g; simp only [SV.den, h.x _ (off_iff g)]
  | .yv v i, g => by simp only [SV.avo, Bool.and_eq_true] at g; simp only [SV.den, h.y _ (off_iff g.1), IE.den_agr h i g.2]
theorem SV.dens_agr {lo hi : Nat} {ρ σ : Env} (h : Agr lo hi ρ σ) : ∀ l : List SV, SV.avos lo hi l = true → SV.dens σ l = SV.dens ρ l
  | [], _ => rfl
  | s :: r, g => by simp only [SV.avos, Bool.and_eq_true] at g; simp only [SV.dens, SV.den_agr h s g.1, SV.dens_agr h r g.2]
end

/-- Kinds of cells in rows of records: a number, a truth (as 0, or another number), a pointer to a block of a family, a value of no known form. -/
inductive CK where
  | int (k : IntKind)
  | bool
  | ptr (fa : Nat)
  | val (fa : Nat)
def CK.v (c : CK) (ρ : Env) (i : Nat) (n : Int) : Value :=
  match c with
  | .int k => .int k n
  | .bool => .bool (n != 0)
  | .ptr fa => .pointer (some ⟨ρ.f fa i, 0, none⟩)
  | .val fa => ρ.y fa i
def CK.avo (lo hi : Nat) : CK → Bool
  | .ptr fa => off lo hi fa
  | .val fa => off lo hi fa
  | _ => true
theorem CK.v_agr {lo hi : Nat} {ρ σ : Env} (h : Agr lo hi ρ σ) {c : CK} (g : c.avo lo hi = true) (i : Nat) (n : Int) : c.v σ i n = c.v ρ i n := by
  cases c <;> first | rfl | (simp only [CK.avo] at g; simp only [CK.v, h.f _ (off_iff g)]; done) | (simp only [CK.avo] at g; simp only [CK.v, h.y _ (off_iff g)]; done)

/-- What is known of a block (or of a family of blocks). 'lst': of a slice, the value ρ.x id: nil, or empty without room, or (ρ.b id) a row of n records in a block. -/
inductive Row where
  | cells (elem : TypeId) (l : List SV)
  | lst (elem : TypeId) (ks : List CK) (n : IE) (le : LE)
  | fam (elem : TypeId) (ks : List CK) (n : IE) (le : LE)
  | any (elem : TypeId) (size : Nat)

def Row.avo (lo hi : Nat) : Row → Bool
  | .cells _ l => SV.avos lo hi l
  | .lst _ ks n le => n.avo lo hi && (le.avo lo hi && ks.all (CK.avo lo hi))
  | .fam _ ks n le => n.avo lo hi && (le.avo lo hi && ks.all (CK.avo lo hi))
  | .any _ _ => true

/-- The blocks that a row speaks of. -/
def Row.owns (ρ : Env) (id : Nat) : Row → Nat → Prop
  | .fam _ _ n _, b => ∃ i, i < (n.den ρ).toNat ∧ b = ρ.f id i
  | .lst _ _ _ _, b => ρ.b id = true ∧ b = ρ.k id
  | _, b => b = ρ.k id

/-- A slice value that has nothing in it, nor room for it. -/
def bare (v : Value) : Prop := v = .slice none 0 0 ∨ ∃ a, v = .slice (some a) 0 0
/-- A block's cells; of a given slice (elem 0), of no known layout. -/
def lay (e : TypeId) (w : World) (b : Nat) (cs : Array Value) : Prop := w.heap[b]? = some (.cells cs e (0, 0)) ∨ (e = 0 ∧ ∃ f z, w.heap[b]? = some (.cells cs f z))
theorem lay.get {e : TypeId} {w : World} {b : Nat} {cs : Array Value} (h : lay e w b cs) (he : Nat.beq e 0 = false) : w.heap[b]? = some (.cells cs e (0, 0)) := by
  rcases h with h | ⟨h, _⟩
  · exact h
  · subst h; cases he
theorem lay.same {e : TypeId} {w w' : World} {b : Nat} {cs : Array Value} (h : lay e w b cs) (hs : w'.heap[b]? = w.heap[b]?) : lay e w' b cs := by
  unfold lay at *; rw [hs]; exact h
theorem lay.some {e : TypeId} {w : World} {b : Nat} {cs : Array Value} (h : lay e w b cs) : ∃ o, w.heap[b]? = Option.some o := by
  rcases h with h | ⟨_, f, z, h⟩ <;> exact ⟨_, h⟩
theorem lay.cell {e : TypeId} {w : World} {b o : Nat} {cs : Array Value} (h : lay e w b cs) : w.cell? ⟨b, o, none⟩ = cs[o]? := by
  rcases h with h | ⟨_, f, z, h⟩ <;> simp only [World.cell?, h, Option.isSome_none, Bool.false_eq_true, if_false]

def Row.holds (ρ : Env) (id : Nat) (w : World) : Row → Prop
  | .cells e l => w.heap[ρ.k id]? = some (.cells (l.map (SV.den ρ)).toArray e (0, 0))
  | .lst e ks n le => (ρ.b id = false → (n.den ρ).toNat = 0 ∧ (bare (ρ.x id) ∨ (e = 0 ∧ ∃ a c, ρ.x id = .slice a 0 c))) ∧ (ρ.b id = true → ∃ (cs : Array Value) (c : Nat), ρ.x id = .slice (some ⟨ρ.k id, (ρ.i id).toNat, none⟩) (n.den ρ).toNat c ∧
      lay e w (ρ.k id) cs ∧ (e = 0 ∨ (ρ.i id).toNat + c * ks.length ≤ cs.size) ∧ (n.den ρ).toNat ≤ c ∧
      ∀ i, i < (n.den ρ).toNat → ∀ (j : Nat) (k : CK), ks[j]? = some k → cs[(ρ.i id).toNat + i * ks.length + j]? = some (k.v ρ i (le.den ρ i j)))
  | .fam e ks n le => (∀ i, i < (n.den ρ).toNat → ∃ cs : Array Value, w.heap[ρ.f id i]? = some (.cells cs e (0, 0)) ∧ cs.size = ks.length ∧ ∀ (j : Nat) (k : CK), ks[j]? = some k → cs[j]? = some (k.v ρ i (le.den ρ i j))) ∧
      ∀ i j, i < (n.den ρ).toNat → j < (n.den ρ).toNat → ρ.f id i = ρ.f id j → i = j
  | .any e z => ∃ cs : Array Value, w.heap[ρ.k id]? = some (.cells cs e (0, 0)) ∧ cs.size = z

theorem Row.owns_agr {lo hi : Nat} {ρ σ : Env} (h : Agr lo hi ρ σ) {id : Nat} (hid : off lo hi id = true) {r : Row} (g : r.avo lo hi = true) (b : Nat) : r.owns σ id b ↔ r.owns ρ id b := by
  cases r <;> simp only [Row.owns, h.k _ (off_iff hid), h.b _ (off_iff hid)]
  rename_i e ks n le
  simp only [Row.avo, Bool.and_eq_true] at g
  simp only [IE.den_agr h n g.1, h.f _ (off_iff hid)]

theorem Row.holds_agr {lo hi : Nat} {ρ σ : Env} (h : Agr lo hi ρ σ) {id : Nat} (hid : off lo hi id = true) {r : Row} (g : r.avo lo hi = true) {w : World} (hh : r.holds ρ id w) : r.holds σ id w := by
  cases r with
  | cells e l =>
    simp only [Row.avo] at g
    simp only [Row.holds, h.k _ (off_iff hid), ← SV.dens_eq, SV.dens_agr h l g] at hh ⊢
    exact hh
  | lst e ks n le =>
    simp only [Row.avo, Bool.and_eq_true, List.all_eq_true] at g
    simp only [Row.holds, h.k _ (off_iff hid), h.b _ (off_iff hid), h.x _ (off_iff hid), h.i _ (off_iff hid), IE.den_agr h n g.1, LE.den_agr h le g.2.1] at hh ⊢
    refine ⟨hh.1, fun hb => ?_⟩
    obtain ⟨cs, c, h1, h2, h3, h4, h5⟩ := hh.2 hb
    exact ⟨cs, c, h1, h2, h3, h4, fun i hi j k hk => by rw [CK.v_agr h (g.2.2 k (List.mem_of_getElem? hk))]; exact h5 i hi j k hk⟩
  | fam e ks n le =>
    simp only [Row.avo, Bool.and_eq_true, List.all_eq_true] at g
    simp only [Row.holds, IE.den_agr h n g.1, LE.den_agr h le g.2.1, h.f _ (off_iff hid)] at hh ⊢
    refine ⟨fun i hi => ?_, hh.2⟩
    obtain ⟨cs, h1, h2, h3⟩ := hh.1 i hi
    exact ⟨cs, h1, h2, fun j k hk => by rw [CK.v_agr h (g.2.2 k (List.mem_of_getElem? hk))]; exact h3 j k hk⟩
  | any e z =>
    simp only [Row.holds, h.k _ (off_iff hid)] at hh ⊢
    exact hh

/-- A row holds as long as its blocks are as they were. -/
theorem Row.holds_same {ρ : Env} {id : Nat} {r : Row} {w w' : World} (h : r.holds ρ id w) (hs : ∀ b, r.owns ρ id b → w'.heap[b]? = w.heap[b]?) : r.holds ρ id w' := by
  cases r with
  | cells e l => simp only [Row.holds, Row.owns] at *; rw [hs _ rfl]; exact h
  | lst e ks n le =>
    simp only [Row.holds, Row.owns] at *
    refine ⟨h.1, fun hb => ?_⟩
    obtain ⟨cs, c, h1, h2, h3⟩ := h.2 hb
    exact ⟨cs, c, h1, h2.same (hs _ ⟨hb, rfl⟩), h3⟩
  | any e z => simp only [Row.holds, Row.owns] at *; rw [hs _ rfl]; exact h
  | fam e ks n le =>
    simp only [Row.holds, Row.owns] at *
    refine ⟨fun i hi => ?_, h.2⟩
    obtain ⟨cs, hc, hz⟩ := h.1 i hi
    exact ⟨cs, by rw [hs _ ⟨i, hi, rfl⟩]; exact hc, hz⟩

theorem lt_of_some {w : World} {b : Nat} {o : Obj} (h : w.heap[b]? = some o) : b < w.heap.size := by
  rcases Nat.lt_or_ge b w.heap.size with h' | h'
  · exact h'
  · simp [Array.getElem?_eq_none h'] at h

theorem Row.holds_lt {ρ : Env} {id : Nat} {r : Row} {w : World} (h : r.holds ρ id w) {b : Nat} (hb : r.owns ρ id b) : b < w.heap.size := by
  cases r with
  | cells e l => simp only [Row.holds, Row.owns] at *; rw [hb]; exact lt_of_some h
  | lst e ks n le => simp only [Row.holds, Row.owns] at *; obtain ⟨cs, c, _, h, _⟩ := h.2 hb.1; rw [hb.2]; obtain ⟨o, h⟩ := h.some; exact lt_of_some h
  | any e z => simp only [Row.holds, Row.owns] at *; obtain ⟨cs, h, _⟩ := h; rw [hb]; exact lt_of_some h
  | fam e ks n le =>
    simp only [Row.holds, Row.owns] at *
    obtain ⟨i, hi, rfl⟩ := hb
    obtain ⟨cs, hc, _⟩ := h.1 i hi
    exact lt_of_some hc

/-! states -/
inductive Key where
  | r (t : Nat)
  | h (id : Nat)
def Key.eq : Key → Key → Bool
  | .r a, .r b => Nat.beq a b
  | .h a, .h b => Nat.beq a b
  | _, _ => false
theorem Key.eq_iff {a b : Key} : a.eq b = true ↔ a = b := by
  cases a <;> cases b <;> simp [Key.eq, Nat.beq_eq]

instance : DecidableEq Key := fun a b => decidable_of_iff _ Key.eq_iff

inductive Ent where
  | reg (c : BE) (s : SV)
  | row (own : Bool) (r : Row)
  | gone

def Ent.avo (lo hi : Nat) : Ent → Bool
  | .reg c s => c.avo lo hi && s.avo lo hi
  | .row _ r => r.avo lo hi
  | .gone => true
def Key.avo (lo hi : Nat) : Key → Bool
  | .r _ => true
  | .h id => off lo hi id

abbrev Log := List (Key × Ent)
def look (k : Key) : Log → Option Ent
  | [] => none
  | (j, e) :: r => bif j.eq k then some e else look k r

theorem look_cons (k j : Key) (e : Ent) (L : Log) : look k ((j, e) :: L) = if j = k then some e else look k L := by
  simp only [look]
  by_cases h : j = k
  · rw [if_pos h, Key.eq_iff.2 h]; rfl
  · rw [if_neg h]
    have : j.eq k = false := by
      cases hh : j.eq k with
      | false => rfl
      | true => exact absurd (Key.eq_iff.1 hh) h
    rw [this]; rfl
theorem look_same (k : Key) (e : Ent) (L : Log) : look k ((k, e) :: L) = some e := by rw [look_cons, if_pos rfl]
theorem look_other {k j : Key} (h : j ≠ k) (e : Ent) (L : Log) : look k ((j, e) :: L) = look k L := by rw [look_cons, if_neg h]

/-- Where a call began, and what must stay as it was there. -/
structure Ctx where
  w0 : World
  keep : Nat → Prop

structure Fr (C : Ctx) (w : World) : Prop where
  os : w.os = C.w0.os
  tape : w.tape = C.w0.tape
  output : w.output = C.w0.output
  size : C.w0.heap.size ≤ w.heap.size
  keep : ∀ b, C.keep b → b < C.w0.heap.size ∧ w.heap[b]? = C.w0.heap[b]?

structure HD (C : Ctx) (ρ : Env) (L : Log) (w : World) : Prop where
  rows : ∀ id o r, look (.h id) L = some (.row o r) → r.holds ρ id w
  own : ∀ id r, look (.h id) L = some (.row true r) → ∀ b, r.owns ρ id b → ¬ C.keep b
  ro : ∀ id r, look (.h id) L = some (.row false r) → ∀ b, r.owns ρ id b → C.keep b
  sep : ∀ i j r s, i ≠ j → look (.h i) L = some (.row true r) → look (.h j) L = some (.row true s) → ∀ b, r.owns ρ i b → ¬ s.owns ρ j b
  fr : Fr C w

structure RD (nt : Nat) (ρ : Env) (L : Log) (a : Act) : Prop where
  defers : a.defers = []
  size : a.tmps.size = nt
  regs : ∀ t c s, look (.r t) L = some (.reg c s) → a.tmps[t]? = some (if c.den ρ then s.den ρ else undef)

/-- All entries speak of no variable of the range. -/
def Log.avo (lo hi : Nat) : Log → Bool
  | [] => true
  | (k, e) :: r => (k.avo lo hi && e.avo lo hi) && Log.avo lo hi r

theorem Log.avo_look {lo hi : Nat} {k : Key} {e : Ent} : ∀ {L : Log}, Log.avo lo hi L = true → look k L = some e → k.avo lo hi = true ∧ e.avo lo hi = true
  | [], _, h => by simp [look] at h
  | (j, f) :: r, g, h => by
    simp only [Log.avo, Bool.and_eq_true] at g
    rw [look_cons] at h
    by_cases hj : j = k
    · rw [if_pos hj] at h; obtain rfl := Option.some.inj h; subst hj; exact g.1
    · rw [if_neg hj] at h; exact Log.avo_look g.2 h

theorem RD.agr {nt lo hi : Nat} {ρ σ : Env} {L : Log} {a : Act} (h : RD nt ρ L a) (g : Agr lo hi ρ σ) (hL : Log.avo lo hi L = true) : RD nt σ L a := by
  refine ⟨h.defers, h.size, fun t c s hl => ?_⟩
  have hk := Log.avo_look hL hl
  simp only [Ent.avo, Bool.and_eq_true] at hk
  rw [h.regs t c s hl, BE.den_agr g c hk.2.1, SV.den_agr g s hk.2.2]

theorem HD.agr {C : Ctx} {lo hi : Nat} {ρ σ : Env} {L : Log} {w : World} (h : HD C ρ L w) (g : Agr lo hi ρ σ) (hL : Log.avo lo hi L = true) : HD C σ L w := by
  have hk : ∀ {id o r}, look (.h id) L = some (.row o r) → off lo hi id = true ∧ r.avo lo hi = true := fun hl => Log.avo_look hL hl
  refine ⟨fun id o r hl => Row.holds_agr g (hk hl).1 (hk hl).2 (h.rows id o r hl), fun id r hl b hb => ?_, fun id r hl b hb => ?_, fun i j r s hij hi hj b hb hc => ?_, h.fr⟩
  · exact h.own id r hl b ((Row.owns_agr g (hk hl).1 (hk hl).2 b).1 hb)
  · exact h.ro id r hl b ((Row.owns_agr g (hk hl).1 (hk hl).2 b).1 hb)
  · exact h.sep i j r s hij hi hj b ((Row.owns_agr g (hk hi).1 (hk hi).2 b).1 hb) ((Row.owns_agr g (hk hj).1 (hk hj).2 b).1 hc)
end Go.Proofs.Ytcegefhjgkoknaa.E
