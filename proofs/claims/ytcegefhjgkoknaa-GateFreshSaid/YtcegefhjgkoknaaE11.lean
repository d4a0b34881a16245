/- The engine, part 11: regions whose order is that of the text. -/
import Derived.Test.YtcegefhjgkoknaaE10
namespace Go.Proofs.Ytcegefhjgkoknaa.E
open Go.RowKit
set_option linter.unusedVariables false
set_option linter.unusedSimpArgs false

structure Br where
  g : List F
  pc : List F
  R : Log
  H : Log
  pre : Log
def Br.ws (base : Log) (n : Nat) (b : Br) : Prop := F.avos n BIG b.g = true ∧ F.avos n BIG b.pc = true ∧ Log.avo n BIG b.R = true ∧ Log.avo n BIG b.H = true ∧ b.H = b.pre ++ base
theorem Br.ws_mono {base : Log} {n m : Nat} (h : n ≤ m) {b : Br} (g : b.ws base n) : b.ws base m :=
  ⟨F.avos_mono h (Nat.le_refl _) g.1, F.avos_mono h (Nat.le_refl _) g.2.1, Log.avo_mono h (Nat.le_refl _) _ g.2.2.1, Log.avo_mono h (Nat.le_refl _) _ g.2.2.2.1, g.2.2.2.2⟩
structure BrS (C : Ctx) (nt : Nat) (ρ : Env) (b : Br) (a : Act) (w : World) : Prop where
  g : allH ρ b.g
  pc : allH ρ b.pc
  hd : HD C ρ b.H w
  rd : RD nt ρ b.R a

inductive Ex where
  | normal
  | exit (id : Nat)
  | ret
def Ex.to : Ex → Exit
  | .normal => .normal
  | .exit id => .exit id
  | .ret => .ret

abbrev Res (α : Type) := Option (Vcs × T α × Nat)

def bindT {α β : Type} (f : α → Nat → Res β) : T α → Nat → Res β
  | .lf x, n => f x n
  | .nd c a b, n => match bindT f a n with
    | some (v1, t1, n1) => match bindT f b n1 with
      | some (v2, t2, n2) => some (v1 ++ v2, .nd c t1 t2, n2)
      | none => none
    | none => none
  | .or a b, n => match bindT f a n with
    | some (v1, t1, n1) => match bindT f b n1 with
      | some (v2, t2, n2) => some (v1 ++ v2, .or t1 t2, n2)
      | none => none
    | none => none
  | .no, n => some ([], .no, n)

/-- A piece of code ends in one of the ways. -/
def Goal {β : Type} (code : (Exit → Act → World → Prop) → Prop) (q : Env → β → Exit → Act → World → Prop) (ρ : Env) (n n' : Nat) (t : T β) : Prop :=
  ∀ Q : Exit → Act → World → Prop, (∀ e ρ' a' w', Agr n n' ρ ρ' → (t.post ρ' fun x => q ρ' x e a' w') → Q e a' w') → code Q

theorem Goal.range {β : Type} {code : (Exit → Act → World → Prop) → Prop} {q : Env → β → Exit → Act → World → Prop} {ρ : Env} {n n' m m' : Nat} {t : T β} (h : Goal code q ρ n n' t) (h1 : m ≤ n) (h2 : n' ≤ m') : Goal code q ρ m m' t :=
  fun Q hQ => h Q fun e ρ' a' w' hagr hp => hQ e ρ' a' w' (hagr.mono h1 h2) hp
theorem Goal.weaken {β : Type} {code : (Exit → Act → World → Prop) → Prop} {q : Env → β → Exit → Act → World → Prop} {ρ : Env} {n n' : Nat} {t u : T β} (h : Goal code q ρ n n' t)
    (hw : ∀ ρ' (r : β → Prop), Agr n n' ρ ρ' → t.post ρ' r → u.post ρ' r) : Goal code q ρ n n' u :=
  fun Q hQ => h Q fun e ρ' a' w' hagr hp => hQ e ρ' a' w' hagr (hw ρ' _ hagr hp)

theorem bindT_ok {α β : Type} {f : α → Nat → Res β} {ws : Nat → α → Prop} {ws' : Nat → β → Prop} (hmono : ∀ n m x, n ≤ m → ws n x → ws m x) (hmono' : ∀ n m x, n ≤ m → ws' n x → ws' m x)
    {p : Env → α → Prop} {code : (Exit → Act → World → Prop) → Prop} {q : Env → β → Exit → Act → World → Prop}
    (hf : ∀ x n v t n', f x n = some (v, t, n') → ws n x → n ≤ BIG → n ≤ n' ∧ n' ≤ BIG ∧ t.all n' (ws' n') ∧ (Valid v → ∀ ρ, p ρ x → Goal code q ρ n n' t)) :
    ∀ (t0 : T α) (n : Nat) (v : Vcs) (t : T β) (n' : Nat), bindT f t0 n = some (v, t, n') → t0.all n (ws n) → n ≤ BIG →
      n ≤ n' ∧ n' ≤ BIG ∧ t.all n' (ws' n') ∧ (Valid v → ∀ ρ, t0.post ρ (p ρ) → Goal code q ρ n n' t) := by
  intro t0
  induction t0 with
  | lf x => exact fun n v t n' h ha hn => hf x n v t n' h ha hn
  | no =>
    intro n v t n' h ha hn
    simp only [bindT, Option.some.injEq, Prod.mk.injEq] at h
    obtain ⟨rfl, rfl, rfl⟩ := h
    exact ⟨Nat.le_refl _, hn, trivial, fun _ ρ hp => hp.elim⟩
  | nd c x y ihx ihy =>
    intro n v t n' h ha hn
    simp only [bindT] at h
    split at h
    · rename_i v1 t1 n1 h1
      split at h
      · rename_i v2 t2 n2 h2
        simp only [Option.some.injEq, Prod.mk.injEq] at h
        obtain ⟨rfl, rfl, rfl⟩ := h
        obtain ⟨a1, a2, a3, a4⟩ := ihx n v1 t1 n1 h1 ha.2.1 hn
        obtain ⟨b1, b2, b3, b4⟩ := ihy n1 v2 t2 n2 h2 (T.all_mono a1 (fun x hx => hmono _ _ x a1 hx) ha.2.2) a2
        refine ⟨by omega, b2, ⟨BE.avo_mono (by omega) (Nat.le_refl _) c ha.1, T.all_mono b1 (fun x hx => hmono' _ _ x b1 hx) a3, b3⟩, fun hv ρ hp => ?_⟩
        simp only [T.post] at hp
        have hsame : ∀ ρ', Agr n n2 ρ ρ' → c.den ρ' = c.den ρ := fun ρ' hagr => BE.den_agr hagr c (BE.avo_mono (Nat.le_refl _) b2 c ha.1)
        split at hp
        · rename_i hc
          refine ((a4 hv.app.1 ρ hp).range (Nat.le_refl _) b1).weaken fun ρ' r hagr hp' => ?_
          simp only [T.post]; rw [if_pos (by rw [hsame ρ' hagr]; exact hc)]; exact hp'
        · rename_i hc
          refine ((b4 hv.app.2 ρ hp).range a1 (Nat.le_refl _)).weaken fun ρ' r hagr hp' => ?_
          simp only [T.post]; rw [if_neg (by rw [hsame ρ' hagr]; exact hc)]; exact hp'
      · cases h
    · cases h
  | or x y ihx ihy =>
    intro n v t n' h ha hn
    simp only [bindT] at h
    split at h
    · rename_i v1 t1 n1 h1
      split at h
      · rename_i v2 t2 n2 h2
        simp only [Option.some.injEq, Prod.mk.injEq] at h
        obtain ⟨rfl, rfl, rfl⟩ := h
        obtain ⟨a1, a2, a3, a4⟩ := ihx n v1 t1 n1 h1 ha.1 hn
        obtain ⟨b1, b2, b3, b4⟩ := ihy n1 v2 t2 n2 h2 (T.all_mono a1 (fun x hx => hmono _ _ x a1 hx) ha.2) a2
        refine ⟨by omega, b2, ⟨T.all_mono b1 (fun x hx => hmono' _ _ x b1 hx) a3, b3⟩, fun hv ρ hp => ?_⟩
        rcases hp with hp | hp
        · exact ((a4 hv.app.1 ρ hp).range (Nat.le_refl _) b1).weaken fun ρ' r hagr hp' => .inl hp'
        · exact ((b4 hv.app.2 ρ hp).range a1 (Nat.le_refl _)).weaken fun ρ' r hagr hp' => .inr hp'
      · cases h
    · cases h

def putR (dst : Option Tmp) (c : BE) (s : SV) (R : Log) : Log :=
  match dst with
  | some d => (.r d, .reg c s) :: R
  | none => R
def dstOK (nt : Nat) (dst : Option Tmp) : Bool :=
  match dst with
  | some d => Nat.blt d nt
  | none => true
theorem RD.put {nt : Nat} {ρ : Env} {R : Log} {a : Act} (h : RD nt ρ R a) {dst : Option Tmp} (hd : dstOK nt dst = true) (c : BE) (s : SV) {v : Value} (hv : v = if c.den ρ then s.den ρ else undef) : RD nt ρ (putR dst c s R) (a.put dst v) := by
  cases dst with
  | none => exact h
  | some d =>
    have hlt : d < nt := Nat.le_of_ble_eq_true hd
    refine ⟨h.defers, by simp only [Act.put, Array.size_setIfInBounds]; exact h.size, fun t c' s' hl => ?_⟩
    simp only [putR, look_cons] at hl
    simp only [Act.put, Array.getElem?_setIfInBounds]
    by_cases hdt : d = t
    · subst hdt
      rw [if_pos rfl] at hl
      obtain ⟨rfl, rfl⟩ := Ent.reg.inj (Option.some.inj hl)
      rw [if_pos rfl, if_pos (by rw [h.size]; exact hlt), hv]
    · rw [if_neg (fun e => hdt (Key.r.inj e))] at hl
      rw [if_neg hdt]
      exact h.regs t c' s' hl
theorem putR_avo {n : Nat} {dst : Option Tmp} {c : BE} {s : SV} {R : Log} (hc : c.avo n BIG = true) (hs : s.avo n BIG = true) (hR : Log.avo n BIG R = true) : Log.avo n BIG (putR dst c s R) = true := by
  cases dst with
  | none => exact hR
  | some d => simp only [putR, Log.avo, Key.avo, Ent.avo, hc, hs, hR, Bool.and_self]

def guardC (all : Array Oper) (R : Log) (o : Oper) : Option BE :=
  match o.guard with
  | none => some (.lit true)
  | some (j, want) =>
    match (all[j]?).bind (·.dst) with
    | some d => match look (.r d) R with
      | some (.reg c (.b e)) => some (mkAnd c (bif want then e else mkNot e))
      | _ => none
    | none => none
theorem guardC_iff {nt : Nat} {ρ : Env} {R : Log} {a : Act} (h : RD nt ρ R a) {all : Array Oper} {o : Oper} {c : BE} (hg : guardC all R o = some c) : Region.wanted o (yielded all a.tmps) = c.den ρ := by
  unfold guardC at hg
  unfold Region.wanted
  cases ho : o.guard with
  | none => rw [ho] at hg; obtain rfl := Option.some.inj hg; rfl
  | some p =>
    obtain ⟨j, want⟩ := p
    rw [ho] at hg
    simp only at hg
    cases hd : (all[j]?).bind (·.dst) with
    | none => rw [hd] at hg; cases hg
    | some d =>
      rw [hd] at hg
      simp only at hg
      split at hg
      · rename_i c' e hl
        obtain rfl := Option.some.inj hg
        have := h.regs d c' (.b e) hl
        simp only [yielded, hd, Option.bind_some, this, mkAnd_den]
        cases hc : c'.den ρ
        · simp [undef]
        · simp only [if_true, SV.den, Bool.true_and]
          cases want
          · simp only [cond_false, mkNot_den]; cases e.den ρ <;> rfl
          · simp only [cond_true]; cases e.den ρ <;> rfl
      · cases hg
theorem mkNot_avo {lo hi : Nat} {e : BE} (h : e.avo lo hi = true) : (mkNot e).avo lo hi = true := by
  unfold mkNot; split
  · rfl
  · simp only [BE.avo] at h ⊢; exact h
  · simp only [BE.avo]; exact h
theorem mkAnd_avo {lo hi : Nat} {a b : BE} (ha : a.avo lo hi = true) (hb : b.avo lo hi = true) : (mkAnd a b).avo lo hi = true := by
  unfold mkAnd; split <;> first | exact hb | exact ha | rfl | simp only [BE.avo, ha, hb, Bool.and_self]
theorem guardC_avo {n : Nat} {R : Log} (h : Log.avo n BIG R = true) {all : Array Oper} {o : Oper} {c : BE} (hg : guardC all R o = some c) : c.avo n BIG = true := by
  unfold guardC at hg
  split at hg
  · obtain rfl := Option.some.inj hg; rfl
  · split at hg
    · split at hg
      · rename_i c' e hl
        obtain rfl := Option.some.inj hg
        have := (Log.avo_look h hl).2
        simp only [Ent.avo, SV.avo, Bool.and_eq_true] at this
        have h2 : ∀ q : Bool, (bif q then e else mkNot e).avo n BIG = true := by
          intro q
          cases q
          · exact mkNot_avo this.2
          · exact this.2
        exact mkAnd_avo this.1 (h2 _)
      · cases hg
    · cases hg

/-- All keys are those of blocks that are new from n on. -/
def freshK (n : Nat) : Log → Bool
  | [] => true
  | (.h id, _) :: r => Nat.ble n id && (Nat.blt id BIG && freshK n r)
  | _ :: _ => false
theorem freshK_look {n : Nat} {k : Key} : ∀ {L : Log}, freshK n L = true → ∀ {H : Log} {e : Ent}, Log.avo n BIG H = true → look k H = some e → look k (L ++ H) = some e
  | [], _, H, e, _, h => h
  | (.r t, f) :: r, g, H, e, hH, h => by cases g
  | (.h id, f) :: r, g, H, e, hH, h => by
    simp only [freshK, Bool.and_eq_true] at g
    have h1 := Nat.le_of_ble_eq_true g.1
    have h2 : id < BIG := Nat.le_of_ble_eq_true g.2.1
    rw [List.cons_append, look_cons, if_neg, freshK_look g.2.2 hH h]
    intro e'
    subst e'
    have := off_iff (Log.avo_look hH h).1
    omega
theorem HD.sub {C : Ctx} {ρ : Env} {L M : Log} {w : World} (h : HD C ρ L w) (hs : ∀ id o r, look (.h id) M = some (.row o r) → look (.h id) L = some (.row o r)) : HD C ρ M w :=
  ⟨fun id o r hl => h.rows id o r (hs _ _ _ hl), fun id r hl => h.own id r (hs _ _ _ hl), fun id r hl => h.ro id r (hs _ _ _ hl), fun i j r s hij hi hj => h.sep i j r s hij (hs _ _ _ hi) (hs _ _ _ hj), h.fr⟩

def runOps (P : Program) (call : CallFn) (nt : Nat) (amb : List F) (all : Array Oper) : List Oper → Nat → Br → Res (Ex × Br)
  | [], n, b => some ([], .lf (.normal, b), n)
  | o :: r, n, b =>
    bif !(dstOK nt o.dst) then none else
    match guardC all b.R o with
    | none => none
    | some (.lit false) => runOps P call nt amb all r n { b with R := putR o.dst (.lit true) (.tup []) b.R }
    | some (.lit true) =>
      match stepO P call b.R b.H n (b.g ++ (b.pc ++ amb)) (.lit true) o.op with
      | none => none
      | some out =>
        match bindT (fun (x : Alt) n => runOps P call nt amb all r n ⟨x.fs ++ b.g, x.pc ++ b.pc, putR o.dst (.lit true) x.s b.R, x.pre ++ b.H, x.pre ++ b.pre⟩) out.t out.n with
        | none => none
        | some (v, t, n') => some (out.vcs ++ v, t, n')
    | some c =>
      match stepO P call b.R b.H n (.be c :: (b.g ++ (b.pc ++ amb))) c o.op with
      | some ⟨vcs, .lf ⟨fs, [], s, pre⟩, n1⟩ =>
        bif freshK n pre then
          match runOps P call nt amb all r n1 { b with g := fs.map (.imp c) ++ b.g, R := putR o.dst c s b.R } with
          | none => none
          | some (v, t, n') => some (vcs ++ v, t, n')
        else none
      | _ => none

theorem BrS.agr {C : Ctx} {nt lo hi : Nat} {base : Log} {ρ σ : Env} {b : Br} {a : Act} {w : World} (h : BrS C nt ρ b a w) (hw : b.ws base lo) (hagr : Agr lo hi ρ σ) (hh : hi ≤ BIG) : BrS C nt σ b a w :=
  ⟨(allH_agr hagr (F.avos_mono (Nat.le_refl _) hh hw.1)).2 h.g, (allH_agr hagr (F.avos_mono (Nat.le_refl _) hh hw.2.1)).2 h.pc, h.hd.agr hagr (Log.avo_sub hw.2.2.2.1 hh), h.rd.agr hagr (Log.avo_sub hw.2.2.1 hh)⟩

def qB (C : Ctx) (nt : Nat) (ρ : Env) (x : Ex × Br) (e : Exit) (a : Act) (w : World) : Prop := e = x.1.to ∧ BrS C nt ρ x.2 a w

theorem runOps_ok {P : Program} {call : CallFn} (hcall : CallOK P call) (hN : NoRt P) {nt : Nat} {amb : List F} {all : Array Oper} {base : Log} (C : Ctx) :
    ∀ (ops : List Oper) (n : Nat) (b : Br) (v : Vcs) (t : T (Ex × Br)) (n' : Nat), runOps P call nt amb all ops n b = some (v, t, n') → b.ws base n → F.avos n BIG amb = true → n ≤ BIG →
      n ≤ n' ∧ n' ≤ BIG ∧ t.all n' (fun x => x.2.ws base n') ∧
      (Valid v → ∀ ρ a w, allH ρ amb → BrS C nt ρ b a w → Goal (fun Q => wpList P all Q ops a w) (qB C nt) ρ n n' t)
  | [], n, b, v, t, n', h, hw, ha, hn => by
    simp only [runOps, Option.some.injEq, Prod.mk.injEq] at h
    obtain ⟨rfl, rfl, rfl⟩ := h
    exact ⟨Nat.le_refl _, hn, hw, fun _ ρ a w hA hb Q hQ => hQ .normal ρ a w (Agr.refl _ _ _) ⟨rfl, hb⟩⟩
  | o :: r, n, b, v, t, n', h, hw, ha, hn => by
    simp only [runOps] at h
    cases hd : dstOK nt o.dst
    · simp only [hd, Bool.not_false, cond_true] at h; cases h
    simp only [hd, Bool.not_true, cond_false] at h
    split at h
    · cases h
    · rename_i hg
      obtain ⟨h1, h2, h3, h4⟩ := runOps_ok hcall hN C r n _ v t n' h ⟨hw.1, hw.2.1, putR_avo rfl rfl hw.2.2.1, hw.2.2.2.1, hw.2.2.2.2⟩ ha hn
      refine ⟨h1, h2, h3, fun hv ρ a w hA hb Q hQ => ?_⟩
      have hwant := guardC_iff hb.rd hg
      simp only [BE.den] at hwant
      show wpList P all Q (o :: r) a w
      simp only [wpList, hwant, Bool.false_eq_true, if_false]
      exact h4 hv ρ _ w hA ⟨hb.g, hb.pc, hb.hd, hb.rd.put hd (.lit true) (.tup []) rfl⟩ Q hQ
    · rename_i hg
      split at h
      · cases h
      · rename_i out hst
        split at h
        · cases h
        · rename_i v2 t2 n2 hbd
          simp only [Option.some.injEq, Prod.mk.injEq] at h
          obtain ⟨rfl, rfl, rfl⟩ := h
          obtain ⟨s1, s2, s3, s4⟩ := stepO_ok (o := o) hcall hN hst hw.2.2.1 hw.2.2.2.1 (F.avos_app hw.1 (F.avos_app hw.2.1 ha)) hn
          have key : ∀ (a' : Act) (w' : World) (vv : Value), ∀ (x : Alt) (m : Nat) (v : Vcs) (t : T (Ex × Br)) (m' : Nat),
              runOps P call nt amb all r m ⟨x.fs ++ b.g, x.pc ++ b.pc, putR o.dst (.lit true) x.s b.R, x.pre ++ b.H, x.pre ++ b.pre⟩ = some (v, t, m') → (out.n ≤ m ∧ x.ws m) → m ≤ BIG →
              m ≤ m' ∧ m' ≤ BIG ∧ t.all m' (fun x => x.2.ws base m') ∧ (Valid v → ∀ ρ', (allH ρ' x.fs ∧ allH ρ' x.pc ∧ vv = x.s.den ρ' ∧ HD C ρ' (x.pre ++ b.H) w' ∧ allH ρ' b.g ∧ allH ρ' b.pc ∧ RD nt ρ' b.R a' ∧ allH ρ' amb) →
                Goal (fun Q => wpList P all Q r (a'.put o.dst vv) w') (qB C nt) ρ' m m' t) := by
            intro a' w' vv x m v t m' hr hws hm
            have hwm := Br.ws_mono (show n ≤ m by omega) hw
            have hwx : (⟨x.fs ++ b.g, x.pc ++ b.pc, putR o.dst (.lit true) x.s b.R, x.pre ++ b.H, x.pre ++ b.pre⟩ : Br).ws base m :=
              ⟨F.avos_app hws.2.1 hwm.1, F.avos_app hws.2.2.1 hwm.2.1, putR_avo rfl hws.2.2.2.1 hwm.2.2.1, Log.avo_app hws.2.2.2.2 hwm.2.2.2.1, by rw [hw.2.2.2.2, List.append_assoc]⟩
            obtain ⟨h1, h2, h3, h4⟩ := runOps_ok hcall hN C r m _ v t m' hr hwx (F.avos_mono (show n ≤ m by omega) (Nat.le_refl _) ha) hm
            refine ⟨h1, h2, h3, fun hv ρ' hp => ?_⟩
            obtain ⟨p1, p2, p3, p4, p5, p6, p7, p8⟩ := hp
            exact h4 hv ρ' _ w' p8 ⟨allH_app.2 ⟨p1, p5⟩, allH_app.2 ⟨p2, p6⟩, p4, p7.put hd (.lit true) x.s (by rw [p3]; rfl)⟩
          have sall : out.t.all out.n (fun x => out.n ≤ out.n ∧ x.ws out.n) := T.all_mono (Nat.le_refl _) (fun x hx => ⟨Nat.le_refl _, hx⟩) s3
          have base0 := fun (a' : Act) (w' : World) (vv : Value) => bindT_ok (ws := fun m (x : Alt) => out.n ≤ m ∧ x.ws m) (ws' := fun m (x : Ex × Br) => x.2.ws base m)
            (fun _ _ x hnm hx => ⟨Nat.le_trans hx.1 hnm, Alt.ws_mono hnm hx.2⟩) (fun _ _ x hnm hx => Br.ws_mono hnm hx) (key a' w' vv) out.t out.n v2 t2 n2 hbd sall s2
          obtain ⟨g1, g2, g3, _⟩ := base0 ⟨#[], []⟩ C.w0 undef
          refine ⟨by omega, g2, g3, fun hv ρ a w hA hb Q hQ => ?_⟩
          have hwant := guardC_iff hb.rd hg
          simp only [BE.den] at hwant
          show wpList P all Q (o :: r) a w
          simp only [wpList, hwant, if_true]
          refine .inl (s4 hv.app.1 C nt ρ a w (allH_app.2 ⟨hb.g, allH_app.2 ⟨hb.pc, hA⟩⟩) hb.hd hb.rd rfl _ _ fun ρ' w' vv hagr hp => ?_)
          obtain ⟨_, _, _, g4⟩ := base0 a w' vv
          have hb' := hb.agr hw hagr s2
          refine g4 hv.app.2 ρ' (T.post_mono (fun x hx => ⟨hx.1, hx.2.1, hx.2.2.1, hx.2.2.2, hb'.g, hb'.pc, hb'.rd, (allH_agr hagr (F.avos_mono (Nat.le_refl _) s2 ha)).2 hA⟩) hp) Q fun e ρ'' a'' w'' hagr' hp' => ?_
          exact hQ e ρ'' a'' w'' (hagr.trans hagr' g1 (by omega)) hp'
    · rename_i c hcf hct hg
      split at h
      · rename_i vcs fs s pre n1 hst
        cases hfk : freshK n pre
        · rw [hfk] at h; cases h
        · rw [hfk] at h
          simp only [cond_true] at h
          split at h
          · cases h
          · rename_i v2 t2 n2 hr
            simp only [Option.some.injEq, Prod.mk.injEq] at h
            obtain ⟨rfl, rfl, rfl⟩ := h
            have hca := guardC_avo hw.2.2.1 hg
            have hgg : F.avos n BIG (.be c :: (b.g ++ (b.pc ++ amb))) = true := by
              have := F.avos_app hw.1 (F.avos_app hw.2.1 ha)
              simp only [F.avos, List.all_cons, F.avo, hca, Bool.true_and] at this ⊢
              exact this
            obtain ⟨s1, s2, s3, s4⟩ := stepO_ok (o := o) hcall hN hst hw.2.2.1 hw.2.2.2.1 hgg hn
            simp only at s1 s2 s3 s4
            have hca1 : c.avo n1 BIG = true := BE.avo_mono s1 (Nat.le_refl _) c hca
            have hw1 := Br.ws_mono s1 hw
            have hwx : ({ b with g := fs.map (.imp c) ++ b.g, R := putR o.dst c s b.R } : Br).ws base n1 := by
              refine ⟨F.avos_app ?_ hw1.1, hw1.2.1, putR_avo hca1 s3.2.2.1 hw1.2.2.1, hw1.2.2.2.1, hw1.2.2.2.2⟩
              have := s3.1
              simp only [F.avos, List.all_map, List.all_eq_true, Function.comp] at this ⊢
              exact fun f hf => by simp only [F.avo, hca1, this f hf, Bool.and_self]
            obtain ⟨g1, g2, g3, g4⟩ := runOps_ok hcall hN C r n1 _ v2 t2 n2 hr hwx (F.avos_mono s1 (Nat.le_refl _) ha) s2
            refine ⟨by omega, g2, g3, fun hv ρ a w hA hb Q hQ => ?_⟩
            have hwant := guardC_iff hb.rd hg
            show wpList P all Q (o :: r) a w
            simp only [wpList, hwant]
            cases hcd : c.den ρ
            · simp only [Bool.false_eq_true, if_false]
              refine g4 hv.app.2 ρ _ w hA ⟨allH_app.2 ⟨fun f hf => ?_, hb.g⟩, hb.pc, hb.hd, hb.rd.put hd c s (by rw [hcd]; rfl)⟩ Q fun e ρ'' a'' w'' hagr' hp' => hQ e ρ'' a'' w'' (hagr'.mono s1 (Nat.le_refl _)) hp'
              obtain ⟨f', _, rfl⟩ := List.mem_map.1 hf
              intro hc; rw [hcd] at hc; cases hc
            · simp only [if_true]
              have hgρ : allH ρ (.be c :: (b.g ++ (b.pc ++ amb))) := allH_cons.2 ⟨hcd, allH_app.2 ⟨hb.g, allH_app.2 ⟨hb.pc, hA⟩⟩⟩
              refine .inl (s4 hv.app.1 C nt ρ a w hgρ hb.hd hb.rd hcd _ _ fun ρ' w' vv hagr hp => ?_)
              obtain ⟨p1, p2, p3, p4⟩ := hp
              simp only at p1 p2 p3 p4
              have hb' := hb.agr hw hagr s2
              have hcd' : c.den ρ' = true := by rw [BE.den_agr hagr c (BE.avo_mono (Nat.le_refl _) s2 c hca)]; exact hcd
              refine g4 hv.app.2 ρ' _ w' ((allH_agr hagr (F.avos_mono (Nat.le_refl _) s2 ha)).2 hA) ⟨allH_app.2 ⟨fun f hf => ?_, hb'.g⟩, hb'.pc, p4.sub fun id o r hl => freshK_look hfk hw.2.2.2.1 hl, hb'.rd.put hd c s (by rw [hcd', p3]; rfl)⟩ Q fun e ρ'' a'' w'' hagr' hp' => hQ e ρ'' a'' w'' (hagr.trans hagr' g1 s1) hp'
              obtain ⟨f', hf', rfl⟩ := List.mem_map.1 hf
              exact fun _ => p1 f' hf'
      · cases h
end Go.Proofs.Ytcegefhjgkoknaa.E
