/- The engine, part 7: operations on values. -/
import Derived.Test.YtcegefhjgkoknaaE6
import Derived.Laws.StructEq
namespace Go.Proofs.Ytcegefhjgkoknaa.E
open Go.RowKit
set_option linter.unusedVariables false
set_option linter.unusedSimpArgs false

def sIntBin (op : BinOp) (k : IntKind) (a b : IE) : Option (List F × SV) :=
  match op with
  | .add => some ([], .int k (mkWrap k (mkAdd a b)))
  | .sub => some ([], .int k (mkWrap k (mkSub a b)))
  | .mul => some ([], .int k (mkWrap k (mkMul a b)))
  | .quo => some ([.be (mkCmp .neq b (.lit 0))], .int k (mkWrap k (mkQuo a b)))
  | .rem => some ([.be (mkCmp .neq b (.lit 0))], .int k (mkRem a b))
  | .and => some ([], .int k (.bits .and k a b))
  | .or => some ([], .int k (.bits .or k a b))
  | .xor => some ([], .int k (.bits .xor k a b))
  | .andNot => some ([], .int k (.bits .andNot k a b))
  | .eql => some ([], .b (mkCmp .eql a b))
  | .neq => some ([], .b (mkCmp .neq a b))
  | .lss => some ([], .b (mkCmp .lss a b))
  | .leq => some ([], .b (mkCmp .leq a b))
  | .gtr => some ([], .b (mkCmp .gtr a b))
  | .geq => some ([], .b (mkCmp .geq a b))
  | _ => none

theorem neq0_den {ρ : Env} {b : IE} (h : (F.be (mkCmp .neq b (.lit 0))).holds ρ) : ¬ b.den ρ = 0 := by
  simp only [F.holds, mkCmp_den, cmpI, IE.den, bne_iff_ne, ne_eq] at h
  exact h

theorem sIntBin_run {P : Program} {op : BinOp} {k : IntKind} {a b : IE} {v : List F} {s : SV} (h : sIntBin op k a b = some (v, s)) {ρ : Env} (hv : allH ρ v) (t : TypeId) (w : World) :
    (binOp op t (.int k (a.den ρ)) (.int k (b.den ρ))).run P w = .ok (s.den ρ) w := by
  cases op <;> simp only [sIntBin, Option.some.injEq, Prod.mk.injEq] at h <;> first
    | (cases h; done)
    | (obtain ⟨rfl, rfl⟩ := h; simp [binOp, Op.intArith, SV.den, mkWrap_den, mkAdd_den, mkSub_den, mkMul_den]; done)
    | (obtain ⟨rfl, rfl⟩ := h; have := neq0_den (allH_cons.1 hv).1; simp [binOp, Op.intDiv, SV.den, mkWrap_den, mkQuo_den, mkRem_den, IE.den, this]; done)
    | (obtain ⟨rfl, rfl⟩ := h; simp [binOp, Op.intBits, SV.den, IE.den, bitsI]; done)
    | (obtain ⟨rfl, rfl⟩ := h; simp [binOp, Op.intCmp, SV.den, mkCmp_den, cmpI]; done)

/-- Equality of flat structs, field by field. -/
def eqFs (P : Program) (xs ys : List SV) : List Field → Option BE
  | [] => some (.lit true)
  | f :: r =>
    bif decide (f.name = "_") then none else
    match aggQ P f.type, P.underlying f.type, xs[f.offset]?, ys[f.offset]?, eqFs P xs ys r with
    | some false, some (.int _), some (.int k a), some (.int j b), some e => bif kEq k j then some (mkIteB (mkCmp .eql a b) e (.lit false)) else none
    | some false, some .bool, some (.b a), some (.b b), some e => some (mkIteB (mkEqb a b) e (.lit false))
    | _, _, _, _, _ => none

theorem run_part {P : Program} {t : TypeId} {l : List SV} {o : Nat} {s : SV} {ρ : Env} (w : World) (ha : aggQ P t = some false) (h : l[o]? = some s) : (part t (l.map (SV.den ρ)).toArray o).run P w = .ok (s.den ρ) w := by
  simp [part, run_agg w ha, h]

theorem eqFs_run {P : Program} {xs ys : List SV} {ρ : Env} (d : Nat) (w : World) : ∀ {fs : List Field} {e : BE}, eqFs P xs ys fs = some e →
    (Op.eqFields (d + 1) (xs.map (SV.den ρ)).toArray (ys.map (SV.den ρ)).toArray fs).run P w = .ok (e.den ρ) w
  | [], e, h => by simp only [eqFs] at h; obtain rfl := Option.some.inj h; rfl
  | f :: r, e, h => by
    simp only [eqFs] at h
    cases hn : decide (f.name = "_")
    · simp only [hn, cond_false] at h
      have hn' : f.name ≠ "_" := of_decide_eq_false hn
      split at h
      · rename_i k0 k a j b e' ha hu hx hy he
        cases hk : kEq k j
        · rw [hk] at h; cases h
        · rw [hk] at h
          obtain rfl := Option.some.inj h
          have := kEq_eq hk; subst this
          simp only [Op.eqFields, if_pos hn', Sem.run_bind, run_part w ha hx, run_part w ha hy, Result.andThen_ok, SV.den, run_equalIn_int w d f.type k k0 _ _ hu]
          simp only [mkIteB_den, mkCmp_den, cmpI, BE.den]
          cases (a.den ρ == b.den ρ)
          · rfl
          · simp only [Bool.not_true, Bool.false_eq_true, if_false, if_true]
            exact eqFs_run d w he
      · rename_i a b e' ha hu hx hy he
        obtain rfl := Option.some.inj h
        simp only [Op.eqFields, if_pos hn', Sem.run_bind, run_part w ha hx, run_part w ha hy, Result.andThen_ok, SV.den, run_equalIn_bool' w d f.type _ _ hu]
        have ih := eqFs_run (ρ := ρ) d w he
        rw [mkIteB_den]
        by_cases hab : a.den ρ = b.den ρ
        · have e1 : (mkEqb a b).den ρ = true := by simp only [mkEqb_den, hab, beq_self_eq_true]
          have e2 : ¬ ((!(a.den ρ == b.den ρ)) = true) := by simp [hab]
          rw [if_neg e2, if_pos e1]; exact ih
        · have e1 : ¬ (mkEqb a b).den ρ = true := by simp only [mkEqb_den, beq_iff_eq]; exact hab
          have e2 : (!(a.den ρ == b.den ρ)) = true := by simp [hab]
          rw [if_pos e2, if_neg e1]; rfl
      · cases h
    · simp only [hn, cond_true] at h; cases h

def neg (op : BinOp) (e : BE) : Option BE :=
  match op with
  | .eql => some e
  | .neq => some (mkNot e)
  | _ => none

/-- What two values of one type (no numbers) come to under == and !=. -/
def sEq (P : Program) (t : TypeId) (x y : SV) : Option BE :=
  match x, y, P.underlying t with
  | .b a, .b c, some .bool => some (mkEqb a c)
  | .nilp, .nilp, some (.pointer _) => some (.lit true)
  | .ptr _, .nilp, some (.pointer _) => some (.lit false)
  | .nilp, .ptr _, some (.pointer _) => some (.lit false)
  | .nils, .nils, some (.slice _) => some (.lit true)
  | .sl _ _ _, .nils, some (.slice _) => some (.lit false)
  | .nilf, .nilf, some (.func _ _ _) => some (.lit true)
  | .fn _ _ _, .nilf, some (.func _ _ _) => some (.lit false)
  | .agg xs, .agg ys, some (.struct fs) =>
    bif P.stoodInHeld t || P.eqGuardType P.depth t then none else eqFs P xs ys fs.toList
  | _, _, _ => none

theorem sEq_run1 {P : Program} {t : TypeId} {x y : SV} {e : BE} (h : sEq P t x y = some e) (ρ : Env) (w : World) (d : Nat) : (Op.equalIn (d + 1 + 1) t (x.den ρ) (y.den ρ)).run P w = .ok (e.den ρ) w := by
  unfold sEq at h
  split at h <;> first | (cases h; done) | skip
  · rename_i hu; obtain rfl := Option.some.inj h; unfold Op.equalIn; rw [Sem.run_bind, run_und w hu, mkEqb_den]; rfl
  iterate 7
    · rename_i hu; obtain rfl := Option.some.inj h; unfold Op.equalIn; rw [Sem.run_bind, run_und w hu]; rfl
  rename_i xs ys fs hu
  cases hs : (P.stoodInHeld t || P.eqGuardType P.depth t)
  · rw [hs] at h
    simp only [cond_false] at h
    simp only [Bool.or_eq_false_iff] at hs
    have hf : P.fieldsOf t = fs := by unfold Program.fieldsOf; rw [hu]
    simp only [SV.den, SV.dens_eq]
    rw [run_equalIn_struct w (d + 1) t _ _ (by rw [hf]; exact hu) hs.1, hf]
    exact eqFs_run d w h
  · rw [hs] at h; cases h
theorem sEq_run {P : Program} {t : TypeId} {x y : SV} {e : BE} (h : sEq P t x y = some e) (ρ : Env) (w : World) : (Op.equal t (x.den ρ) (y.den ρ)).run P w = .ok (e.den ρ) w :=
  sEq_run1 h ρ w 9998

theorem geq0_den {ρ : Env} {b : IE} (h : (F.be (mkCmp .geq b (.lit 0))).holds ρ) : ¬ b.den ρ < 0 := by
  simp only [F.holds, mkCmp_den, cmpI, IE.den] at h
  have := of_decide_eq_true h
  omega

def sBin (P : Program) (op : BinOp) (t : TypeId) (x y : SV) : Option (List F × SV) :=
  match x, y with
  | .int k a, .int j b =>
    match op with
    | .shl => some ([.be (mkCmp .geq b (.lit 0))], .int k (.shl k a b))
    | .shr => some ([.be (mkCmp .geq b (.lit 0))], .int k (.shr k a b))
    | _ => bif kEq k j then sIntBin op k a b else none
  | _, _ =>
    match sEq P t x y with
    | some e => match neg op e with
      | some r => some ([], .b r)
      | none => none
    | none => none

theorem sBin_run {P : Program} {op : BinOp} {t : TypeId} {x y s : SV} {v : List F} (h : sBin P op t x y = some (v, s)) {ρ : Env} (hv : allH ρ v) (ox oy : Operand) (w : World) :
    ((do eqGuard op t ox oy (x.den ρ) (y.den ρ); binOp op t (x.den ρ) (y.den ρ) : Sem Value)).run P w = .ok (s.den ρ) w := by
  unfold sBin at h
  split at h
  · rename_i k a j b
    have hg : (eqGuard op t ox oy (SV.den ρ (.int k a)) (SV.den ρ (.int j b))).run P w = .ok () w := by
      unfold eqGuard; cases op <;> rfl
    rw [Sem.run_bind, hg, Result.andThen_ok]
    split at h
    · obtain ⟨rfl, rfl⟩ := Prod.mk.inj (Option.some.inj h)
      have h1 := geq0_den (allH_cons.1 hv).1
      simp only [SV.den, binOp, Op.shift, if_neg h1, Sem.run_pure, IE.den, shlI]
    · obtain ⟨rfl, rfl⟩ := Prod.mk.inj (Option.some.inj h)
      have h1 := geq0_den (allH_cons.1 hv).1
      simp only [SV.den, binOp, Op.shift, if_neg h1, Sem.run_pure, IE.den, shrI]
    · cases hk : kEq k j
      · rw [hk] at h; cases h
      · rw [hk] at h
        have := kEq_eq hk; subst this
        exact sIntBin_run h hv t w
  · rename_i hni
    split at h
    · rename_i e he
      split at h
      · rename_i r hr
        obtain ⟨rfl, rfl⟩ := Prod.mk.inj (Option.some.inj h)
        have hrun := sEq_run he ρ w
        have hg : (eqGuard op t ox oy (x.den ρ) (y.den ρ)).run P w = .ok () w := by
          unfold sEq at he
          split at he <;> first
            | (cases he; done)
            | (unfold eqGuard; cases op <;> rfl)
            | skip
          rename_i xs ys fs hu
          cases hs : (P.stoodInHeld t || P.eqGuardType P.depth t)
          · simp only [Bool.or_eq_false_iff] at hs
            exact run_eqGuard_agg w op t ox oy _ _ hs.2
          · rw [hs] at he; cases he
        rw [Sem.run_bind, hg, Result.andThen_ok]
        have hb : ∀ (g : Bool → Bool), binOp op t (x.den ρ) (y.den ρ) = (do pure (.bool (g (← Op.equal t (x.den ρ) (y.den ρ))))) → (binOp op t (x.den ρ) (y.den ρ)).run P w = .ok (.bool (g (e.den ρ))) w := by
          intro g hg; rw [hg, Sem.run_bind, hrun]; rfl
        cases op <;> simp only [neg] at hr <;> first | (cases hr; done) | skip
        · obtain rfl := Option.some.inj hr
          refine hb id ?_
          unfold sEq at he
          split at he <;> first | (cases he; done) | rfl
        · obtain rfl := Option.some.inj hr
          rw [SV.den, mkNot_den]
          refine hb (! ·) ?_
          unfold sEq at he
          split at he <;> first | (cases he; done) | rfl
      · cases h
    · cases h

def sUn (op : UnOp) (x : SV) : Option SV :=
  match op, x with
  | .neg, .int k a => some (.int k (mkWrap k (mkSub (.lit 0) a)))
  | .xor, .int k a => some (.int k (.bits .xor k (.lit (if k.signed then -1 else k.max)) a))
  | .not, .b a => some (.b (mkNot a))
  | _, _ => none
theorem sUn_run {P : Program} {op : UnOp} {x s : SV} (h : sUn op x = some s) (ρ : Env) (w : World) : (Op.unary op (x.den ρ)).run P w = .ok (s.den ρ) w := by
  unfold sUn at h
  split at h
  · obtain rfl := Option.some.inj h; simp [Op.unary, Op.intArith, SV.den, mkWrap_den, mkSub_den, IE.den]
  · obtain rfl := Option.some.inj h; simp [Op.unary, Op.intBits, SV.den, IE.den, bitsI]
  · obtain rfl := Option.some.inj h; simp [Op.unary, SV.den, mkNot_den]
  · cases h

def sConv (P : Program) (src dst : TypeId) (x : SV) : Option SV :=
  match P.underlying src, P.underlying dst, x with
  | some (.int _), some (.int k), .int _ a => some (.int k (mkWrap k a))
  | _, _, _ => none
theorem sConv_run {P : Program} {src dst : TypeId} {x s : SV} (h : sConv P src dst x = some s) (ρ : Env) (w : World) : (convert src dst (x.den ρ)).run P w = .ok (s.den ρ) w := by
  unfold sConv at h
  split at h
  · rename_i k0 k j a h1 h2
    obtain rfl := Option.some.inj h
    simp [convert, run_und w h1, run_und w h2, SV.den, Conv.intToInt, mkWrap_den]
  · cases h

def sExt (x : SV) (i : Nat) : Option SV :=
  match x with
  | .tup l => l[i]?
  | _ => none

/-- One of two values. -/
def phi (c : BE) : SV → SV → Option SV
  | .b x, .b y => some (.b (mkIteB c x y))
  | .int k x, .int j y => bif kEq k j then some (.int k (mkIteI c x y)) else none
  | .ptr p, .ptr q => bif p.eq q then some (.ptr p) else none
  | .nilp, .nilp => some .nilp
  | .nils, .nils => some .nils
  | .nilf, .nilf => some .nilf
  | .sl p n k, .sl q m j => bif p.eq q then some (.sl p (mkIteI c n m) (mkIteI c k j)) else none
  | .lst a, .lst b => bif Nat.beq a b then some (.lst a) else none
  | .opq a, .opq b => bif Nat.beq a b then some (.opq a) else none
  | _, _ => none
theorem phi_den {ρ : Env} {c : BE} {x y s : SV} (h : phi c x y = some s) : s.den ρ = if c.den ρ then x.den ρ else y.den ρ := by
  unfold phi at h
  split at h
  · obtain rfl := Option.some.inj h; simp only [SV.den, mkIteB_den]; split <;> rfl
  · rename_i k a j b
    cases hk : kEq k j
    · rw [hk] at h; cases h
    · rw [hk] at h; obtain rfl := Option.some.inj h; have := kEq_eq hk; subst this; simp only [SV.den, mkIteI_den]; split <;> rfl
  · rename_i p q
    cases hk : p.eq q
    · rw [hk] at h; cases h
    · rw [hk] at h; obtain rfl := Option.some.inj h; have := PT.eq_eq hk; subst this; simp
  · obtain rfl := Option.some.inj h; simp
  · obtain rfl := Option.some.inj h; simp
  · obtain rfl := Option.some.inj h; simp
  · rename_i p n k q m j
    cases hk : p.eq q
    · rw [hk] at h; cases h
    · rw [hk] at h; obtain rfl := Option.some.inj h; have := PT.eq_eq hk; subst this; simp only [SV.den, mkIteI_den]; split <;> rfl
  · rename_i a b
    cases hk : Nat.beq a b
    · rw [hk] at h; cases h
    · rw [hk] at h; obtain rfl := Option.some.inj h; have := Nat.eq_of_beq_eq_true hk; subst this; simp
  · rename_i a b
    cases hk : Nat.beq a b
    · rw [hk] at h; cases h
    · rw [hk] at h; obtain rfl := Option.some.inj h; have := Nat.eq_of_beq_eq_true hk; subst this; simp
  · cases h
def phis (c : BE) : List SV → List SV → Option (List SV)
  | [], [] => some []
  | x :: xs, y :: ys => match phi c x y, phis c xs ys with
    | some s, some r => some (s :: r)
    | _, _ => none
  | _, _ => none
theorem phis_den {ρ : Env} {c : BE} : ∀ {x y l : List SV}, phis c x y = some l → l.map (SV.den ρ) = if c.den ρ then x.map (SV.den ρ) else y.map (SV.den ρ)
  | [], [], l, h => by simp only [phis] at h; obtain rfl := Option.some.inj h; simp
  | [], y :: ys, l, h => by simp only [phis] at h; cases h
  | x :: xs, [], l, h => by simp only [phis] at h; cases h
  | x :: xs, y :: ys, l, h => by
    simp only [phis] at h
    split at h
    · rename_i s r h1 h2
      obtain rfl := Option.some.inj h
      simp only [List.map_cons, phi_den h1, phis_den h2]
      split <;> rfl
    · cases h
/-- One of two values, structs and several results too. -/
def phiV (c : BE) : SV → SV → Option SV
  | .agg x, .agg y => (phis c x y).map .agg
  | .tup x, .tup y => match x, y with
    | [.agg a, s], [.agg b, t] => match phis c a b, phi c s t with
      | some l, some r => some (.tup [.agg l, r])
      | _, _ => none
    | x, y => (phis c x y).map .tup
  | x, y => phi c x y
theorem phiV_den {ρ : Env} {c : BE} {x y s : SV} (h : phiV c x y = some s) : s.den ρ = if c.den ρ then x.den ρ else y.den ρ := by
  unfold phiV at h
  split at h
  · rename_i a b
    cases hp : phis c a b with
    | none => rw [hp] at h; cases h
    | some l => rw [hp] at h; obtain rfl := Option.some.inj h; simp only [SV.den, SV.dens_eq, phis_den hp]; split <;> rfl
  · split at h
    · split at h
      · rename_i l r h1 h2
        obtain rfl := Option.some.inj h
        simp only [SV.den, SV.dens_eq, List.map_cons, List.map_nil, phis_den h1, phi_den h2]; split <;> rfl
      · cases h
    · rename_i a b _ _ _
      cases hp : phis c a b with
      | none => rw [hp] at h; cases h
      | some l => rw [hp] at h; obtain rfl := Option.some.inj h; simp only [SV.den, SV.dens_eq, phis_den hp]; split <;> rfl
  · exact phi_den h
end Go.Proofs.Ytcegefhjgkoknaa.E
