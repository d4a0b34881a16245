/- The engine, part 12: code, and functions that are walked into. -/
import Derived.Test.YtcegefhjgkoknaaE11
namespace Go.Proofs.Ytcegefhjgkoknaa.E
open Go.RowKit
set_option linter.unusedVariables false
set_option linter.unusedSimpArgs false

def T.map {α β : Type} (f : α → β) : T α → T β
  | .lf x => .lf (f x)
  | .nd c a b => .nd c (a.map f) (b.map f)
  | .or a b => .or (a.map f) (b.map f)
  | .no => .no
theorem T.post_map {α β : Type} {f : α → β} {ρ : Env} {p : β → Prop} : ∀ {t : T α}, (t.map f).post ρ p ↔ t.post ρ fun x => p (f x)
  | .lf x => Iff.rfl
  | .nd c a b => by
    simp only [T.map, T.post]
    split
    · exact T.post_map
    · exact T.post_map
  | .or a b => by simp only [T.map, T.post, T.post_map]
  | .no => Iff.rfl
theorem T.all_map {α β : Type} {f : α → β} {n : Nat} {p : β → Prop} : ∀ {t : T α}, t.all n (fun x => p (f x)) → (t.map f).all n p
  | .lf x, h => h
  | .nd c a b, h => ⟨h.1, T.all_map h.2.1, T.all_map h.2.2⟩
  | .or a b, h => ⟨T.all_map h.1, T.all_map h.2⟩
  | .no, _ => trivial

def outOf (id : Nat) (z : Ex × Br) : Ex × Br :=
  match z.1 with
  | .exit j => bif Nat.beq j id then (.normal, z.2) else z
  | _ => z

def thenF (k : Nat → Br → Res (Ex × Br)) (z : Ex × Br) (n : Nat) : Res (Ex × Br) :=
  match z.1 with
  | .normal => k n z.2
  | .exit j => some ([], .lf (.exit j, z.2), n)
  | .ret => some ([], .lf (.ret, z.2), n)

def andThen (x : Res (Ex × Br)) (k : Nat → Br → Res (Ex × Br)) : Res (Ex × Br) :=
  match x with
  | some (v, t, n1) => match bindT (thenF k) t n1 with
    | some (v2, t2, n2) => some (v ++ v2, t2, n2)
    | none => none
  | none => none

def runLoop (body : Nat → Br → Res (Ex × Br)) : Nat → Nat → Br → Res (Ex × Br)
  | 0, _, _ => none
  | k + 1, n, b => andThen (body n b) (runLoop body k)

abbrev RegFn := Array Oper → Nat → Br → List F → Nat → Res (Ex × Br)

abbrev LoopFn := Code → (Nat → Br → Res (Ex × Br)) → List F → Nat → Br → Res (Ex × Br)

def runC (P : Program) (call : CallFn) (dr : RegFn) (lp : LoopFn) (nt : Nat) (amb : List F) : Code → Nat → Br → Res (Ex × Br)
  | .skip, n, b => some ([], .lf (.normal, b), n)
  | .label _, n, b => some ([], .lf (.normal, b), n)
  | .exit id, n, b => some ([], .lf (.exit id, b), n)
  | .ret, n, b => some ([], .lf (.ret, b), n)
  | .region _ ops draw, n, b => bif draw then dr ops n b amb nt else runOps P call nt amb ops ops.toList n b
  | .seq x y, n, b => andThen (runC P call dr lp nt amb x n b) (fun n b => runC P call dr lp nt amb y n b)
  | .cond q x y, n, b =>
    match sev b.R (.lit true) q with
    | some (.b (.lit true)) => runC P call dr lp nt amb x n b
    | some (.b (.lit false)) => runC P call dr lp nt amb y n b
    | some (.b c) =>
      match runC P call dr lp nt amb x n { b with pc := .be c :: b.pc } with
      | some (v1, t1, n1) => match runC P call dr lp nt amb y n1 { b with pc := .be (mkNot c) :: b.pc } with
        | some (v2, t2, n2) => some (v1 ++ v2, .nd c t1 t2, n2)
        | none => none
      | none => none
    | _ => none
  | .block id x, n, b => match runC P call dr lp nt amb x n b with
    | some (v, t, n') => some (v, t.map (outOf id), n')
    | none => none
  | .loop x, n, b => lp x (fun n b => runC P call dr lp nt amb x n b) amb n b
  | _, _, _ => none

/-- What a result promises of a piece of code. -/
def ResOK (base : Log) (C : Ctx) (nt : Nat) (amb : List F) (code : Act → World → (Exit → Act → World → Prop) → Prop) (n : Nat) (b : Br) (v : Vcs) (t : T (Ex × Br)) (n' : Nat) : Prop :=
  n ≤ n' ∧ n' ≤ BIG ∧ t.all n' (fun x => x.2.ws base n') ∧
    (Valid v → ∀ ρ a w, allH ρ amb → BrS C nt ρ b a w → Goal (fun Q => code a w Q) (qB C nt) ρ n n' t)
def FnOK (base : Log) (C : Ctx) (nt : Nat) (amb : List F) (n0 : Nat) (code : Act → World → (Exit → Act → World → Prop) → Prop) (k : Nat → Br → Res (Ex × Br)) : Prop :=
  ∀ (n : Nat) (b : Br) (v : Vcs) (t : T (Ex × Br)) (n' : Nat), k n b = some (v, t, n') → n0 ≤ n → b.ws base n → n ≤ BIG → ResOK base C nt amb code n b v t n'

theorem andThen_ok {base : Log} {C : Ctx} {nt : Nat} {amb : List F} {n0 : Nat} (hamb : F.avos n0 BIG amb = true) {code1 code2 : Act → World → (Exit → Act → World → Prop) → Prop} {k : Nat → Br → Res (Ex × Br)}
    (hk : FnOK base C nt amb n0 code2 k) {n : Nat} (hn0 : n0 ≤ n) {b : Br} {x : Res (Ex × Br)} (hx : ∀ v t n', x = some (v, t, n') → ResOK base C nt amb code1 n b v t n') {v : Vcs} {t : T (Ex × Br)} {n' : Nat} (h : andThen x k = some (v, t, n')) :
    ResOK base C nt amb (fun a w Q => code1 a w (Exit.then (fun a' w' => code2 a' w' Q) Q)) n b v t n' := by
  unfold andThen at h
  split at h
  · rename_i v1 t1 n1
    split at h
    · rename_i v2 t2 n2 h2
      simp only [Option.some.injEq, Prod.mk.injEq] at h
      obtain ⟨rfl, rfl, rfl⟩ := h
      obtain ⟨a1, a2, a3, a4⟩ := hx v1 t1 n1 rfl
      have key : ∀ (e : Exit) (a' : Act) (w' : World) (z : Ex × Br) (m : Nat) (v : Vcs) (t : T (Ex × Br)) (m' : Nat), thenF k z m = some (v, t, m') → (n1 ≤ m ∧ z.2.ws base m) → m ≤ BIG →
          m ≤ m' ∧ m' ≤ BIG ∧ t.all m' (fun x => x.2.ws base m') ∧ (Valid v → ∀ ρ, (qB C nt ρ z e a' w' ∧ allH ρ amb) → Goal (fun Q => Exit.then (fun a' w' => code2 a' w' Q) Q e a' w') (qB C nt) ρ m m' t) := by
        intro e a' w' z m v t m' hr hws hm
        obtain ⟨ze, zb⟩ := z
        cases ze with
        | normal =>
          obtain ⟨b1, b2, b3, b4⟩ := hk m zb v t m' hr (by omega) hws.2 hm
          exact ⟨b1, b2, b3, fun hv ρ hp Q hQ => by obtain ⟨⟨rfl, hb⟩, hA⟩ := hp; exact b4 hv ρ a' w' hA hb Q hQ⟩
        | exit j =>
          simp only [thenF, Option.some.injEq, Prod.mk.injEq] at hr
          obtain ⟨rfl, rfl, rfl⟩ := hr
          exact ⟨Nat.le_refl _, hm, hws.2, fun _ ρ hp Q hQ => by obtain ⟨⟨rfl, hb⟩, hA⟩ := hp; exact hQ _ ρ a' w' (Agr.refl _ _ _) ⟨rfl, hb⟩⟩
        | ret =>
          simp only [thenF, Option.some.injEq, Prod.mk.injEq] at hr
          obtain ⟨rfl, rfl, rfl⟩ := hr
          exact ⟨Nat.le_refl _, hm, hws.2, fun _ ρ hp Q hQ => by obtain ⟨⟨rfl, hb⟩, hA⟩ := hp; exact hQ _ ρ a' w' (Agr.refl _ _ _) ⟨rfl, hb⟩⟩
      have all1 : t1.all n1 (fun z => n1 ≤ n1 ∧ z.2.ws base n1) := T.all_mono (Nat.le_refl _) (fun z hz => ⟨Nat.le_refl _, hz⟩) a3
      have base0 := fun (e : Exit) (a' : Act) (w' : World) => bindT_ok (ws := fun m (z : Ex × Br) => n1 ≤ m ∧ z.2.ws base m) (ws' := fun m (z : Ex × Br) => z.2.ws base m)
        (fun _ _ z hnm hz => ⟨Nat.le_trans hz.1 hnm, Br.ws_mono hnm hz.2⟩) (fun _ _ z hnm hz => Br.ws_mono hnm hz) (key e a' w') t1 n1 v2 t2 n2 h2 all1 a2
      obtain ⟨g1, g2, g3, _⟩ := base0 .normal ⟨#[], []⟩ C.w0
      refine ⟨by omega, g2, g3, fun hv ρ a w hA hb Q hQ => ?_⟩
      refine a4 hv.app.1 ρ a w hA hb _ fun e ρ' a' w' hagr hp => ?_
      obtain ⟨_, _, _, g4⟩ := base0 e a' w'
      have hA' := (allH_agr hagr (F.avos_mono hn0 a2 hamb)).2 hA
      refine g4 hv.app.2 ρ' (T.post_mono (fun z hz => ⟨hz, hA'⟩) hp) Q fun e' ρ'' a'' w'' hagr' hp' => ?_
      exact hQ e' ρ'' a'' w'' (hagr.trans hagr' g1 (by omega)) hp'
    · cases h
  · cases h

theorem runLoop_ok {P : Program} {base : Log} {C : Ctx} {nt : Nat} {amb : List F} {n0 : Nat} (hamb : F.avos n0 BIG amb = true) {c : Code} {body : Nat → Br → Res (Ex × Br)} (hb : FnOK base C nt amb n0 (fun a w Q => c.wp P Q a w) body) :
    ∀ k, FnOK base C nt amb n0 (fun a w Q => Code.rounds P c Q k a w) (runLoop body k)
  | 0 => fun n b v t n' h => by simp only [runLoop] at h; cases h
  | k + 1 => fun n b v t n' h hn0 hws hn => andThen_ok hamb (runLoop_ok hamb hb k) hn0 (fun v t n' hx => hb n b v t n' hx hn0 hws hn) h

/-- What is asked of whoever deals with regions that draw their order. -/
def DrOK (P : Program) (dr : RegFn) : Prop :=
  ∀ (id : Nat) (ops : Array Oper) (base : Log) (C : Ctx) (nt : Nat) (amb : List F) (n : Nat) (b : Br) (v : Vcs) (t : T (Ex × Br)) (n' : Nat), dr ops n b amb nt = some (v, t, n') → F.avos n BIG amb = true → b.ws base n → n ≤ BIG →
    ResOK base C nt amb (fun a w Q => (Code.region id ops true).wp P Q a w) n b v t n'

/-- What is asked of whoever deals with loops. -/
def LpOK (P : Program) (lp : LoopFn) : Prop :=
  ∀ (base : Log) (C : Ctx) (nt : Nat) (amb : List F) (n0 : Nat), F.avos n0 BIG amb = true → ∀ (c : Code) (body : Nat → Br → Res (Ex × Br)),
    FnOK base C nt amb n0 (fun a w Q => c.wp P Q a w) body → FnOK base C nt amb n0 (fun a w Q => (Code.loop c).wp P Q a w) (lp c body amb)
/-- Loops, laid out round by round. -/
def unroll (U : Nat) : LoopFn := fun _ body _ => runLoop body U
theorem unroll_ok (P : Program) (U : Nat) : LpOK P (unroll U) := fun base C nt amb n0 hamb c body hb n b v t n' h hn0 hws hn => by
  obtain ⟨a1, a2, a3, a4⟩ := runLoop_ok hamb hb U n b v t n' h hn0 hws hn
  exact ⟨a1, a2, a3, fun hv ρ a w hA hb Q hQ => wp_loop_rounds U (a4 hv ρ a w hA hb Q hQ)⟩

theorem runC_ok {P : Program} {call : CallFn} (hcall : CallOK P call) (hN : NoRt P) {dr : RegFn} (hdr : DrOK P dr) {lp : LoopFn} (hlp : LpOK P lp) {nt : Nat} {amb : List F} {base : Log} (C : Ctx) {n0 : Nat} (hamb : F.avos n0 BIG amb = true) :
    ∀ c : Code, FnOK base C nt amb n0 (fun a w Q => c.wp P Q a w) (runC P call dr lp nt amb c) := by
  intro c
  induction c with
  | skip =>
    intro n b v t n' h hn0 hws hn
    simp only [runC, Option.some.injEq, Prod.mk.injEq] at h; obtain ⟨rfl, rfl, rfl⟩ := h
    exact ⟨Nat.le_refl _, hn, hws, fun _ ρ a w hA hb Q hQ => wp_skip (hQ _ ρ a w (Agr.refl _ _ _) ⟨rfl, hb⟩)⟩
  | label l =>
    intro n b v t n' h hn0 hws hn
    simp only [runC, Option.some.injEq, Prod.mk.injEq] at h; obtain ⟨rfl, rfl, rfl⟩ := h
    exact ⟨Nat.le_refl _, hn, hws, fun _ ρ a w hA hb Q hQ => wp_label (hQ _ ρ a w (Agr.refl _ _ _) ⟨rfl, hb⟩)⟩
  | exit id =>
    intro n b v t n' h hn0 hws hn
    simp only [runC, Option.some.injEq, Prod.mk.injEq] at h; obtain ⟨rfl, rfl, rfl⟩ := h
    exact ⟨Nat.le_refl _, hn, hws, fun _ ρ a w hA hb Q hQ => wp_exit (hQ _ ρ a w (Agr.refl _ _ _) ⟨rfl, hb⟩)⟩
  | ret =>
    intro n b v t n' h hn0 hws hn
    simp only [runC, Option.some.injEq, Prod.mk.injEq] at h; obtain ⟨rfl, rfl, rfl⟩ := h
    exact ⟨Nat.le_refl _, hn, hws, fun _ ρ a w hA hb Q hQ => wp_ret (hQ _ ρ a w (Agr.refl _ _ _) ⟨rfl, hb⟩)⟩
  | region id ops draw =>
    intro n b v t n' h hn0 hws hn
    simp only [runC] at h
    have ha := F.avos_mono hn0 (Nat.le_refl _) hamb
    cases draw
    · simp only [cond_false] at h
      obtain ⟨a1, a2, a3, a4⟩ := runOps_ok hcall hN C ops.toList n b v t n' h hws ha hn
      exact ⟨a1, a2, a3, fun hv ρ a w hA hb Q hQ => wp_region_list (a4 hv ρ a w hA hb Q hQ)⟩
    · simp only [cond_true] at h
      exact hdr id ops base C nt amb n b v t n' h ha hws hn
  | seq x y ihx ihy =>
    intro n b v t n' h hn0 hws hn
    simp only [runC] at h
    have := andThen_ok (code1 := fun a w Q => x.wp P Q a w) (code2 := fun a w Q => y.wp P Q a w) hamb ihy hn0 (fun v t n' hx => ihx n b v t n' hx hn0 hws hn) h
    obtain ⟨a1, a2, a3, a4⟩ := this
    exact ⟨a1, a2, a3, fun hv ρ a w hA hb Q hQ => wp_seq (a4 hv ρ a w hA hb Q hQ)⟩
  | cond q x y ihx ihy =>
    intro n b v t n' h hn0 hws hn
    simp only [runC] at h
    split at h
    · rename_i hq
      obtain ⟨a1, a2, a3, a4⟩ := ihx n b v t n' h hn0 hws hn
      exact ⟨a1, a2, a3, fun hv ρ a w hA hb Q hQ => wp_cond_true (by rw [sev_den hb.rd (c := .lit true) rfl hq]; rfl) (a4 hv ρ a w hA hb Q hQ)⟩
    · rename_i hq
      obtain ⟨a1, a2, a3, a4⟩ := ihy n b v t n' h hn0 hws hn
      exact ⟨a1, a2, a3, fun hv ρ a w hA hb Q hQ => wp_cond_false (by rw [sev_den hb.rd (c := .lit true) rfl hq]; rfl) (a4 hv ρ a w hA hb Q hQ)⟩
    · rename_i c _ _ hq
      split at h
      · rename_i v1 t1 n1 h1
        split at h
        · rename_i v2 t2 n2 h2
          simp only [Option.some.injEq, Prod.mk.injEq] at h
          obtain ⟨rfl, rfl, rfl⟩ := h
          have hca := sev_avo hws.2.2.1 hq
          simp only [SV.avo] at hca
          have pcs : ∀ {d : BE}, d.avo n BIG = true → F.avos n BIG (.be d :: b.pc) = true := by
            intro d hd
            have := hws.2.1
            simp only [F.avos, List.all_cons, F.avo, hd, Bool.true_and] at this ⊢; exact this
          obtain ⟨a1, a2, a3, a4⟩ := ihx n _ v1 t1 n1 h1 hn0 ⟨hws.1, pcs hca, hws.2.2.1, hws.2.2.2.1, hws.2.2.2.2⟩ hn
          obtain ⟨b1, b2, b3, b4⟩ := ihy n1 _ v2 t2 n2 h2 (by omega) (Br.ws_mono (b := { b with pc := .be (mkNot c) :: b.pc }) a1 ⟨hws.1, pcs (mkNot_avo hca), hws.2.2.1, hws.2.2.2.1, hws.2.2.2.2⟩) a2
          refine ⟨by omega, b2, ⟨BE.avo_mono (by omega) (Nat.le_refl _) c hca, T.all_mono b1 (fun z hz => Br.ws_mono b1 hz) a3, b3⟩, fun hv ρ a w hA hb Q hQ => ?_⟩
          have hsame : ∀ ρ', Agr n n2 ρ ρ' → c.den ρ' = c.den ρ := fun ρ' hagr => BE.den_agr hagr c (BE.avo_mono (Nat.le_refl _) b2 c hca)
          refine wp_cond_split (by rw [sev_den hb.rd (c := .lit true) rfl hq]; rfl) (fun hc => ?_) (fun hc => ?_)
          · have hb' : BrS C nt ρ { b with pc := .be c :: b.pc } a w := ⟨hb.g, allH_cons.2 ⟨hc, hb.pc⟩, hb.hd, hb.rd⟩
            refine a4 hv.app.1 ρ a w hA hb' Q fun e ρ' a' w' hagr hp => hQ e ρ' a' w' (hagr.mono (Nat.le_refl _) b1) ?_
            simp only [T.post]; rw [if_pos (by rw [hsame ρ' (hagr.mono (Nat.le_refl _) b1)]; exact hc)]; exact hp
          · have hb' : BrS C nt ρ { b with pc := .be (mkNot c) :: b.pc } a w := ⟨hb.g, allH_cons.2 ⟨by simp only [F.holds, mkNot_den]; rw [hc]; rfl, hb.pc⟩, hb.hd, hb.rd⟩
            refine b4 hv.app.2 ρ a w hA hb' Q fun e ρ' a' w' hagr hp => hQ e ρ' a' w' (hagr.mono a1 (Nat.le_refl _)) ?_
            simp only [T.post]; rw [if_neg (by rw [hsame ρ' (hagr.mono a1 (Nat.le_refl _)), hc]; decide)]; exact hp
        · cases h
      · cases h
    · cases h
  | block id x ih =>
    intro n b v t n' h hn0 hws hn
    simp only [runC] at h
    split at h
    · rename_i v1 t1 n1 h1
      simp only [Option.some.injEq, Prod.mk.injEq] at h
      obtain ⟨rfl, rfl, rfl⟩ := h
      obtain ⟨a1, a2, a3, a4⟩ := ih n b v1 t1 n1 h1 hn0 hws hn
      have hbr : ∀ z : Ex × Br, (outOf id z).2 = z.2 := by
        intro z; unfold outOf; split
        · rename_i j _; cases Nat.beq j id <;> rfl
        · rfl
      refine ⟨a1, a2, T.all_map (T.all_mono (Nat.le_refl _) (fun z hz => by rw [hbr z]; exact hz) a3), fun hv ρ a w hA hb Q hQ => wp_block ?_⟩
      refine a4 hv ρ a w hA hb _ fun e ρ' a' w' hagr hp => ?_
      have hex : ∀ z : Ex × Br, ∀ e', e' = z.1.to → (∀ Q : Exit → Act → World → Prop, Q (outOf id z).1.to a' w' → Exit.inBlock id Q e' a' w') := by
        intro z e' he Q hq
        subst he
        obtain ⟨ze, zb⟩ := z
        cases ze with
        | normal => exact hq
        | ret => exact hq
        | exit j =>
          simp only [Ex.to, Exit.inBlock]
          simp only [outOf] at hq
          by_cases hj : j = id
          · subst hj
            simp only [Nat.beq_refl, cond_true, Ex.to] at hq
            rw [if_pos rfl]; exact hq
          · have : Nat.beq j id = false := by
              cases hh : Nat.beq j id
              · rfl
              · exact absurd (Nat.eq_of_beq_eq_true hh) hj
            simp only [this, cond_false, Ex.to] at hq
            rw [if_neg hj]; exact hq
      have hpost : ∀ t : T (Ex × Br), (t.post ρ' fun z => qB C nt ρ' z e a' w') → (∀ e', ((t.map (outOf id)).post ρ' fun z => qB C nt ρ' z e' a' w') → Q e' a' w') → Exit.inBlock id Q e a' w' := by
        intro t
        induction t with
        | lf z =>
          intro hz hall
          refine hex z e hz.1 Q (hall _ ?_)
          simp only [T.map, T.post]
          exact ⟨rfl, by rw [hbr z]; exact hz.2⟩
        | nd c x y ihx ihy =>
          intro hz hall
          simp only [T.post, T.map] at hz hall
          split at hz
          · rename_i hc; exact ihx hz (fun e' he' => hall e' (by rw [if_pos hc]; exact he'))
          · rename_i hc; exact ihy hz (fun e' he' => hall e' (by rw [if_neg hc]; exact he'))
        | or x y ihx ihy =>
          intro hz hall
          rcases hz with hz | hz
          · exact ihx hz (fun e' he' => hall e' (.inl he'))
          · exact ihy hz (fun e' he' => hall e' (.inr he'))
        | no => exact fun hz _ => hz.elim
      exact hpost t1 hp fun e' he' => hQ e' ρ' a' w' hagr he'
    · cases h
  | loop x ih =>
    intro n b v t n' h hn0 hws hn
    simp only [runC] at h
    exact hlp base C nt amb n0 hamb x _ ih n b v t n' h hn0 hws hn
  | _ => intro n b v t n' h; simp only [runC] at h; cases h
end Go.Proofs.Ytcegefhjgkoknaa.E
