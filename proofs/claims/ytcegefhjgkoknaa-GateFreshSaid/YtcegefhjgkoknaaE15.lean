/- The engine, part 15: regions that draw their order. -/
import Derived.Test.YtcegefhjgkoknaaE14
namespace Go.Proofs.Ytcegefhjgkoknaa.E
open Go.RowKit
set_option linter.unusedVariables false
set_option linter.unusedSimpArgs false

/-! what comes ahead of what -/
def rowM (acc : List Nat) (o : Oper) : Nat :=
  o.after.toList.foldl (fun m e => bif Region.binds .any e then m ||| (2 ^ e.on ||| acc.getD e.on 0) else m) 0
def masks : List Oper → List Nat → List Nat
  | [], acc => acc
  | o :: r, acc => masks r (acc ++ [rowM acc o])

theorem foldM_bit (acc : List Nat) (j : Nat) : ∀ (l : List Edge) (m : Nat), (l.foldl (fun m e => bif Region.binds .any e then m ||| (2 ^ e.on ||| acc.getD e.on 0) else m) m).testBit j = true →
    m.testBit j = true ∨ ∃ e, e ∈ l ∧ Region.binds .any e = true ∧ (e.on = j ∨ (acc.getD e.on 0).testBit j = true)
  | [], m, h => .inl h
  | e :: l, m, h => by
    simp only [List.foldl_cons] at h
    rcases foldM_bit acc j l _ h with h | ⟨e', he', hb, h'⟩
    · cases hb : Region.binds .any e
      · rw [hb] at h; exact .inl h
      · rw [hb] at h
        simp only [cond_true, Nat.testBit_or, Bool.or_eq_true] at h
        rcases h with h | h | h
        · exact .inl h
        · refine .inr ⟨e, .head _, hb, .inl ?_⟩
          rw [Nat.testBit_two_pow] at h
          exact of_decide_eq_true h
        · exact .inr ⟨e, .head _, hb, .inr h⟩
    · exact .inr ⟨e', .tail _ he', hb, h'⟩

/-- A set of operations that holds, with each, those ahead of it. -/
def Down (ops : List Oper) (S : Nat → Bool) : Prop := ∀ (i : Nat) (o : Oper), ops[i]? = some o → S i = true → ∀ e, e ∈ o.after.toList → Region.binds .any e = true → S e.on = true

theorem masks_get : ∀ (l : List Oper) (acc : List Nat) (i : Nat), i < acc.length → (masks l acc)[i]? = acc[i]?
  | [], acc, i, h => rfl
  | o :: r, acc, i, h => by rw [masks, masks_get r _ i (by simp; omega), List.getElem?_append_left h]
theorem masks_len : ∀ (l : List Oper) (acc : List Nat), (masks l acc).length = acc.length + l.length
  | [], acc => rfl
  | o :: r, acc => by rw [masks, masks_len r]; simp only [List.length_append, List.length_cons, List.length_nil]; omega

/-- What a mask tells: those ahead, near and far, are in the set. -/
theorem masks_sound {ops : List Oper} {S : Nat → Bool} (hS : Down ops S) : ∀ (l pre : List Oper) (acc : List Nat), ops = pre ++ l → acc.length = pre.length →
    (∀ (i m : Nat), acc[i]? = some m → (∀ (o : Oper), ops[i]? = some o → ∀ (e : Edge), e ∈ o.after.toList → Region.binds .any e = true → S e.on = true) → ∀ j, m.testBit j = true → S j = true) →
    ∀ (i m : Nat), (masks l acc)[i]? = some m → (∀ (o : Oper), ops[i]? = some o → ∀ (e : Edge), e ∈ o.after.toList → Region.binds .any e = true → S e.on = true) → ∀ j, m.testBit j = true → S j = true
  | [], pre, acc, he, hl, h => h
  | o :: r, pre, acc, he, hl, h => by
    refine masks_sound hS r (pre ++ [o]) (acc ++ [rowM acc o]) (by rw [he]; simp) (by simp [hl]) ?_
    intro i m hm hp j hj
    by_cases hi : i < acc.length
    · rw [List.getElem?_append_left hi] at hm; exact h i m hm hp j hj
    · have hi2 : i = acc.length := by
        have := (List.getElem?_eq_some_iff.1 hm).1
        simp at this; omega
      subst hi2
      rw [List.getElem?_append_right (Nat.le_refl _), Nat.sub_self] at hm
      obtain rfl := Option.some.inj hm
      have ho : ops[acc.length]? = some o := by rw [he, hl, List.getElem?_append_right (Nat.le_refl _), Nat.sub_self]; rfl
      rcases foldM_bit acc j _ 0 hj with h0 | ⟨e, hem, hb, h0 | h0⟩
      · simp at h0
      · rw [← h0]; exact hp o ho e hem hb
      · have hSe := hp o ho e hem hb
        rw [List.getD_eq_getElem?_getD] at h0
        cases hae : acc[e.on]? with
        | none => rw [hae] at h0; simp at h0
        | some m' =>
          rw [hae] at h0
          exact h e.on m' hae (fun o' ho' => hS e.on o' ho' hSe) j h0

/-! one operation's effect -/
structure Ef where
  i : Nat
  dst : Option Tmp
  heapy : Bool
  c : BE
  s : SV
  fs : List F
  pre : Log
  vcs : Vcs
  n : Nat
  n' : Nat

/-- Does it look at memory? -/
def heapy : Op → Bool
  | .load _ _ => true
  | .store _ _ _ => true
  | .call _ => true
  | .alloc _ => false
  | .box _ _ => false
  | .move _ => false
  | .assign _ => false
  | .pick _ _ _ => false
  | .build _ _ => false
  | .nilCheck _ => false
  | .binOp _ _ _ _ _ => false
  | .unOp _ _ _ => false
  | .convert _ _ _ => false
  | .fieldAddr _ _ _ => false
  | .indexAddr _ _ _ => true
  | .extract _ _ => false
  | .makeFunc _ _ _ => false
  | _ => true

def efOp (P : Program) (call : CallFn) (nt : Nat) (all : Array Oper) (R H : Log) (n : Nat) (g : List F) (i : Nat) (o : Oper) : Option Ef :=
  bif !(dstOK nt o.dst) then none else
  match guardC all R o with
  | none => none
  | some (.lit false) => some ⟨i, o.dst, heapy o.op, .lit true, .tup [], [], [], [], n, n⟩
  | some (.lit true) =>
    match stepO P call R H n g (.lit true) o.op with
    | some ⟨vcs, .lf ⟨fs, [], s, pre⟩, n1⟩ => some ⟨i, o.dst, heapy o.op, .lit true, s, fs, pre, vcs, n, n1⟩
    | _ => none
  | some c =>
    match stepO P call R H n (.be c :: g) c o.op with
    | some ⟨vcs, .lf ⟨fs, [], s, pre⟩, n1⟩ => bif freshK n pre then some ⟨i, o.dst, heapy o.op, c, s, fs.map (.imp c), [], vcs, n, n1⟩ else none
    | _ => none

/-- What an effect promises. -/
structure EfOK (P : Program) (nt : Nat) (all : Array Oper) (R H : Log) (g : List F) (n : Nat) (o : Oper) (x : Ef) : Prop where
  dst : x.dst = o.dst
  dok : dstOK nt x.dst = true
  xn : x.n = n
  le : n ≤ x.n'
  big : x.n' ≤ BIG
  cav : x.c.avo n BIG = true
  sav : x.s.avo x.n' BIG = true
  fav : F.avos x.n' BIG x.fs = true
  pav : Log.avo x.n' BIG x.pre = true
  run : Valid x.vcs → ∀ (C : Ctx) (ρ : Env) (a : Act) (w : World), allH ρ g → HD C ρ H w → RD nt ρ R a →
    ∀ (i : Nat), all[i]? = some o → ∀ (K : Act → World → Prop) (Q : Exit → Act → World → Prop),
      (∀ ρ' w', Agr n x.n' ρ ρ' → allH ρ' x.fs → HD C ρ' (x.pre ++ H) w' → K (a.put x.dst (if x.c.den ρ' then x.s.den ρ' else undef)) w') → wpOp P all Q i K a w

theorem efOp_ok {P : Program} {call : CallFn} (hcall : CallOK P call) (hN : NoRt P) {nt : Nat} {all : Array Oper} {R H : Log} {n : Nat} {g : List F} {i : Nat} {o : Oper} {x : Ef} (h : efOp P call nt all R H n g i o = some x)
    (hR : Log.avo n BIG R = true) (hH : Log.avo n BIG H = true) (hg : F.avos n BIG g = true) (hn : n ≤ BIG) : EfOK P nt all R H g n o x := by
  unfold efOp at h
  cases hd : dstOK nt o.dst
  · simp only [hd, Bool.not_false, cond_true] at h; cases h
  simp only [hd, Bool.not_true, cond_false] at h
  split at h
  · cases h
  · rename_i hgu
    obtain rfl := Option.some.inj h
    refine ⟨rfl, hd, rfl, Nat.le_refl _, hn, rfl, rfl, rfl, rfl, fun hv C ρ a w hgρ HH RR i hi K Q hK => ?_⟩
    have hw := guardC_iff RR hgu
    simp only [BE.den] at hw
    simp only [wpOp, hi, hw, Bool.false_eq_true, if_false]
    exact hK ρ w (Agr.refl _ _ _) (allH_nil _) HH
  · rename_i hgu
    split at h
    · rename_i vcs fs s pre n1 hst
      obtain rfl := Option.some.inj h
      obtain ⟨s1, s2, s3, s4⟩ := stepO_ok (o := o) hcall hN hst hR hH hg hn
      refine ⟨rfl, hd, rfl, s1, s2, rfl, s3.2.2.1, s3.1, s3.2.2.2, fun hv C ρ a w hgρ HH RR i hi K Q hK => ?_⟩
      have hw := guardC_iff RR hgu
      simp only [BE.den] at hw
      simp only [wpOp, hi, hw, if_true]
      refine .inl (s4 hv C nt ρ a w hgρ HH RR rfl _ _ fun ρ' w' v hagr hp => ?_)
      obtain ⟨p1, p2, p3, p4⟩ := hp
      have := hK ρ' w' hagr p1 p4
      rw [p3]
      exact this
    · cases h
  · rename_i c hcf hct hgu
    split at h
    · rename_i vcs fs s pre n1 hst
      cases hfk : freshK n pre
      · rw [hfk] at h; cases h
      · rw [hfk] at h
        obtain rfl := Option.some.inj h
        have hca := guardC_avo hR hgu
        have hg' : F.avos n BIG (.be c :: g) = true := by
          simp only [F.avos, List.all_cons, F.avo, hca, Bool.true_and] at hg ⊢; exact hg
        obtain ⟨s1, s2, s3, s4⟩ := stepO_ok (o := o) hcall hN hst hR hH hg' hn
        simp only at s1 s2 s3 s4
        have hca1 : c.avo n1 BIG = true := BE.avo_mono s1 (Nat.le_refl _) c hca
        refine ⟨rfl, hd, rfl, s1, s2, hca, s3.2.2.1, ?_, rfl, fun hv C ρ a w hgρ HH RR i hi K Q hK => ?_⟩
        · have := s3.1
          simp only [F.avos, List.all_map, List.all_eq_true, Function.comp] at this ⊢
          exact fun f hf => by simp only [F.avo, hca1, this f hf, Bool.and_self]
        · have hw := guardC_iff RR hgu
          simp only [wpOp, hi, hw]
          cases hcd : c.den ρ
          · simp only [Bool.false_eq_true, if_false]
            have := hK ρ w (Agr.refl _ _ _) (fun f hf => by
              obtain ⟨f', _, rfl⟩ := List.mem_map.1 hf
              intro hc; rw [hcd] at hc; cases hc) HH
            simp only [hcd, Bool.false_eq_true, if_false] at this
            exact this
          · simp only [if_true]
            refine .inl (s4 hv C nt ρ a w (allH_cons.2 ⟨hcd, hgρ⟩) HH RR hcd _ _ fun ρ' w' v hagr hp => ?_)
            obtain ⟨p1, p2, p3, p4⟩ := hp
            simp only at p1 p3 p4
            have hcd' : c.den ρ' = true := by rw [BE.den_agr hagr c (BE.avo_mono (Nat.le_refl _) s2 c hca)]; exact hcd
            have := hK ρ' w' hagr (fun f hf => by
              obtain ⟨f', hf', rfl⟩ := List.mem_map.1 hf
              exact fun _ => p1 f' hf') (p4.sub fun id o r hl => freshK_look hfk hH hl)
            simp only [hcd', if_true] at this
            rw [p3]; exact this
    · cases h

/-! sets of effects, in the text's order -/
def selH (p : Nat → Bool) : List Ef → Log → Log
  | [], b => b
  | e :: r, b => selH p r (bif p e.i then e.pre ++ b else b)
def selR (p : Nat → Bool) : List Ef → Log → Log
  | [], b => b
  | e :: r, b => selR p r (bif p e.i then putR e.dst e.c e.s b else b)
def selF (p : Nat → Bool) : List Ef → List F → List F
  | [], b => b
  | e :: r, b => selF p r (bif p e.i then e.fs ++ b else b)

def hasK (k : Key) : Log → Bool
  | [] => false
  | (j, _) :: r => j.eq k || hasK k r
theorem look_app {k : Key} : ∀ {L M : Log}, look k (L ++ M) = if hasK k L = true then look k L else look k M
  | [], M => rfl
  | (j, e) :: L, M => by
    rw [List.cons_append, look_cons, look_cons]
    by_cases h : j = k
    · rw [if_pos h, if_pos h, if_pos (by simp only [hasK, Key.eq_iff.2 h, Bool.true_or])]
    · rw [if_neg h, if_neg h, look_app]
      have : hasK k ((j, e) :: L) = hasK k L := by
        simp only [hasK]
        cases hh : j.eq k
        · rfl
        · exact absurd (Key.eq_iff.1 hh) h
      rw [this]
theorem hasK_look {k : Key} : ∀ {L : Log}, hasK k L = false → look k L = none
  | [], _ => rfl
  | (j, e) :: L, h => by
    simp only [hasK, Bool.or_eq_false_iff] at h
    rw [look_cons, if_neg (fun e => by rw [Key.eq_iff.2 e] at h; cases h.1), hasK_look h.2]

theorem selH_same {p q : Nat → Bool} {k : Key} : ∀ {l : List Ef} {b b' : Log}, (∀ e, e ∈ l → hasK k e.pre = true → p e.i = q e.i) → look k b = look k b' → look k (selH p l b) = look k (selH q l b')
  | [], b, b', h, hb => hb
  | e :: r, b, b', h, hb => by
    simp only [selH]
    refine selH_same (fun e' he' => h e' (.tail _ he')) ?_
    cases hk : hasK k e.pre
    · have e1 : ∀ b : Log, look k (e.pre ++ b) = look k b := fun b => by rw [look_app, if_neg (by rw [hk]; decide)]
      cases p e.i <;> cases q e.i <;> simp only [cond_true, cond_false, e1, hb]
    · rw [h e (.head _) hk]
      cases q e.i
      · exact hb
      · simp only [cond_true, look_app, hb]
theorem selR_same {p q : Nat → Bool} {t : Nat} : ∀ {l : List Ef} {b b' : Log}, (∀ e, e ∈ l → e.dst = some t → p e.i = q e.i) → look (.r t) b = look (.r t) b' → look (.r t) (selR p l b) = look (.r t) (selR q l b')
  | [], b, b', h, hb => hb
  | e :: r, b, b', h, hb => by
    simp only [selR]
    refine selR_same (fun e' he' => h e' (.tail _ he')) ?_
    by_cases hk : e.dst = some t
    · rw [h e (.head _) hk]
      cases q e.i
      · exact hb
      · simp only [cond_true, putR, hk, look_same]
    · have e1 : ∀ b : Log, look (.r t) (putR e.dst e.c e.s b) = look (.r t) b := fun b => by
        cases hd : e.dst with
        | none => rfl
        | some d => simp only [putR]; rw [look_cons, if_neg (fun e' => hk (by rw [hd, Key.r.inj e']))]
      cases p e.i <;> cases q e.i <;> simp only [cond_true, cond_false, e1, hb]
theorem selH_app {p : Nat → Bool} : ∀ {l : List Ef} {x b : Log}, selH p l (x ++ b) = selH p l x ++ b
  | [], x, b => rfl
  | e :: r, x, b => by
    simp only [selH]
    cases p e.i
    · exact selH_app
    · simp only [cond_true, ← List.append_assoc]; exact selH_app
theorem selF_mem {p : Nat → Bool} {f : F} : ∀ {l : List Ef} {b : List F}, f ∈ selF p l b ↔ (f ∈ b ∨ ∃ e, e ∈ l ∧ p e.i = true ∧ f ∈ e.fs)
  | [], b => by simp [selF]
  | e :: r, b => by
    simp only [selF, selF_mem]
    cases hp : p e.i
    · simp only [cond_false, List.mem_cons]
      constructor
      · rintro (h | ⟨e', he', h⟩)
        · exact .inl h
        · exact .inr ⟨e', .inr he', h⟩
      · rintro (h | ⟨e', rfl | he', h⟩)
        · exact .inl h
        · rw [hp] at h; cases h.1
        · exact .inr ⟨e', he', h⟩
    · simp only [cond_true, List.mem_append, List.mem_cons]
      constructor
      · rintro ((h | h) | ⟨e', he', h⟩)
        · exact .inr ⟨e, .inl rfl, hp, h⟩
        · exact .inl h
        · exact .inr ⟨e', .inr he', h⟩
      · rintro (h | ⟨e', rfl | he', h⟩)
        · exact .inl (.inr h)
        · exact .inl (.inl h.2)
        · exact .inr ⟨e', he', h⟩
end Go.Proofs.Ytcegefhjgkoknaa.E
