/- The engine, part 17: regions that draw their order: why one run tells all. -/
import Derived.Test.YtcegefhjgkoknaaE16
namespace Go.Proofs.Ytcegefhjgkoknaa.E
open Go.RowKit
set_option linter.unusedVariables false
set_option linter.unusedSimpArgs false

theorem selR_split {p : Nat → Bool} : ∀ {l m : List Ef} {b : Log}, selR p (l ++ m) b = selR p m (selR p l b)
  | [], m, b => rfl
  | e :: r, m, b => by simp only [List.cons_append, selR]; exact selR_split
theorem selH_split {p : Nat → Bool} : ∀ {l m : List Ef} {b : Log}, selH p (l ++ m) b = selH p m (selH p l b)
  | [], m, b => rfl
  | e :: r, m, b => by simp only [List.cons_append, selH]; exact selH_split
theorem selR_none {p : Nat → Bool} {t : Nat} : ∀ {l : List Ef} {b : Log}, (∀ e, e ∈ l → p e.i = true → e.dst ≠ some t) → look (.r t) (selR p l b) = look (.r t) b
  | [], b, h => rfl
  | e :: r, b, h => by
    simp only [selR]
    rw [selR_none (fun e' he' => h e' (.tail _ he'))]
    cases hp : p e.i
    · rfl
    · have hd := h e (.head _) hp
      simp only [cond_true]
      cases he : e.dst with
      | none => rfl
      | some d => simp only [putR]; rw [look_cons, if_neg (fun e' => hd (by rw [he, Key.r.inj e']))]
theorem selH_none {p : Nat → Bool} {k : Key} : ∀ {l : List Ef} {b : Log}, (∀ e, e ∈ l → p e.i = true → hasK k e.pre = false) → look k (selH p l b) = look k b
  | [], b, h => rfl
  | e :: r, b, h => by
    simp only [selH]
    rw [selH_none (fun e' he' => h e' (.tail _ he'))]
    cases hp : p e.i
    · rfl
    · have hd := h e (.head _) hp
      simp only [cond_true]
      rw [look_app, if_neg (by rw [hd]; decide)]
theorem look_has {k : Key} {v : Ent} : ∀ {L : Log}, look k L = some v → hasK k L = true := by
  intro L h
  cases hk : hasK k L
  · rw [hasK_look hk] at h; cases h
  · rfl
theorem selH_src {p : Nat → Bool} {k : Key} {v : Ent} : ∀ {l : List Ef} {b : Log}, look k (selH p l b) = some v → look k b = some v ∨ ∃ e, e ∈ l ∧ p e.i = true ∧ look k e.pre = some v
  | [], b, h => .inl h
  | e :: r, b, h => by
    simp only [selH] at h
    rcases selH_src h with h | ⟨e', he', h⟩
    · cases hp : p e.i
      · rw [hp] at h; exact .inl h
      · rw [hp] at h
        simp only [cond_true, look_app] at h
        split at h
        · exact .inr ⟨e, .head _, hp, h⟩
        · exact .inl h
    · exact .inr ⟨e', .tail _ he', h⟩
theorem selR_src {p : Nat → Bool} {t : Nat} {v : Ent} : ∀ {l : List Ef} {b : Log}, look (.r t) (selR p l b) = some v → look (.r t) b = some v ∨ ∃ e, e ∈ l ∧ p e.i = true ∧ e.dst = some t ∧ v = .reg e.c e.s
  | [], b, h => .inl h
  | e :: r, b, h => by
    simp only [selR] at h
    rcases selR_src h with h | ⟨e', he', h⟩
    · cases hp : p e.i
      · rw [hp] at h; exact .inl h
      · rw [hp] at h
        simp only [cond_true] at h
        cases hd : e.dst with
        | none => rw [hd] at h; exact .inl h
        | some d =>
          rw [hd] at h
          simp only [putR] at h
          rw [look_cons] at h
          by_cases hk : Key.r d = Key.r t
          · rw [if_pos hk] at h
            exact .inr ⟨e, .head _, hp, by rw [hd, Key.r.inj hk], (Option.some.inj h).symm⟩
          · rw [if_neg hk] at h; exact .inl h
    · exact .inr ⟨e', .tail _ he', h⟩

theorem edges_lt : ∀ {l : List Oper} {i0 : Nat}, edgesOK i0 l = true → ∀ (k : Nat) (o : Oper), l[k]? = some o → ∀ e, e ∈ o.after.toList → Region.binds .any e = true → e.on < i0 + k
  | [], i0, h, k, o, ho, _, _, _ => by simp at ho
  | x :: r, i0, h, k, o, ho, e, he, hb => by
    simp only [edgesOK, Bool.and_eq_true] at h
    cases k with
    | zero =>
      obtain rfl := Option.some.inj ho
      have := List.all_eq_true.1 h.1 e he
      rw [hb] at this
      simp only [Bool.not_true, Bool.false_or] at this
      have : e.on + 1 ≤ i0 := Nat.le_of_ble_eq_true this
      omega
    | succ k =>
      have := edges_lt h.2 k o (by simpa using ho) e he hb
      omega

section
variable {P : Program} {nt : Nat} {all : Array Oper} {R H : Log} {g : List F} {n n' : Nat} {efs : List Ef}

structure Fine (P : Program) (nt : Nat) (all : Array Oper) (R H : Log) (g : List F) (n n' : Nat) (efs : List Ef) : Prop where
  told : Told P nt all (masks all.toList []) R H g n n' efs
  edges : edgesOK 0 all.toList = true
  trans : transOK (masks all.toList []) = true
  kind : ∀ x, x ∈ efs → x.heapy = true ∨ freshB x.n x.n' x.pre = true
  owned : ∀ x, x ∈ efs → ownB x.pre = true
  pairs : ∀ x y, x ∈ efs → y ∈ efs → pairOK (masks all.toList []) x y = true
  rav : Log.avo n BIG R = true
  hav : Log.avo n BIG H = true
  gav : F.avos n BIG g = true

def msk (all : Array Oper) (i : Nat) : Nat := (masks all.toList []).getD i 0

/-- What is done together with what comes ahead. -/
structure Set1 (all : Array Oper) (S : Nat → Bool) (i : Nat) : Prop where
  down : Down all.toList S
  new : S i = false
  ahead : ∀ o, all.toList[i]? = some o → ∀ e, e ∈ o.after.toList → Region.binds .any e = true → S e.on = true

theorem msk_some (all : Array Oper) {i : Nat} (hi : i < all.toList.length) : (masks all.toList [])[i]? = some (msk all i) := by
  have : i < (masks all.toList []).length := by rw [masks_len]; simpa using hi
  unfold msk
  rw [List.getD_eq_getElem?_getD, List.getElem?_eq_getElem this]; rfl

theorem anc_in {S : Nat → Bool} {i : Nat} (hS : Down all.toList S) (hi : i < all.toList.length) (ha : ∀ o, all.toList[i]? = some o → ∀ e, e ∈ o.after.toList → Region.binds .any e = true → S e.on = true) {j : Nat} (hj : (msk all i).testBit j = true) : S j = true :=
  masks_sound hS all.toList [] [] rfl rfl (fun i m hm => by simp at hm) i _ (msk_some all hi) ha j hj
theorem anc_in' {S : Nat → Bool} {i : Nat} (hS : Down all.toList S) (hi : i < all.toList.length) (hSi : S i = true) {j : Nat} (hj : (msk all i).testBit j = true) : S j = true :=
  anc_in hS hi (fun o ho e he hb => hS i o ho hSi e he hb) hj

theorem anc_lt (F1 : Fine P nt all R H g n n' efs) {i : Nat} (hi : i < all.toList.length) {j : Nat} (hj : (msk all i).testBit j = true) : j < i := by
  have hd : Down all.toList (fun k => decide (k < i)) := by
    intro k o ho hk e he hb
    have := edges_lt F1.edges k o ho e he hb
    have hk' := of_decide_eq_true hk
    exact decide_eq_true (by omega)
  have := anc_in hd hi (fun o ho e he hb => decide_eq_true (by have := edges_lt F1.edges i o ho e he hb; omega)) hj
  exact of_decide_eq_true this

theorem anc_trans (F1 : Fine P nt all R H g n n' efs) {i j k : Nat} (hi : i < all.toList.length) (hj : j < all.toList.length) (h1 : (msk all i).testBit j = true) (h2 : (msk all j).testBit k = true) : (msk all i).testBit k = true := by
  have hlen : (masks all.toList []).length = all.toList.length := by rw [masks_len]; simp
  have := List.all_eq_true.1 (List.all_eq_true.1 F1.trans i (by rw [List.mem_range]; omega)) j (by rw [List.mem_range]; omega)
  simp only [Bool.or_eq_true] at this
  rcases this with h | h
  · unfold msk at h1; rw [h1] at h; cases h
  · have := Nat.eq_of_beq_eq_true h
    unfold msk at *
    rw [← this, Nat.testBit_or, h2]; rfl

theorem ef_idx (F1 : Fine P nt all R H g n n' efs) {e : Ef} (he : e ∈ efs) : efs[e.i]? = some e ∧ e.i < all.toList.length := by
  obtain ⟨k, hk⟩ := List.getElem?_of_mem he
  have h1 := (F1.told.each k e hk).1
  have hlt := (List.getElem?_eq_some_iff.1 hk).1
  rw [h1]
  exact ⟨hk, by rw [← F1.told.len]; exact hlt⟩
theorem ef_ok (F1 : Fine P nt all R H g n n' efs) {e : Ef} (he : e ∈ efs) : n ≤ e.n ∧ e.n ≤ e.n' ∧ e.n' ≤ n' ∧ e.ws e.n' := by
  obtain ⟨h1, h2⟩ := ef_idx F1 he
  obtain ⟨_, a, b, c, o, _, _, hok⟩ := F1.told.each e.i e h1
  exact ⟨a, b, c, hok.ws (Nat.le_refl _)⟩

/-- Two that may come in either order. -/
theorem pair_of (F1 : Fine P nt all R H g n n' efs) {x y : Ef} (hx : x ∈ efs) (hy : y ∈ efs) (hne : x.i ≠ y.i) (h1 : ¬ (msk all y.i).testBit x.i = true) (h2 : ¬ (msk all x.i).testBit y.i = true) :
    dstNe x.dst y.dst = true ∧ (y.heapy = false ∨ freshB x.n x.n' x.pre = true) ∧ (y.n = y.n' ∨ avoE x y.n y.n' = true) := by
  have h := F1.pairs x y hx hy
  unfold pairOK at h
  simp only [Bool.or_eq_true] at h
  rcases h with h | h | h
  · exact absurd (Nat.eq_of_beq_eq_true h) hne
  · unfold unord at h
    unfold msk at h1 h2
    have h1' := Bool.eq_false_iff.2 h1
    have h2' := Bool.eq_false_iff.2 h2
    rw [h1', h2'] at h
    cases h
  · simp only [Bool.and_eq_true, Bool.or_eq_true, Bool.not_eq_true'] at h
    refine ⟨h.1, h.2.1, ?_⟩
    rcases h.2.2 with g | g
    · exact .inl (Nat.eq_of_beq_eq_true g)
    · exact .inr g

/-- One that is done already, and the one whose turn it is: either it comes ahead by the text, or they may come in either order. -/
theorem done_cases (F1 : Fine P nt all R H g n n' efs) {S : Nat → Bool} {x e : Ef} (hx : x ∈ efs) (he : e ∈ efs) (h : Set1 all S x.i) (hSe : S e.i = true) :
    e.i ≠ x.i ∧ ¬ (msk all e.i).testBit x.i = true := by
  obtain ⟨_, hxi⟩ := ef_idx F1 hx
  obtain ⟨_, hei⟩ := ef_idx F1 he
  refine ⟨fun e' => (by rw [e', h.new] at hSe; cases hSe), fun hb => ?_⟩
  have := anc_in' h.down hei hSe hb
  rw [h.new] at this; cases this

theorem Agr.whole {lo hi : Nat} {ρ σ : Env} (h : Agr lo hi ρ σ) (he : hi ≤ lo) (a b : Nat) : Agr a b ρ σ := by
  constructor <;> intro v _
  · exact h.i v (by omega)
  · exact h.b v (by omega)
  · exact h.k v (by omega)
  · exact h.f v (by omega)
  · exact h.l v (by omega)
  · exact h.x v (by omega)
  · exact h.y v (by omega)

/-- What was done speaks of nothing that the new one brings. -/
theorem done_avo (F1 : Fine P nt all R H g n n' efs) {S : Nat → Bool} {x e : Ef} (hx : x ∈ efs) (he : e ∈ efs) (h : Set1 all S x.i) (hSe : S e.i = true) {ρ σ : Env} (hagr : Agr x.n x.n' ρ σ) :
    ∃ lo hi, Agr lo hi ρ σ ∧ avoE e lo hi = true := by
  obtain ⟨hne, hnb⟩ := done_cases F1 hx he h hSe
  have hxe := ef_idx F1 hx
  have hee := ef_idx F1 he
  have hew := (ef_ok F1 he).2.2.2
  have hxo := ef_ok F1 hx
  have hbig := F1.told.big
  by_cases hlt : e.i < x.i
  · have hm := F1.told.mono e.i x.i e x hlt hee.1 hxe.1
    refine ⟨e.n', x.n', hagr.mono hm (Nat.le_refl _), ?_⟩
    simp only [avoE, Bool.and_eq_true]
    have hb : x.n' ≤ BIG := by omega
    exact ⟨BE.avo_mono (Nat.le_refl _) hb _ hew.1, SV.avo_mono (Nat.le_refl _) hb _ hew.2.1, F.avos_mono (Nat.le_refl _) hb hew.2.2.1, Log.avo_mono (Nat.le_refl _) hb _ hew.2.2.2⟩
  · have hgt : x.i < e.i := by omega
    have hno : ¬ (msk all x.i).testBit e.i = true := fun hb => by have := anc_lt F1 hxe.2 hb; omega
    obtain ⟨_, _, h3⟩ := pair_of F1 he hx hne hno hnb
    rcases h3 with h3 | h3
    · refine ⟨e.n', BIG, hagr.whole (by omega) _ _, ?_⟩
      simp only [avoE, Bool.and_eq_true]
      exact ⟨hew.1, hew.2.1, hew.2.2.1, hew.2.2.2⟩
    · exact ⟨x.n, x.n', hagr, h3⟩

/-- A block that one makes is unknown to those that may come ahead of it. -/
theorem fresh_unknown (F1 : Fine P nt all R H g n n' efs) {e : Ef} (he : e ∈ efs) {id : Nat} (h1 : e.n ≤ id) (h2 : id < e.n') {j : Ef} (hj : j ∈ efs) (hne : j.i ≠ e.i) (hno : ¬ (msk all j.i).testBit e.i = true) : hasK (.h id) j.pre = false := by
  cases hk : hasK (.h id) j.pre
  · rfl
  · exfalso
    have hje := ef_idx F1 hj
    have hee := ef_idx F1 he
    have hjw := (ef_ok F1 hj).2.2.2
    have heo := ef_ok F1 he
    have hbig := F1.told.big
    by_cases hb : (msk all e.i).testBit j.i = true
    · have hlt := anc_lt F1 hee.2 hb
      have hm := F1.told.mono j.i e.i j e hlt hje.1 hee.1
      have := off_iff (avo_has hjw.2.2.2 hk)
      omega
    · obtain ⟨_, _, h3⟩ := pair_of F1 hj he hne hb hno
      rcases h3 with h3 | h3
      · omega
      · simp only [avoE, Bool.and_eq_true] at h3
        have := off_iff (avo_has h3.2.2.2 hk)
        omega

theorem take_drop (F1 : Fine P nt all R H g n n' efs) {x : Ef} (hx : x ∈ efs) : efs = efs.take x.i ++ x :: efs.drop (x.i + 1) := by
  have h := (ef_idx F1 hx).1
  have hlt := (List.getElem?_eq_some_iff.1 h).1
  have := List.getElem_cons_drop hlt
  rw [(List.getElem?_eq_some_iff.1 h).2] at this
  rw [this, List.take_append_drop]
theorem take_lt (F1 : Fine P nt all R H g n n' efs) {i : Nat} {e : Ef} (he : e ∈ efs.take i) : e ∈ efs ∧ e.i < i := by
  obtain ⟨k, hk⟩ := List.getElem?_of_mem he
  have hki : k < i := by
    have := (List.getElem?_eq_some_iff.1 hk).1
    rw [List.length_take] at this; omega
  rw [List.getElem?_take_of_lt hki] at hk
  exact ⟨List.mem_of_getElem? hk, by rw [(F1.told.each k e hk).1]; exact hki⟩
theorem drop_gt (F1 : Fine P nt all R H g n n' efs) {i : Nat} {e : Ef} (he : e ∈ efs.drop (i + 1)) : e ∈ efs ∧ i < e.i := by
  obtain ⟨k, hk⟩ := List.getElem?_of_mem he
  rw [List.getElem?_drop] at hk
  exact ⟨List.mem_of_getElem? hk, by rw [(F1.told.each _ e hk).1]; omega⟩

/-- The slots that an operation may look at are as they will be in every order. -/
theorem regs_same (F1 : Fine P nt all R H g n n' efs) {S : Nat → Bool} {x : Ef} (hx : x ∈ efs) (h : Set1 all S x.i) {t : Nat} {v : Ent}
    (hl : look (.r t) (restR all.toList (msk all x.i) x.i (efs.take x.i) R) = some v) : look (.r t) (selR S efs R) = some v := by
  have hxe := ef_idx F1 hx
  -- the filter keeps it whole
  have hfilt : ∀ (M : Log) (p : Key × Ent → Bool), look (.r t) (M.filter p) = some v → (∀ e : Ent, p (.r t, e) = p (.r t, v)) → p (.r t, v) = true ∧ look (.r t) M = some v := by
    intro M p
    induction M with
    | nil => intro h; simp [look] at h
    | cons y M ih =>
      intro h hp
      obtain ⟨k, e⟩ := y
      by_cases hk : k = .r t
      · subst hk
        cases hpe : p (.r t, e)
        · rw [List.filter_cons_of_neg (by rw [hpe]; decide)] at h
          obtain ⟨h1, _⟩ := ih h hp
          rw [← hp e, hpe] at h1; cases h1
        · rw [List.filter_cons_of_pos hpe, look_same] at h
          obtain rfl := Option.some.inj h
          exact ⟨hpe, look_same _ _ _⟩
      · rw [look_other hk]
        cases hpe : p (k, e)
        · rw [List.filter_cons_of_neg (by rw [hpe]; decide)] at h; exact ih h hp
        · rw [List.filter_cons_of_pos hpe, look_other hk] at h; exact ih h hp
  obtain ⟨hok, hl'⟩ := hfilt _ _ hl (fun _ => rfl)
  simp only at hok
  have hto : ∀ e, e ∈ efs → e.dst = some t → e.i = x.i ∨ (msk all x.i).testBit e.i = true := by
    intro e he hd
    have hee := ef_idx F1 he
    obtain ⟨_, _, _, _, o, ho, _, hefok⟩ := F1.told.each e.i e hee.1
    have := okR_get hok e.i o ho (by rw [← hefok.dst]; exact hd)
    simpa using this
  rw [← hl']
  have hsplit : selR S efs R = selR S (x :: efs.drop (x.i + 1)) (selR S (efs.take x.i) R) := by
    conv => lhs; rw [take_drop F1 hx]
    exact selR_split
  rw [hsplit, selR_none]
  · refine selR_same (fun e he hd => ?_) rfl
    obtain ⟨he1, he2⟩ := take_lt F1 he
    rcases hto e he1 hd with g | g
    · omega
    · rw [g, anc_in h.down hxe.2 h.ahead g]
  · intro e he hSe hd
    have he1 : e ∈ efs ∧ x.i ≤ e.i := by
      cases he with
      | head => exact ⟨hx, Nat.le_refl _⟩
      | tail _ he => have := drop_gt F1 he; exact ⟨this.1, by omega⟩
    rcases hto e he1.1 hd with g | g
    · rw [g, h.new] at hSe; cases hSe
    · have := anc_lt F1 hxe.2 g; omega

/-- So are the rows, if it looks at memory. -/
theorem rows_same (F1 : Fine P nt all R H g n n' efs) {S : Nat → Bool} {x : Ef} (hx : x ∈ efs) (h : Set1 all S x.i) {id : Nat} {v : Ent}
    (hl : look (.h id) (restH x.heapy (msk all x.i) (efs.take x.i) H) = some v) : look (.h id) (selH S efs H) = some v := by
  have hxe := ef_idx F1 hx
  unfold restH at hl
  cases hhp : x.heapy
  · rw [hhp] at hl; simp [look] at hl
  rw [hhp] at hl
  simp only [cond_true] at hl
  -- whoever was done without coming ahead writes new blocks alone
  have key : ∀ e, e ∈ efs → S e.i = true → ¬ (msk all x.i).testBit e.i = true → hasK (.h id) e.pre = false := by
    intro e he hSe hna
    cases hk : hasK (.h id) e.pre
    · rfl
    · exfalso
      obtain ⟨hne, hnb⟩ := done_cases F1 hx he h hSe
      obtain ⟨_, h2, _⟩ := pair_of F1 he hx hne hna hnb
      have hfr : freshB e.n e.n' e.pre = true := h2.resolve_left (by rw [hhp]; decide)
      obtain ⟨id', hid', hlo, hhi⟩ := freshB_has hfr hk
      obtain rfl := Key.h.inj hid'
      have heo := ef_ok F1 he
      have hbig := F1.told.big
      rcases selH_src hl with hb | ⟨j, hj, hja, hjl⟩
      · have := off_iff (Log.avo_look F1.hav hb).1
        omega
      · obtain ⟨hj1, hj2⟩ := take_lt F1 hj
        have hje := ef_idx F1 hj1
        have := fresh_unknown F1 he hlo hhi hj1 (fun e' => hna (by rw [← e']; exact hja)) (fun hb => hna (anc_trans F1 hxe.2 hje.2 hja hb))
        rw [look_has hjl] at this; cases this
  rw [← hl]
  have hsplit : selH S efs H = selH S (x :: efs.drop (x.i + 1)) (selH S (efs.take x.i) H) := by
    conv => lhs; rw [take_drop F1 hx]
    exact selH_split
  rw [hsplit, selH_none]
  · refine selH_same (fun e he hd => ?_) rfl
    obtain ⟨he1, he2⟩ := take_lt F1 he
    cases hb : (msk all x.i).testBit e.i
    · cases hSe : S e.i
      · rfl
      · rw [key e he1 hSe (by rw [hb]; decide)] at hd; cases hd
    · exact anc_in h.down hxe.2 h.ahead hb
  · intro e he hSe
    have he1 : e ∈ efs ∧ x.i ≤ e.i := by
      cases he with
      | head => exact ⟨hx, Nat.le_refl _⟩
      | tail _ he => have := drop_gt F1 he; exact ⟨this.1, by omega⟩
    exact key e he1.1 hSe (fun hb => by have := anc_lt F1 hxe.2 hb; omega)
end
end Go.Proofs.Ytcegefhjgkoknaa.E
