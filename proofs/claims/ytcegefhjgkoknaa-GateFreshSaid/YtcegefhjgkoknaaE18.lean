/- The engine, part 18: regions that draw their order: the step, and the whole. -/
import Derived.Test.YtcegefhjgkoknaaE17
namespace Go.Proofs.Ytcegefhjgkoknaa.E
open Go.RowKit
set_option linter.unusedVariables false
set_option linter.unusedSimpArgs false

def addS (S : Nat → Bool) (i : Nat) (k : Nat) : Bool := Nat.beq k i || S k
theorem addS_self (S : Nat → Bool) (i : Nat) : addS S i i = true := by simp [addS, Nat.beq_refl]
theorem addS_other {S : Nat → Bool} {i k : Nat} (h : k ≠ i) : addS S i k = S k := by
  have : Nat.beq k i = false := by
    cases hh : Nat.beq k i
    · rfl
    · exact absurd (Nat.eq_of_beq_eq_true hh) h
  simp [addS, this]

structure Stand (C : Ctx) (nt : Nat) (ρ0 : Env) (n n' : Nat) (efs : List Ef) (R H : Log) (g : List F) (S : Nat → Bool) (ρ : Env) (a : Act) (w : World) : Prop where
  agr : Agr n n' ρ0 ρ
  g : allH ρ (selF S efs g)
  hd : HD C ρ (selH S efs H) w
  rd : RD nt ρ (selR S efs R) a

theorem stand_step {P : Program} {nt : Nat} {all : Array Oper} {R H : Log} {g : List F} {n n' : Nat} {efs : List Ef} (F1 : Fine P nt all R H g n n' efs) {C : Ctx} {ρ0 : Env} (hvcs : ∀ x, x ∈ efs → Valid x.vcs) {S : Nat → Bool} {x : Ef} (hx : x ∈ efs) (h : Set1 all S x.i)
    {ρ : Env} {a : Act} {w : World} (st : Stand C nt ρ0 n n' efs R H g S ρ a w) (Q : Exit → Act → World → Prop) :
    wpOp P all Q x.i (fun a' w' => ∃ σ, Stand C nt ρ0 n n' efs R H g (addS S x.i) σ a' w') a w := by
  have hxe := ef_idx F1 hx
  have hxo := ef_ok F1 hx
  have hbig := F1.told.big
  obtain ⟨_, _, _, _, o, ho, hheap, hok⟩ := F1.told.each x.i x hxe.1
  rw [show (masks all.toList []).getD x.i 0 = msk all x.i from rfl, ← hheap] at hok
  -- the restricted state
  have hH : ∀ id r, look (.h id) (restH x.heapy (msk all x.i) (efs.take x.i) H) = some r → look (.h id) (selH S efs H) = some r := fun id r hl => rows_same F1 hx h hl
  let C' : Ctx := ⟨w, fun b => C.keep b ∨ ∃ id r, look (.h id) (selH S efs H) = some (.row true r) ∧ (∀ r', look (.h id) (restH x.heapy (msk all x.i) (efs.take x.i) H) ≠ some (.row true r')) ∧ r.owns ρ id b⟩
  have hkeep : ∀ b, C'.keep b → b < w.heap.size := by
    intro b hb
    rcases hb with hb | ⟨id, r, hl, _, hb⟩
    · exact Nat.lt_of_lt_of_le (st.hd.fr.keep b hb).1 st.hd.fr.size
    · exact Row.holds_lt (st.hd.rows id true r hl) hb
  have hd1 : HD C' ρ (restH x.heapy (msk all x.i) (efs.take x.i) H) w := by
    refine ⟨fun id o r hl => st.hd.rows id o r (hH _ _ hl), fun id r hl b hb => ?_, fun id r hl b hb => .inl (st.hd.ro id r (hH _ _ hl) b hb), fun i j r s hij hi hj => st.hd.sep i j r s hij (hH _ _ hi) (hH _ _ hj), ⟨rfl, rfl, rfl, Nat.le_refl _, fun b hb => ⟨hkeep b hb, rfl⟩⟩⟩
    rintro (hk | ⟨id2, r2, hl2, hno, hb2⟩)
    · exact st.hd.own id r (hH _ _ hl) b hb hk
    · have hne : id ≠ id2 := fun e => by subst e; exact hno r hl
      exact st.hd.sep id id2 r r2 hne (hH _ _ hl) hl2 b hb hb2
  have rd1 : RD nt ρ (restR all.toList (msk all x.i) x.i (efs.take x.i) R) a := ⟨st.rd.defers, st.rd.size, fun t c s hl => st.rd.regs t c s (regs_same F1 hx h hl)⟩
  have g1 : allH ρ (selF (fun j => (msk all x.i).testBit j) (efs.take x.i) g) := by
    intro f hf
    refine st.g f (selF_mem.2 ?_)
    rcases selF_mem.1 hf with hf | ⟨e, he, hb, hf⟩
    · exact .inl hf
    · exact .inr ⟨e, (take_lt F1 he).1, anc_in h.down hxe.2 h.ahead hb, hf⟩
  refine hok.run (hvcs x hx) C' ρ a w g1 hd1 rd1 x.i (by rw [← Array.getElem?_toList]; exact ho) _ Q fun σ w' hagr hfs hd2 => ?_
  -- behind it
  have later : ∀ e, e ∈ efs → S e.i = true → x.i < e.i → ¬ (msk all x.i).testBit e.i = true ∧ ¬ (msk all e.i).testBit x.i = true ∧ e.i ≠ x.i := by
    intro e he hSe hlt
    obtain ⟨h1, h2⟩ := done_cases F1 hx he h hSe
    exact ⟨fun hb => by have := anc_lt F1 hxe.2 hb; omega, h2, h1⟩
  have hlookH1 : ∀ id, hasK (.h id) x.pre = true → look (.h id) (selH (addS S x.i) efs H) = look (.h id) x.pre := by
    intro id hk
    have hsplit : selH (addS S x.i) efs H = selH (addS S x.i) (efs.drop (x.i + 1)) (x.pre ++ selH (addS S x.i) (efs.take x.i) H) := by
      conv => lhs; rw [take_drop F1 hx]
      rw [selH_split]
      simp only [selH, addS_self, cond_true]
    rw [hsplit, selH_none]
    · rw [look_app, if_pos hk]
    · intro e he hSe
      obtain ⟨he1, he2⟩ := drop_gt F1 he
      rw [addS_other (by omega)] at hSe
      obtain ⟨l1, l2, l3⟩ := later e he1 hSe he2
      cases hke : hasK (.h id) e.pre
      · rfl
      · exfalso
        have fr : ∀ {u v : Ef}, u ∈ efs → v ∈ efs → freshB u.n u.n' u.pre = true → hasK (.h id) u.pre = true → hasK (.h id) v.pre = true → (u.n = u.n' ∨ avoE v u.n u.n' = true) → False := by
          intro u v hu hv hf hku hkv ha
          obtain ⟨id', hid', hlo, hhi⟩ := freshB_has hf hku
          obtain rfl := Key.h.inj hid'
          rcases ha with ha | ha
          · omega
          · simp only [avoE, Bool.and_eq_true] at ha
            have := off_iff (avo_has ha.2.2.2 hkv)
            omega
        obtain ⟨_, p2, p3⟩ := pair_of F1 hx he1 (fun e' => l3 e'.symm) l2 l1
        obtain ⟨_, q2, q3⟩ := pair_of F1 he1 hx l3 l1 l2
        rcases F1.kind e he1 with hh | hf
        · exact fr hx he1 (p2.resolve_left (by rw [hh]; decide)) hk hke q3
        · exact fr he1 hx hf hke hk p3
  have hlookH2 : ∀ id, hasK (.h id) x.pre = false → look (.h id) (selH (addS S x.i) efs H) = look (.h id) (selH S efs H) := by
    intro id hk
    refine selH_same (fun e he hke => ?_) rfl
    by_cases hex : e.i = x.i
    · have : e = x := by
        have h1 := (ef_idx F1 he).1
        rw [hex, hxe.1] at h1
        exact (Option.some.inj h1).symm
      subst this; rw [hk] at hke; cases hke
    · exact addS_other hex
  -- what was there is told in the new words
  have old : ∀ id v, look (.h id) (selH S efs H) = some v → ∃ lo hi, Agr lo hi ρ σ ∧ (Key.h id).avo lo hi = true ∧ v.avo lo hi = true := by
    intro id v hl
    rcases selH_src hl with hl | ⟨e, he, hSe, hl⟩
    · have := Log.avo_look F1.hav hl
      exact ⟨n, x.n', hagr.mono hxo.1 (Nat.le_refl _), Key.avo_mono (Nat.le_refl _) (by omega) _ this.1, Ent.avo_mono (Nat.le_refl _) (by omega) _ this.2⟩
    · obtain ⟨lo, hi, ha, hav⟩ := done_avo F1 hx he h hSe hagr
      simp only [avoE, Bool.and_eq_true] at hav
      have := Log.avo_look hav.2.2.2 hl
      exact ⟨lo, hi, ha, this.1, this.2⟩
  have inside : ∀ id v, look (.h id) (x.pre ++ restH x.heapy (msk all x.i) (efs.take x.i) H) = some v → look (.h id) (selH (addS S x.i) efs H) = some v := by
    intro id v hl
    rw [look_app] at hl
    cases hk : hasK (.h id) x.pre
    · rw [hk, if_neg (by decide)] at hl
      rw [hlookH2 id hk]; exact hH id v hl
    · rw [hk, if_pos rfl] at hl
      rw [hlookH1 id hk]; exact hl
  -- a row behind it: of the operation's own, or one that it left alone
  have parts : ∀ id ow r, look (.h id) (selH (addS S x.i) efs H) = some (.row ow r) →
      look (.h id) (x.pre ++ restH x.heapy (msk all x.i) (efs.take x.i) H) = some (.row ow r) ∨
      (look (.h id) (selH S efs H) = some (.row ow r) ∧ (ow = true → ∀ r', look (.h id) (restH x.heapy (msk all x.i) (efs.take x.i) H) ≠ some (.row true r'))) := by
    intro id ow r hl
    cases hk : hasK (.h id) x.pre
    · rw [hlookH2 id hk] at hl
      by_cases hin : ∃ r', look (.h id) (restH x.heapy (msk all x.i) (efs.take x.i) H) = some (.row ow r')
      · obtain ⟨r', hr'⟩ := hin
        have := hH id _ hr'
        rw [hl] at this
        obtain ⟨_, rfl⟩ := Ent.row.inj (Option.some.inj this)
        refine .inl ?_
        rw [look_app, hk, if_neg (by decide)]; exact hr'
      · refine .inr ⟨hl, fun ho r' hr' => hin ⟨r', by rw [ho]; exact hr'⟩⟩
    · rw [hlookH1 id hk] at hl
      refine .inl ?_
      rw [look_app, hk, if_pos rfl]; exact hl
  have ownsS : ∀ id ow r, look (.h id) (selH S efs H) = some (.row ow r) → ∀ b, r.owns σ id b ↔ r.owns ρ id b := by
    intro id ow r hl b
    obtain ⟨lo, hi, ha, hk, hv⟩ := old id _ hl
    exact Row.owns_agr ha hk hv b
  have stay : ∀ b, C'.keep b → w'.heap[b]? = w.heap[b]? := fun b hb => (hd2.fr.keep b hb).2
  refine ⟨σ, st.agr.trans (hagr.mono hxo.1 hxo.2.2.1) (Nat.le_refl _) (Nat.le_refl _), fun f hf => ?_, ⟨fun id ow r hl => ?_, fun id r hl b hb => ?_, fun id r hl b hb => ?_, fun i j r s hij hi hj b hb1 hb2 => ?_, ?_⟩, ?_⟩
  · rcases selF_mem.1 hf with hf1 | ⟨e, he, hb, hfe⟩
    · have hfa := List.all_eq_true.1 F1.gav f hf1
      exact (F.holds_agr (hagr.mono hxo.1 (Nat.le_refl _)) f (F.avo_mono (Nat.le_refl _) (by omega) f hfa)).2 (st.g f (selF_mem.2 (.inl hf1)))
    · by_cases hex : e.i = x.i
      · have hexx : e = x := by
          have h1 := (ef_idx F1 he).1
          rw [hex, hxe.1] at h1
          exact (Option.some.inj h1).symm
        rw [hexx] at hfe; exact hfs f hfe
      · rw [addS_other hex] at hb
        obtain ⟨lo, hi, ha, hav⟩ := done_avo F1 hx he h hb hagr
        simp only [avoE, Bool.and_eq_true] at hav
        exact (F.holds_agr ha f (List.all_eq_true.1 hav.2.2.1 f hfe)).2 (st.g f (selF_mem.2 (.inr ⟨e, he, hb, hfe⟩)))
  · rcases parts id ow r hl with hp | ⟨hp, hno⟩
    · exact hd2.rows id ow r hp
    · obtain ⟨lo, hi, ha, hk, hv⟩ := old id _ hp
      refine Row.holds_same (Row.holds_agr ha hk hv (st.hd.rows id ow r hp)) fun b hb => ?_
      have hb' := (ownsS id ow r hp b).1 hb
      cases ow
      · exact stay b (.inl (st.hd.ro id r hp b hb'))
      · exact stay b (.inr ⟨id, r, hp, hno rfl, hb'⟩)
  · rcases parts id true r hl with hp | ⟨hp, hno⟩
    · exact fun hk => hd2.own id r hp b hb (.inl hk)
    · exact st.hd.own id r hp b ((ownsS id true r hp b).1 hb)
  · rcases parts id false r hl with hp | ⟨hp, _⟩
    · -- a row that may not be written: it is one of those that were there
      cases hk : hasK (.h id) x.pre
      · rw [hlookH2 id hk] at hl
        exact st.hd.ro id r hl b ((ownsS id false r hl b).1 hb)
      · rw [hlookH1 id hk] at hl
        exact absurd hl (ownB_look (F1.owned x hx))
    · exact st.hd.ro id r hp b ((ownsS id false r hp b).1 hb)
  · rcases parts i true r hi with p1 | ⟨p1, q1⟩
    · rcases parts j true s hj with p2 | ⟨p2, q2⟩
      · exact hd2.sep i j r s hij p1 p2 b hb1 hb2
      · exact hd2.own i r p1 b hb1 (.inr ⟨j, s, p2, q2 rfl, (ownsS j true s p2 b).1 hb2⟩)
    · rcases parts j true s hj with p2 | ⟨p2, q2⟩
      · exact hd2.own j s p2 b hb2 (.inr ⟨i, r, p1, q1 rfl, (ownsS i true r p1 b).1 hb1⟩)
      · exact st.hd.sep i j r s hij p1 p2 b ((ownsS i true r p1 b).1 hb1) ((ownsS j true s p2 b).1 hb2)
  · exact ⟨hd2.fr.os.trans st.hd.fr.os, hd2.fr.tape.trans st.hd.fr.tape, hd2.fr.output.trans st.hd.fr.output, Nat.le_trans st.hd.fr.size hd2.fr.size,
      fun b hb => ⟨(st.hd.fr.keep b hb).1, (stay b (.inl hb)).trans (st.hd.fr.keep b hb).2⟩⟩
  · have oldR : ∀ t c s, look (.r t) (selR S efs R) = some (.reg c s) → a.tmps[t]? = some (if c.den σ then s.den σ else undef) := by
      intro t c s hl
      have hreg := st.rd.regs t c s hl
      have : ∃ lo hi, Agr lo hi ρ σ ∧ c.avo lo hi = true ∧ s.avo lo hi = true := by
        rcases selR_src hl with hl | ⟨e, he, hSe, _, hv⟩
        · have := (Log.avo_look F1.rav hl).2
          simp only [Ent.avo, Bool.and_eq_true] at this
          exact ⟨n, x.n', hagr.mono hxo.1 (Nat.le_refl _), BE.avo_mono (Nat.le_refl _) (by omega) _ this.1, SV.avo_mono (Nat.le_refl _) (by omega) _ this.2⟩
        · obtain ⟨lo, hi, ha, hav⟩ := done_avo F1 hx he h hSe hagr
          simp only [avoE, Bool.and_eq_true] at hav
          obtain ⟨rfl, rfl⟩ := Ent.reg.inj hv
          exact ⟨lo, hi, ha, hav.1, hav.2.1⟩
      obtain ⟨lo, hi, ha, hc, hs⟩ := this
      rw [hreg, BE.den_agr ha c hc, SV.den_agr ha s hs]
    have hother : ∀ t, x.dst ≠ some t → look (.r t) (selR (addS S x.i) efs R) = look (.r t) (selR S efs R) := by
      intro t ht
      refine selR_same (fun e he hd => ?_) rfl
      by_cases hex : e.i = x.i
      · have : e = x := by
          have h1 := (ef_idx F1 he).1
          rw [hex, hxe.1] at h1
          exact (Option.some.inj h1).symm
        subst this; exact absurd hd ht
      · exact addS_other hex
    cases hdst : x.dst with
    | none =>
      refine ⟨st.rd.defers, st.rd.size, fun t c s hl => ?_⟩
      rw [hother t (by rw [hdst]; exact fun e => by cases e)] at hl
      exact oldR t c s hl
    | some d =>
      have hlt : d < nt := by
        have := hok.dok
        rw [hdst] at this
        exact Nat.le_of_ble_eq_true this
      refine ⟨st.rd.defers, by simp only [Act.put, Array.size_setIfInBounds]; exact st.rd.size, fun t c s hl => ?_⟩
      simp only [Act.put, Array.getElem?_setIfInBounds]
      by_cases hdt : d = t
      · subst hdt
        have hsplit : selR (addS S x.i) efs R = selR (addS S x.i) (efs.drop (x.i + 1)) ((.r d, .reg x.c x.s) :: selR (addS S x.i) (efs.take x.i) R) := by
          conv => lhs; rw [take_drop F1 hx]
          rw [selR_split]
          simp only [selR, addS_self, cond_true, putR, hdst]
        rw [hsplit, selR_none, look_same] at hl
        · obtain ⟨rfl, rfl⟩ := Ent.reg.inj (Option.some.inj hl)
          rw [if_pos rfl, if_pos (by rw [st.rd.size]; exact hlt)]
        · intro e he hSe hde
          obtain ⟨he1, he2⟩ := drop_gt F1 he
          rw [addS_other (by omega)] at hSe
          obtain ⟨l1, l2, l3⟩ := later e he1 hSe he2
          obtain ⟨p1, _, _⟩ := pair_of F1 hx he1 (fun e' => l3 e'.symm) l2 l1
          unfold dstNe at p1
          rw [hdst] at p1
          simp only [dstIs_iff.2 hde, Bool.not_true] at p1
          cases p1
      · rw [if_neg hdt]
        rw [hother t (by rw [hdst]; exact fun e => hdt (Option.some.inj e))] at hl
        exact oldR t c s hl
end Go.Proofs.Ytcegefhjgkoknaa.E
