/- The engine, part 9: what an operation that calls no Go function does. -/
import Derived.Test.YtcegefhjgkoknaaE8
namespace Go.Proofs.Ytcegefhjgkoknaa.E
open Go.RowKit
set_option linter.unusedVariables false
set_option linter.unusedSimpArgs false

theorem map_arr {α β : Type} (f : α → β) (xs : Array α) : xs.map f = (xs.toList.map f).toArray := by
  apply Array.ext'; rw [Array.toList_map]

/-- Slots and memory, apart. -/
def OpOK2 (P : Program) (o : Oper) (c : BE) (R H : Log) (n : Nat) (r : OR) : Prop :=
  ∀ (C : Ctx) (nt : Nat) (ρ : Env) (a : Act) (w : World), HD C ρ H w → RD nt ρ R a → c.den ρ = true → allH ρ r.vcs → Log.avo n r.nxt H = true →
    ∃ (ρ' : Env) (w' : World) (nx : Next), (execOp a.eval o).run P w = .ok nx w' ∧ (nx = .value (r.val.den ρ') ∨ (nx = .skip ∧ r.val.den ρ' = undef)) ∧
      Agr n r.nxt ρ ρ' ∧ allH ρ' r.facts ∧ HD C ρ' (r.log ++ H) w'

theorem OpOK2.pure {P : Program} {o : Oper} {c : BE} {R H : Log} {n : Nat} {vcs : List F} {s : SV}
    (h : ∀ (C : Ctx) (nt : Nat) (ρ : Env) (a : Act) (w : World), HD C ρ H w → RD nt ρ R a → c.den ρ = true → allH ρ vcs → (execOp a.eval o).run P w = .ok (.value (s.den ρ)) w) :
    OpOK2 P o c R H n ⟨vcs, [], s, [], n⟩ :=
  fun C nt ρ a w HH RR hc hv _ => ⟨ρ, w, _, h C nt ρ a w HH RR hc hv, .inl rfl, Agr.refl _ _ _, allH_nil _, HH⟩

def pureR (n : Nat) : Option SV → Option OR
  | some s => some ⟨[], [], s, [], n⟩
  | none => none
def pureV (n : Nat) : Option (List F × SV) → Option OR
  | some (v, s) => some ⟨v, [], s, [], n⟩
  | none => none

def sNil (s : SV) : Option SV :=
  match s with
  | .ptr p => some (.ptr p)
  | .fn (.func f) a c => some (.fn (.func f) a c)
  | _ => none

def sPick (R : Log) (c : BE) (q x y : Operand) : Option SV :=
  match sev R c q with
  | some (.b (.lit true)) => sev R c x
  | some (.b (.lit false)) => sev R c y
  | some (.b e) => match sev R (mkAnd c e) x, sev R (mkAnd c (mkNot e)) y with
    | some s, some t => phiV e s t
    | _, _ => none
  | _ => none

def sBuiltin (P : Program) (R H : Log) (c : BE) (n : Nat) (b : Builtin) (ts : Array TypeId) (args : List Operand) : Option OR :=
  match b, sevs R c args with
  | .len, some [x] => match ts[0]? with
    | some t => pureR n (sLen P H t x)
    | none => none
  | .max, some l => pureR n (sMM true l)
  | .min, some l => pureR n (sMM false l)
  | _, _ => none

def sParts (R : Log) (c : BE) : List (Nat × Operand) → Option (List (Nat × SV))
  | [] => some []
  | (i, x) :: r => match sev R c x, sParts R c r with
    | some s, some l => some ((i, s) :: l)
    | _, _ => none
theorem sParts_den {nt : Nat} {ρ : Env} {R : Log} {a : Act} (h : RD nt ρ R a) {c : BE} (hc : c.den ρ = true) : ∀ {ps : List (Nat × Operand)} {l : List (Nat × SV)}, sParts R c ps = some l →
    ps.map (fun x => (x.1, a.eval x.2)) = l.map fun x => (x.1, x.2.den ρ)
  | [], l, hs => by simp only [sParts] at hs; obtain rfl := Option.some.inj hs; rfl
  | (i, x) :: r, l, hs => by
    simp only [sParts] at hs
    split at hs
    · rename_i s l' h1 h2
      obtain rfl := Option.some.inj hs
      simp only [List.map_cons, sev_den h hc h1, sParts_den h hc h2]
    · cases hs

def sop (P : Program) (R H : Log) (n : Nat) (c : BE) (o : Op) : Option OR :=
  match o with
  | .move x => pureR n (sev R c x)
  | .assign x => pureR n (sev R c x)
  | .pick q x y => pureR n (sPick R c q x y)
  | .alloc t => match zrOf P t with
    | some z => sBox n t (ofValue z)
    | none => none
  | .box t x => match sev R c x with
    | some s => sBox n t s
    | none => none
  | .build t ps => match sParts R c ps.toList with
    | some l => pureR n (sBuild P t l)
    | none => none
  | .load t x => match sev R c x with
    | some s => pureV n (sLoad P H t s)
    | none => none
  | .store t x y => match sev R c x, sev R c y with
    | some s, some v => match sStore P H t s v with
      | some (f, k, e) => some ⟨f, [], .tup [], [(k, e)], n⟩
      | none => none
    | _, _ => none
  | .nilCheck x => match sev R c x with
    | some s => pureR n (sNil s)
    | none => none
  | .binOp op t x y _ => match sev R c x, sev R c y with
    | some s, some v => pureV n (sBin P op t s v)
    | _, _ => none
  | .unOp op _ x => match sev R c x with
    | some s => pureR n (sUn op s)
    | none => none
  | .convert t u x => match sev R c x with
    | some s => pureR n (sConv P t u s)
    | none => none
  | .fieldAddr t x f => match sev R c x with
    | some s => pureR n (sField P t s f)
    | none => none
  | .indexAddr t x y => match sev R c x, sev R c y with
    | some s, some v => pureV n (sIndex P H t s v)
    | _, _ => none
  | .extract x i => match sev R c x with
    | some s => pureR n (sExt s i)
    | none => none
  | .makeFunc f a b => match sevs R c a.toList, sevs R c b.toList with
    | some l, some m => some ⟨[], [], .fn f l m, [], n⟩
    | _, _ => none
  | .call { callee := .builtin b, args, argTypes } => sBuiltin P R H c n b argTypes args.toList
  | _ => none

theorem pureR_inv {n : Nat} {x : Option SV} {r : OR} (h : pureR n x = some r) : ∃ s, x = some s ∧ r = ⟨[], [], s, [], n⟩ := by
  cases x with
  | none => cases h
  | some s => exact ⟨s, rfl, (Option.some.inj h).symm⟩
theorem pureV_inv {n : Nat} {x : Option (List F × SV)} {r : OR} (h : pureV n x = some r) : ∃ v s, x = some (v, s) ∧ r = ⟨v, [], s, [], n⟩ := by
  cases x with
  | none => cases h
  | some s => exact ⟨s.1, s.2, rfl, (Option.some.inj h).symm⟩

theorem sPick_den {nt : Nat} {ρ : Env} {R : Log} {a : Act} (h : RD nt ρ R a) {c : BE} (hc : c.den ρ = true) {q x y : Operand} {s : SV} (hs : sPick R c q x y = some s) :
    ∃ b, a.eval q = .bool b ∧ (if b then a.eval x else a.eval y) = s.den ρ := by
  unfold sPick at hs
  split at hs
  · rename_i hq; exact ⟨true, by rw [sev_den h hc hq]; rfl, by simp only [if_true]; exact sev_den h hc hs⟩
  · rename_i hq; exact ⟨false, by rw [sev_den h hc hq]; rfl, by simp only [Bool.false_eq_true, if_false]; exact sev_den h hc hs⟩
  · rename_i e _ _ hq
    split at hs
    · rename_i s1 t1 h1 h2
      refine ⟨e.den ρ, by rw [sev_den h hc hq]; rfl, ?_⟩
      rw [phiV_den hs]
      cases he : e.den ρ
      · have : (mkAnd c (mkNot e)).den ρ = true := by rw [mkAnd_den, mkNot_den, hc, he]; rfl
        simp only [Bool.false_eq_true, if_false]; exact sev_den h this h2
      · have : (mkAnd c e).den ρ = true := by rw [mkAnd_den, hc, he]; rfl
        simp only [if_true]; exact sev_den h this h1
    · cases hs
  · cases hs

theorem sNil_run {s x : SV} (h : sNil s = some x) (ρ : Env) : x = s ∧ ((∃ p, s.den ρ = .pointer (some p)) ∨ ∃ f a c, s.den ρ = .func (.func f) a c) := by
  unfold sNil at h
  split at h
  · obtain rfl := Option.some.inj h; exact ⟨rfl, .inl ⟨_, rfl⟩⟩
  · obtain rfl := Option.some.inj h; exact ⟨rfl, .inr ⟨_, _, _, rfl⟩⟩
  · cases h

theorem sop_ok {P : Program} {R H : Log} {n : Nat} {c : BE} {o : Oper} {r : OR} (h : sop P R H n c o.op = some r) : OpOK2 P o c R H n r := by
  unfold sop at h
  split at h
  · rename_i x ho
    obtain ⟨s, hs, rfl⟩ := pureR_inv h
    exact .pure fun C nt ρ a w HH RR hc hv => by simp only [execOp, ho, sev_den RR hc hs, Sem.run_pure]
  · rename_i x ho
    obtain ⟨s, hs, rfl⟩ := pureR_inv h
    exact .pure fun C nt ρ a w HH RR hc hv => by simp only [execOp, ho, sev_den RR hc hs, Sem.run_pure]
  · rename_i q x y ho
    obtain ⟨s, hs, rfl⟩ := pureR_inv h
    refine .pure fun C nt ρ a w HH RR hc hv => ?_
    obtain ⟨b, hb, he⟩ := sPick_den RR hc hs
    simp only [execOp, ho, hb, asBool, Sem.run_bind, Sem.run_pure, Result.andThen_ok, ← he]
  · rename_i t ho
    split at h
    · rename_i z hz
      intro C nt ρ a w HH RR hc hv hL
      obtain ⟨ρ', w', hrun, hvc, hfs, hval, hagr, hd⟩ := sBox_run (P := P) HH h hL
      refine ⟨ρ', w', _, ?_, .inl rfl, hagr, by rw [hfs]; exact allH_nil _, hd⟩
      rw [ofValue_den] at hrun
      simp only [execOp, ho, Instr.alloc, Sem.run_bind, run_zero' w hz, Result.andThen_ok, hrun, Sem.run_pure, hval, SV.den, PT.addr]
    · cases h
  · rename_i t x ho
    split at h
    · rename_i s hs
      intro C nt ρ a w HH RR hc hv hL
      obtain ⟨ρ', w', hrun, hvc, hfs, hval, hagr, hd⟩ := sBox_run (P := P) HH h hL
      refine ⟨ρ', w', _, ?_, .inl rfl, hagr, by rw [hfs]; exact allH_nil _, hd⟩
      simp only [execOp, ho, Instr.box, sev_den RR hc hs, Sem.run_bind, hrun, Result.andThen_ok, Sem.run_pure, hval, SV.den, PT.addr]
    · cases h
  · rename_i t ps ho
    split at h
    · rename_i l hl
      obtain ⟨s, hs, rfl⟩ := pureR_inv h
      refine .pure fun C nt ρ a w HH RR hc hv => ?_
      have hp : (ps.map fun x => (x.1, a.eval x.2)) = (l.map fun x => (x.1, x.2.den ρ)).toArray := by
        rw [← sParts_den RR hc hl, map_arr]
      have := sBuild_run (P := P) hs ρ w
      simp only [execOp, ho, Sem.run_bind]
      rw [show (Array.map (fun x => match x with | (i, x) => (i, a.eval x)) ps) = (ps.map fun x => (x.1, a.eval x.2)) from rfl, hp, this]
      rfl
    · cases h
  · rename_i t x ho
    split at h
    · rename_i s hs
      obtain ⟨v, s', hs', rfl⟩ := pureV_inv h
      refine .pure fun C nt ρ a w HH RR hc hv => ?_
      simp only [execOp, ho, sev_den RR hc hs, Sem.run_bind, sLoad_run HH hs' hv, Result.andThen_ok, Sem.run_pure]
    · cases h
  · rename_i t x y ho
    split at h
    · rename_i s v hs hv'
      split at h
      · rename_i f k e hst
        obtain rfl := Option.some.inj h
        intro C nt ρ a w HH RR hc hv hL
        obtain ⟨w', hrun, hd⟩ := sStore_run HH hst hv
        refine ⟨ρ, w', .skip, ?_, .inr ⟨rfl, rfl⟩, Agr.refl _ _ _, allH_nil _, hd⟩
        simp only [execOp, ho, sev_den RR hc hs, sev_den RR hc hv', Sem.run_bind, hrun, Result.andThen_ok, Sem.run_pure]
      · cases h
    · cases h
  · rename_i x ho
    split at h
    · rename_i s hs
      obtain ⟨s', hs', rfl⟩ := pureR_inv h
      refine .pure fun C nt ρ a w HH RR hc hv => ?_
      obtain ⟨rfl, hp⟩ := sNil_run hs' ρ
      simp only [execOp, ho, sev_den RR hc hs]
      rcases hp with ⟨p, hp⟩ | ⟨f, a1, c1, hp⟩ <;> rw [hp] <;> rfl
    · cases h
  · rename_i op t x y ty ho
    split at h
    · rename_i s v hs hv'
      obtain ⟨f, s', hs', rfl⟩ := pureV_inv h
      refine .pure fun C nt ρ a w HH RR hc hv => ?_
      have := sBin_run (P := P) hs' hv x y w
      simp only [execOp, ho, sev_den RR hc hs, sev_den RR hc hv']
      rw [Sem.run_bind, this]; rfl
    · cases h
  · rename_i op t x ho
    split at h
    · rename_i s hs
      obtain ⟨s', hs', rfl⟩ := pureR_inv h
      refine .pure fun C nt ρ a w HH RR hc hv => ?_
      simp only [execOp, ho, sev_den RR hc hs, Sem.run_bind, sUn_run hs', Result.andThen_ok, Sem.run_pure]
    · cases h
  · rename_i t u x ho
    split at h
    · rename_i s hs
      obtain ⟨s', hs', rfl⟩ := pureR_inv h
      refine .pure fun C nt ρ a w HH RR hc hv => ?_
      simp only [execOp, ho, sev_den RR hc hs, Sem.run_bind, sConv_run hs', Result.andThen_ok, Sem.run_pure]
    · cases h
  · rename_i t x f ho
    split at h
    · rename_i s hs
      obtain ⟨s', hs', rfl⟩ := pureR_inv h
      refine .pure fun C nt ρ a w HH RR hc hv => ?_
      simp only [execOp, ho, sev_den RR hc hs, Sem.run_bind, sField_run hs', Result.andThen_ok, Sem.run_pure]
    · cases h
  · rename_i t x y ho
    split at h
    · rename_i s v hs hv'
      obtain ⟨f, s', hs', rfl⟩ := pureV_inv h
      refine .pure fun C nt ρ a w HH RR hc hv => ?_
      simp only [execOp, ho, sev_den RR hc hs, sev_den RR hc hv', Sem.run_bind, sIndex_run HH hs' hv, Result.andThen_ok, Sem.run_pure]
    · cases h
  · rename_i x i ho
    split at h
    · rename_i s hs
      obtain ⟨s', hs', rfl⟩ := pureR_inv h
      refine .pure fun C nt ρ a w HH RR hc hv => ?_
      unfold sExt at hs'
      split at hs'
      · rename_i l
        have hd : a.eval x = .tuple (l.map (SV.den ρ)).toArray := by rw [sev_den RR hc hs]; simp only [SV.den, SV.dens_eq]
        simp [execOp, ho, hd, Instr.extract, hs']
      · cases hs'
    · cases h
  · rename_i f a1 b1 ho
    split at h
    · rename_i l m hl hm
      obtain rfl := Option.some.inj h
      refine .pure fun C nt ρ a w HH RR hc hv => ?_
      have e1 : a1.map a.eval = (l.map (SV.den ρ)).toArray := by rw [← sevs_den RR hc hl, map_arr]
      have e2 : b1.map a.eval = (m.map (SV.den ρ)).toArray := by rw [← sevs_den RR hc hm, map_arr]
      simp only [execOp, ho, Instr.makeFunc, Sem.run_bind, Sem.run_pure, Result.andThen_ok, e1, e2, SV.den, SV.dens_eq]
    · cases h
  · rename_i b args ts ho
    unfold sBuiltin at h
    split at h
    · rename_i x hx
      split at h
      · rename_i t ht
        obtain ⟨s, hs, rfl⟩ := pureR_inv h
        refine .pure fun C nt ρ a w HH RR hc hv => ?_
        have e1 : args.map a.eval = #[x.den ρ] := by
          have := sevs_den RR hc hx
          rw [← Array.toArray_toList (xs := args)]; simp only [List.map_toArray, this]; rfl
        have := sLen_run (P := P) HH hs ts o.type ht
        simp only [execOp, ho, resolve, Sem.run_bind, Sem.run_pure, Result.andThen_ok, invoke, builtin, e1, this]
      · cases h
    · rename_i l hl
      obtain ⟨s, hs, rfl⟩ := pureR_inv h
      refine .pure fun C nt ρ a w HH RR hc hv => ?_
      have e1 : args.map a.eval = (l.map (SV.den ρ)).toArray := by rw [← sevs_den RR hc hl, map_arr]
      have := sMM_run (P := P) (ρ := ρ) w hs ts o.type
      simp only [if_true] at this
      simp only [execOp, ho, resolve, Sem.run_bind, Sem.run_pure, Result.andThen_ok, invoke, builtin, e1, this]
    · rename_i l hl
      obtain ⟨s, hs, rfl⟩ := pureR_inv h
      refine .pure fun C nt ρ a w HH RR hc hv => ?_
      have e1 : args.map a.eval = (l.map (SV.den ρ)).toArray := by rw [← sevs_den RR hc hl, map_arr]
      have := sMM_run (P := P) (ρ := ρ) w hs ts o.type
      simp only [Bool.false_eq_true, if_false] at this
      simp only [execOp, ho, resolve, Sem.run_bind, Sem.run_pure, Result.andThen_ok, invoke, builtin, e1, this]
    · cases h
  · cases h
end Go.Proofs.Ytcegefhjgkoknaa.E
