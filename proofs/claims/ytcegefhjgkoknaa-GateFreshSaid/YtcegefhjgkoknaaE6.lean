/- The engine, part 6: operations that call nothing. -/
import Derived.Test.YtcegefhjgkoknaaE5
namespace Go.Proofs.Ytcegefhjgkoknaa.E
open Go.RowKit
set_option linter.unusedVariables false
set_option linter.unusedSimpArgs false

structure OR where
  vcs : List F
  facts : List F
  val : SV
  log : Log
  nxt : Nat

/-- What an operation that calls nothing does, if it is as told. -/
def OpOK (P : Program) (o : Oper) (c : BE) (L : Log) (n : Nat) (r : OR) : Prop :=
  ∀ (C : Ctx) (nt : Nat) (ρ : Env) (a : Act) (w : World), HD C ρ L w → RD nt ρ L a → c.den ρ = true → allH ρ r.vcs → Log.avo n r.nxt L = true →
    ∃ (ρ' : Env) (w' : World) (nx : Next), (execOp a.eval o).run P w = .ok nx w' ∧ (nx = .value (r.val.den ρ') ∨ (nx = .skip ∧ r.val.den ρ' = undef)) ∧
      Agr n r.nxt ρ ρ' ∧ allH ρ' r.facts ∧ HD C ρ' (r.log ++ L) w'

/-- Of an operation that only computes. -/
theorem OpOK.pure {P : Program} {o : Oper} {c : BE} {L : Log} {n : Nat} {vcs : List F} {s : SV}
    (h : ∀ (C : Ctx) (nt : Nat) (ρ : Env) (a : Act) (w : World), HD C ρ L w → RD nt ρ L a → c.den ρ = true → allH ρ vcs → (execOp a.eval o).run P w = .ok (.value (s.den ρ)) w) :
    OpOK P o c L n ⟨vcs, [], s, [], n⟩ :=
  fun C nt ρ a w H R hc hv _ => ⟨ρ, w, _, h C nt ρ a w H R hc hv, .inl rfl, Agr.refl _ _ _, allH_nil _, H⟩

def szOf (P : Program) (t : TypeId) : Option Nat := (P.info? t).map (·.size)
def zrOf (P : Program) (t : TypeId) : Option Value := (P.info? t).bind (·.zero)
def aggQ (P : Program) (t : TypeId) : Option Bool :=
  match P.underlying t with
  | some (.struct _) => some true
  | some (.array _ _) => some true
  | some _ => some false
  | none => none
section
variable {P : Program} {t : TypeId} (w : World)
theorem run_sizeOf' {z : Nat} (h : szOf P t = some z) : (sizeOf t).run P w = .ok z w := by
  unfold szOf at h
  cases hi : P.info? t with
  | none => rw [hi] at h; cases h
  | some i => rw [hi] at h; obtain rfl := Option.some.inj h; simp [sizeOf, typeInfo, hi]
theorem run_und {d : TypeDesc} (h : P.underlying t = some d) : (underlying t).run P w = .ok d w := by simp [underlying, h]
theorem run_zero' {v : Value} (h : zrOf P t = some v) : (zeroValue t).run P w = .ok v w := by
  unfold zrOf at h
  cases hi : P.info? t with
  | none => rw [hi] at h; cases h
  | some i => rw [hi] at h; simp only [Option.bind_some] at h; simp [zeroValue, typeInfo, hi, h]
theorem run_agg {b : Bool} (h : aggQ P t = some b) : (isAgg t).run P w = .ok b w := by
  unfold aggQ at h
  cases hu : P.underlying t with
  | none => rw [hu] at h; cases h
  | some d =>
    rw [hu] at h
    simp only [isAgg, Sem.run_bind, run_und w hu, Result.andThen]
    cases d <;> simp only [Option.some.injEq] at h <;> subst h <;> rfl
end

/-! new blocks -/
def setK (ρ : Env) (n b : Nat) : Env := { ρ with k := fun v => if v = n then b else ρ.k v }
theorem setK_agr (ρ : Env) (n b : Nat) : Agr n (n + 1) ρ (setK ρ n b) := by
  constructor <;> intro v hv <;> first | rfl | (simp only [setK]; rw [if_neg (by omega)])
theorem setK_k (ρ : Env) (n b : Nat) : (setK ρ n b).k n = b := by simp [setK]

theorem HD.new {C : Ctx} {ρ : Env} {L : Log} {w : World} (H : HD C ρ L w) {n : Nat} (hL : Log.avo n (n + 1) L = true) {r : Row} {o : Obj}
    (hown : ∀ c, r.owns (setK ρ n w.heap.size) n c → c = w.heap.size) (hh : r.holds (setK ρ n w.heap.size) n (w.alloc o)) :
    HD C (setK ρ n w.heap.size) ((.h n, .row true r) :: L) (w.alloc o) := by
  have H' := H.agr (setK_agr ρ n w.heap.size) hL
  have hlt : ∀ {id o r b}, look (.h id) L = some (.row o r) → r.owns (setK ρ n w.heap.size) id b → b < w.heap.size := fun hl hb => Row.holds_lt (H'.rows _ _ _ hl) hb
  have hk : ∀ c, C.keep c → c < w.heap.size := fun c hc => Nat.lt_of_lt_of_le (H.fr.keep c hc).1 H.fr.size
  refine ⟨fun id2 o2 r2 h2 => ?_, fun id2 r2 h2 c hc => ?_, fun id2 r2 h2 c hc => ?_, fun i j r1 r2 hij h1 h2 c hc1 hc2 => ?_, ⟨H.fr.os, H.fr.tape, H.fr.output, by simp; exact Nat.le_succ_of_le H.fr.size, fun c hc => ?_⟩⟩
  · rw [look_cons] at h2
    by_cases he : Key.h n = Key.h id2
    · rw [if_pos he] at h2
      obtain ⟨rfl, rfl⟩ := Ent.row.inj (Option.some.inj h2)
      obtain rfl := Key.h.inj he
      exact hh
    · rw [if_neg he] at h2
      exact Row.holds_same (H'.rows id2 o2 r2 h2) fun c hc => Below.heap_alloc _ _ _ (hlt h2 hc)
  · rw [look_cons] at h2
    by_cases he : Key.h n = Key.h id2
    · rw [if_pos he] at h2
      obtain ⟨_, rfl⟩ := Ent.row.inj (Option.some.inj h2)
      obtain rfl := Key.h.inj he
      intro hkc
      have := hk c hkc
      rw [hown c hc] at this
      omega
    · rw [if_neg he] at h2; exact H'.own id2 r2 h2 c hc
  · rw [look_cons] at h2
    by_cases he : Key.h n = Key.h id2
    · rw [if_pos he] at h2
      have := (Ent.row.inj (Option.some.inj h2)).1
      cases this
    · rw [if_neg he] at h2; exact H'.ro id2 r2 h2 c hc
  · rw [look_cons] at h1 h2
    by_cases he1 : Key.h n = Key.h i
    · obtain rfl := Key.h.inj he1
      rw [if_pos rfl] at h1
      obtain ⟨_, rfl⟩ := Ent.row.inj (Option.some.inj h1)
      rw [if_neg (fun e => hij (Key.h.inj e))] at h2
      have := hlt h2 hc2
      rw [hown c hc1] at this
      omega
    · rw [if_neg he1] at h1
      by_cases he2 : Key.h n = Key.h j
      · obtain rfl := Key.h.inj he2
        rw [if_pos rfl] at h2
        obtain ⟨_, rfl⟩ := Ent.row.inj (Option.some.inj h2)
        have := hlt h1 hc1
        rw [hown c hc2] at this
        omega
      · rw [if_neg he2] at h2
        exact H'.sep i j r1 r2 hij h1 h2 c hc1 hc2
  · have := H.fr.keep c hc
    exact ⟨this.1, by rw [Below.heap_alloc _ _ _ (hk c hc)]; exact this.2⟩

/-- A new block of cells that are all known. -/
theorem HD.newCells {C : Ctx} {ρ : Env} {L : Log} {w : World} (H : HD C ρ L w) {n : Nat} (hL : Log.avo n (n + 1) L = true) {e : TypeId} {l : List SV} (hl : SV.avos n (n + 1) l = true) :
    HD C (setK ρ n w.heap.size) ((.h n, .row true (.cells e l)) :: L) (w.alloc (.cells (l.map (SV.den ρ)).toArray e)) := by
  refine H.new hL (fun c hc => by simp only [Row.owns, setK_k] at hc; exact hc) ?_
  simp only [Row.holds, setK_k, ← SV.dens_eq, SV.dens_agr (setK_agr ρ n w.heap.size) l hl]
  show (w.heap.push _)[w.heap.size]? = _
  rw [Array.getElem?_push_size]

def SV.cells : SV → Option (List SV)
  | .agg l => some l
  | .tup _ | .opq _ | .lst _ | .yv _ _ => none
  | .con v => match v with
    | .agg _ => none
    | v => some [.con v]
  | s => some [s]
theorem SV.cells_den {ρ : Env} {s : SV} {l : List SV} (h : s.cells = some l) : (s.den ρ).cells = (l.map (SV.den ρ)).toArray := by
  cases s <;> simp only [SV.cells] at h <;> first
    | (cases h; done)
    | (obtain rfl := Option.some.inj h; simp [SV.den, Value.cells, SV.dens_eq]; done)
    | skip
  rename_i v
  split at h
  · cases h
  · obtain rfl := Option.some.inj h
    rename_i hv
    simp only [SV.den, List.map_cons, List.map_nil]
    cases v <;> first | rfl | (exact absurd rfl (hv _))

def sBox (n : Nat) (e : TypeId) (s : SV) : Option OR :=
  match s.cells with
  | some l => bif SV.avos n (n + 1) l then some ⟨[], [], .ptr (.at n 0), [(.h n, .row true (.cells e l))], n + 1⟩ else none
  | none => none
theorem sBox_run {P : Program} {C : Ctx} {ρ : Env} {L : Log} {w : World} (H : HD C ρ L w) {n : Nat} {e : TypeId} {s : SV} {r : OR} (h : sBox n e s = some r) (hL : Log.avo n r.nxt L = true) :
    ∃ ρ' w', (newVar e (s.den ρ)).run P w = .ok ⟨ρ'.k n, 0, none⟩ w' ∧ r.vcs = [] ∧ r.facts = [] ∧ r.val = .ptr (.at n 0) ∧ Agr n r.nxt ρ ρ' ∧ HD C ρ' (r.log ++ L) w' := by
  unfold sBox at h
  split at h
  · rename_i l hl
    cases hb : SV.avos n (n + 1) l
    · rw [hb] at h; cases h
    · rw [hb] at h
      obtain rfl := Option.some.inj h
      refine ⟨setK ρ n w.heap.size, w.alloc (.cells (l.map (SV.den ρ)).toArray e), ?_, rfl, rfl, rfl, setK_agr _ _ _, H.newCells hL hb⟩
      simp only [newVar, newRow, SV.cells_den hl, Sem.run_bind, run_newObj, Result.andThen, Sem.run_pure, setK_k, World.alloc]
  · cases h

def sLoad (P : Program) (L : Log) (t : TypeId) (s : SV) : Option (List F × SV) :=
  match s, aggQ P t with
  | .ptr p, some true =>
    match szOf P t with
    | some z => match rd L p z with
      | some (v, l) => some (v, .agg l)
      | none => none
    | none => none
  | .ptr p, some false =>
    match rd L p 1 with
    | some (v, [x]) => some (v, x)
    | _ => none
  | _, _ => none
theorem sLoad_run {P : Program} {C : Ctx} {ρ : Env} {L : Log} {w : World} (H : HD C ρ L w) {t : TypeId} {s x : SV} {v : List F} (h : sLoad P L t s = some (v, x)) (hv : allH ρ v) :
    (Instr.loadAt t (s.den ρ)).run P w = .ok (x.den ρ) w := by
  unfold sLoad at h
  split at h
  · rename_i p ha
    split at h
    · rename_i z hz
      split at h
      · rename_i v' l hr
        obtain ⟨rfl, rfl⟩ := Prod.mk.inj (Option.some.inj h)
        obtain ⟨hlen, hc⟩ := rd_cells H hr hv
        simp only [SV.den, Instr.loadAt, Instr.sureAddr, Sem.run_bind, Sem.run_pure, Result.andThen, loadVar, run_agg w ha, if_true, run_sizeOf' w hz]
        have := run_loadCells_list (P := P) w (p.addr ρ) (l.map (SV.den ρ)) (fun j v hj => by
          rw [List.getElem?_map] at hj
          cases hl : l[j]? with
          | none => rw [hl] at hj; cases hj
          | some s' => rw [hl] at hj; obtain rfl := Option.some.inj hj; exact hc j s' hl)
        rw [List.length_map, hlen] at this
        rw [this]
        simp only [SV.dens_eq]
      · cases h
    · cases h
  · rename_i p ha
    split at h
    · rename_i v' x' hr
      obtain ⟨rfl, rfl⟩ := Prod.mk.inj (Option.some.inj h)
      obtain ⟨hlen, hc⟩ := rd_cells H hr hv
      have h0 := hc 0 x' rfl
      have ha0 : (p.addr ρ).add 0 = p.addr ρ := by cases p <;> rfl
      rw [ha0] at h0
      simp only [SV.den, Instr.loadAt, Instr.sureAddr, Sem.run_bind, Sem.run_pure, Result.andThen, loadVar, run_agg w ha, Bool.false_eq_true, if_false, run_load, h0]
    · cases h
  · cases h

def sStore (P : Program) (L : Log) (t : TypeId) (s x : SV) : Option (List F × Key × Ent) :=
  match s, x.cells, szOf P t with
  | .ptr p, some l, some z =>
    bif Nat.beq l.length z then
      match wr L p l with
      | some (v, id, r) => some (v, .h id, .row true r)
      | none => none
    else none
  | _, _, _ => none
theorem sStore_run {P : Program} {C : Ctx} {ρ : Env} {L : Log} {w : World} (H : HD C ρ L w) {t : TypeId} {s x : SV} {v : List F} {k : Key} {e : Ent} (h : sStore P L t s x = some (v, k, e)) (hv : allH ρ v) :
    ∃ w', (Instr.storeAt t (s.den ρ) (x.den ρ)).run P w = .ok () w' ∧ HD C ρ ((k, e) :: L) w' := by
  unfold sStore at h
  split at h
  · rename_i p l z hl hz
    cases hb : Nat.beq l.length z
    · rw [hb] at h; cases h
    · rw [hb] at h
      simp only [cond_true] at h
      split at h
      · rename_i v' id r hw
        obtain ⟨rfl, h'⟩ := Prod.mk.inj (Option.some.inj h)
        obtain ⟨rfl, rfl⟩ := Prod.mk.inj h'
        obtain ⟨w', hrun, hd⟩ := wr_run H hw hv P
        refine ⟨w', ?_, hd⟩
        have hsz : ((x.den ρ).cells).size = z := by rw [SV.cells_den hl, List.size_toArray, List.length_map]; exact Nat.eq_of_beq_eq_true hb
        simp only [SV.den, Instr.storeAt, Instr.sureAddr, Sem.run_bind, Sem.run_pure, Result.andThen, storeVar, run_sizeOf' w hz, hsz, ne_eq, not_true_eq_false, if_false]
        rw [SV.cells_den hl]
        exact hrun
      · cases h
  · cases h

/-! addresses -/
def PT.plus (k : Nat) : PT → PT
  | .at id o => .at id (o + k)
  | .ax id o i z => .ax id (o + k) i z
  | .fm f i o => .fm f i (o + k)
  | .el id i z o => .el id i z (o + k)
theorem PT.plus_addr (ρ : Env) (k : Nat) (p : PT) : (p.plus k).addr ρ = (p.addr ρ).add k := by
  cases p <;> simp only [PT.plus, PT.addr, add_none]
  · congr 1; omega
  · congr 1; omega
def PT.idx (p : PT) (i : IE) (z : Nat) : Option PT :=
  match p with
  | .at id o => match i with
    | .lit (.ofNat n) => some (.at id (o + n * z))
    | _ => some (.ax id o i z)
  | .ax id o j y => bif Nat.beq y z then some (.ax id o (mkAdd (mkNat j) (mkNat i)) z) else none
  | .fm _ _ _ => none
  | .el _ _ _ _ => none
theorem PT.idx_addr {ρ : Env} {p q : PT} {i : IE} {z : Nat} (h : p.idx i z = some q) : q.addr ρ = (p.addr ρ).add ((i.den ρ).toNat * z) := by
  cases p with
  | «at» id o =>
    simp only [PT.idx] at h
    split at h
    · obtain rfl := Option.some.inj h; simp only [PT.addr, add_none, IE.den]; rfl
    · obtain rfl := Option.some.inj h; simp only [PT.addr, add_none]
  | ax id o j y =>
    simp only [PT.idx] at h
    cases hb : Nat.beq y z
    · rw [hb] at h; cases h
    · rw [hb] at h
      obtain rfl := Option.some.inj h
      have := Nat.eq_of_beq_eq_true hb
      subst this
      simp only [PT.addr, add_none, mkAdd_den, mkNat_den]
      congr 1
      rw [show ((((j.den ρ).toNat : Int) + ((i.den ρ).toNat : Int))).toNat = (j.den ρ).toNat + (i.den ρ).toNat by omega, Nat.add_mul]
      omega
  | fm a b c => cases h
  | el a b c d => cases h

def sField (P : Program) (t : TypeId) (s : SV) (f : Nat) : Option SV :=
  match P.underlying t, s with
  | some (.struct fs), .ptr p =>
    match fs[f]? with
    | some fd => match szOf P fd.type with
      | some z => bif Nat.beq z 0 then none else some (.ptr (p.plus fd.offset))
      | none => none
    | none => none
  | _, _ => none
theorem sField_run {P : Program} {t : TypeId} {s x : SV} {f : Nat} (h : sField P t s f = some x) (ρ : Env) (w : World) : (Instr.fieldAt t (s.den ρ) f).run P w = .ok (x.den ρ) w := by
  unfold sField at h
  split at h
  · rename_i fs p hu
    split at h
    · rename_i fd hf
      split at h
      · rename_i z hz
        cases hb : Nat.beq z 0
        · rw [hb] at h
          obtain rfl := Option.some.inj h
          have hz0 : ¬ z = 0 := fun e => by rw [e] at hb; cases hb
          simp only [SV.den, Instr.fieldAt, Sem.run_bind, run_und w hu, Result.andThen, hf, Instr.sureAddr, Sem.run_pure, fieldPlace, run_sizeOf' w hz, if_neg hz0, Sem.run_ite, PT.plus_addr]
        · rw [hb] at h; cases h
      · cases h
    · cases h
  · cases h

def sIndex (P : Program) (L : Log) (t : TypeId) (s i : SV) : Option (List F × SV) :=
  match i with
  | .int k ie =>
    match P.underlying t, s with
    | some (.slice el), .sl p n _ =>
      match szOf P el with
      | some z => match p.idx ie z with
        | some q => some ([.be (.cmp .leq (.lit 0) ie), .be (.cmp .lss ie (mkNat n))], .ptr q)
        | none => none
      | none => none
    | some (.array len el), .ptr p =>
      match szOf P el with
      | some z => match p.idx ie z with
        | some q => some ([.be (.cmp .leq (.lit 0) ie), .be (.cmp .lss ie (.lit (len : Nat)))], .ptr q)
        | none => none
      | none => none
    | some (.slice el), .lst id =>
      match szOf P el, look (.h id) L with
      | some z, some (.row _ (.lst _ _ n _)) => some ([.be (.cmp .leq (.lit 0) ie), .be (.cmp .lss ie (mkNat n))], .ptr (.el id ie z 0))
      | _, _ => none
    | _, _ => none
  | _ => none
theorem leq_den {ρ : Env} {a b : IE} (h : (F.be (.cmp .leq a b)).holds ρ) : a.den ρ ≤ b.den ρ := by
  simpa [F.holds, BE.den, cmpI] using h
theorem sIndex_run {P : Program} {C : Ctx} {L : Log} {t : TypeId} {s i x : SV} {v : List F} {ρ : Env} {w : World} (H : HD C ρ L w) (h : sIndex P L t s i = some (v, x)) (hv : allH ρ v) : (Instr.indexAt t (s.den ρ) (i.den ρ)).run P w = .ok (x.den ρ) w := by
  unfold sIndex at h
  split at h
  · rename_i k ie
    split at h
    · rename_i el p n cp hu
      split at h
      · rename_i z hz
        split at h
        · rename_i q hq
          obtain ⟨rfl, rfl⟩ := Prod.mk.inj (Option.some.inj h)
          have h1 := leq_den (allH_cons.1 hv).1
          have h2 := lss_den (allH_cons.1 (allH_cons.1 hv).2).1
          simp only [IE.den, mkNat_den] at h1 h2
          simp only [SV.den, Instr.indexAt, asIntOf, Sem.run_bind, Sem.run_pure, Result.andThen, run_und w hu]
          rw [PT.idx_addr hq, if_pos ⟨h1, h2⟩]
          simp only [Sem.run_bind, run_sizeOf' w hz, Result.andThen, Sem.run_pure]
        · cases h
      · cases h
    · rename_i len el p hu
      split at h
      · rename_i z hz
        split at h
        · rename_i q hq
          obtain ⟨rfl, rfl⟩ := Prod.mk.inj (Option.some.inj h)
          have h1 := leq_den (allH_cons.1 hv).1
          have h2 := lss_den (allH_cons.1 (allH_cons.1 hv).2).1
          simp only [IE.den, mkNat_den] at h1 h2
          simp only [SV.den, Instr.indexAt, asIntOf, Sem.run_bind, Sem.run_pure, Result.andThen, run_und w hu, Instr.sureAddr]
          rw [PT.idx_addr hq, if_pos ⟨h1, h2⟩]
          simp only [Sem.run_bind, run_sizeOf' w hz, Result.andThen, Sem.run_pure]
        · cases h
      · cases h
    · rename_i el id hu
      split at h
      · rename_i z o e ks n le hz hl
        obtain ⟨rfl, rfl⟩ := Prod.mk.inj (Option.some.inj h)
        have h1 := leq_den (allH_cons.1 hv).1
        have h2 := lss_den (allH_cons.1 (allH_cons.1 hv).2).1
        simp only [IE.den, mkNat_den] at h1 h2
        have hh := H.rows id o _ hl
        cases hb : ρ.b id
        · have := (hh.1 hb).1
          omega
        · obtain ⟨cs, c, hx, _⟩ := hh.2 hb
          simp only [SV.den, hx, Instr.indexAt, asIntOf, Sem.run_bind, Sem.run_pure, Result.andThen, run_und w hu]
          rw [if_pos ⟨h1, h2⟩]
          simp only [Sem.run_bind, run_sizeOf' w hz, Result.andThen, Sem.run_pure, PT.addr, Nat.add_zero, add_none]
      · cases h
    · cases h
  · cases h
end Go.Proofs.Ytcegefhjgkoknaa.E
