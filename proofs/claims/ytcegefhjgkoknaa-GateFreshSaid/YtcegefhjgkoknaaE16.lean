/- The engine, part 16: regions that draw their order: one run tells all. -/
import Derived.Test.YtcegefhjgkoknaaE15
namespace Go.Proofs.Ytcegefhjgkoknaa.E
open Go.RowKit
set_option linter.unusedVariables false
set_option linter.unusedSimpArgs false

def dstIs (d : Option Tmp) (t : Nat) : Bool :=
  match d with
  | some u => Nat.beq u t
  | none => false
theorem dstIs_iff {d : Option Tmp} {t : Nat} : dstIs d t = true ↔ d = some t := by
  cases d with
  | none => simp [dstIs]
  | some u => simp [dstIs, Nat.beq_eq]

/-- A slot that is written by what comes ahead, or by the operation itself, alone. -/
def okR (m i : Nat) (t : Nat) : Nat → List Oper → Bool
  | _, [] => true
  | k, o :: r => (Nat.beq k i || (m.testBit k || !(dstIs o.dst t))) && okR m i t (k + 1) r
theorem okR_get {m i t : Nat} : ∀ {l : List Oper} {k0 : Nat}, okR m i t k0 l = true → ∀ (k : Nat) (o : Oper), l[k]? = some o → o.dst = some t → k0 + k = i ∨ m.testBit (k0 + k) = true
  | [], k0, h, k, o, ho, hd => by simp at ho
  | x :: r, k0, h, k, o, ho, hd => by
    simp only [okR, Bool.and_eq_true, Bool.or_eq_true] at h
    cases k with
    | zero =>
      obtain rfl := Option.some.inj ho
      rcases h.1 with g | g | g
      · exact .inl (Nat.eq_of_beq_eq_true g)
      · exact .inr g
      · rw [dstIs_iff.2 hd] at g; cases g
    | succ k =>
      have := okR_get h.2 k o (by simpa using ho) hd
      rw [show k0 + (k + 1) = k0 + 1 + k by omega]; exact this

def restR (all : List Oper) (m i : Nat) (done : List Ef) (R : Log) : Log :=
  (selR (fun k => m.testBit k) done R).filter fun e => match e.1 with
    | .r t => okR m i t 0 all
    | .h _ => false
def restH (hp : Bool) (m : Nat) (done : List Ef) (H : Log) : Log := bif hp then selH (fun k => m.testBit k) done H else []

def drRun (P : Program) (call : CallFn) (nt : Nat) (all : Array Oper) (ms : List Nat) (R H : Log) (g : List F) : List Oper → Nat → Nat → List Ef → Option (List Ef × Nat)
  | [], _, n, done => some (done, n)
  | o :: r, i, n, done =>
    let m := ms.getD i 0
    match efOp P call nt all (restR all.toList m i done R) (restH (heapy o.op) m done H) n (selF (fun k => m.testBit k) done g) i o with
    | some x => drRun P call nt all ms R H g r (i + 1) x.n' (done ++ [x])
    | none => none

def freshB (n n' : Nat) : Log → Bool
  | [] => true
  | (.h id, _) :: r => Nat.ble n id && (Nat.blt id n' && freshB n n' r)
  | _ :: _ => false
def avoE (x : Ef) (lo hi : Nat) : Bool := x.c.avo lo hi && (x.s.avo lo hi && (F.avos lo hi x.fs && Log.avo lo hi x.pre))
/-- It writes its own blocks alone. -/
def ownB : Log → Bool
  | [] => true
  | (_, .row false _) :: _ => false
  | _ :: r => ownB r
def dstNe (a b : Option Tmp) : Bool :=
  match a with
  | some t => !(dstIs b t)
  | none => true
def unord (ms : List Nat) (x y : Ef) : Bool := !((ms.getD y.i 0).testBit x.i) && !((ms.getD x.i 0).testBit y.i)
def pairOK (ms : List Nat) (x y : Ef) : Bool :=
  Nat.beq x.i y.i || (!(unord ms x y) || (dstNe x.dst y.dst && ((!y.heapy || freshB x.n x.n' x.pre) && (Nat.beq y.n y.n' || avoE x y.n y.n'))))
def transOK (ms : List Nat) : Bool := (List.range ms.length).all fun i => (List.range ms.length).all fun j => !((ms.getD i 0).testBit j) || Nat.beq (ms.getD j 0 ||| ms.getD i 0) (ms.getD i 0)
def edgesOK : Nat → List Oper → Bool
  | _, [] => true
  | i, o :: r => (o.after.toList.all fun e => !(Region.binds .any e) || Nat.blt e.on i) && edgesOK (i + 1) r

def drF (P : Program) (call : CallFn) : RegFn := fun all n b amb nt =>
  let ms := masks all.toList []
  match drRun P call nt all ms b.R b.H (b.g ++ (b.pc ++ amb)) all.toList 0 n [] with
  | some (efs, n') =>
    bif edgesOK 0 all.toList && transOK ms && (efs.all fun x => (x.heapy || freshB x.n x.n' x.pre) && ownB x.pre && efs.all fun y => pairOK ms x y) then
      some (efs.flatMap (·.vcs), .lf (.normal, ⟨selF (fun _ => true) efs b.g, b.pc, selR (fun _ => true) efs b.R, selH (fun _ => true) efs b.H, selH (fun _ => true) efs b.pre⟩), n')
    else none
  | none => none

theorem freshB_has {n n' : Nat} : ∀ {L : Log} {k : Key}, freshB n n' L = true → hasK k L = true → ∃ id, k = .h id ∧ n ≤ id ∧ id < n'
  | [], k, _, h => by cases h
  | (.r t, e) :: r, k, g, h => by cases g
  | (.h id, e) :: r, k, g, h => by
    simp only [freshB, Bool.and_eq_true] at g
    simp only [hasK, Bool.or_eq_true] at h
    rcases h with h | h
    · exact ⟨id, (Key.eq_iff.1 h).symm, Nat.le_of_ble_eq_true g.1, Nat.le_of_ble_eq_true g.2.1⟩
    · exact freshB_has g.2.2 h
theorem ownB_look {k : Key} {r : Row} : ∀ {L : Log}, ownB L = true → look k L ≠ some (.row false r)
  | [], _, h => by simp [look] at h
  | (j, e) :: L, g, h => by
    rw [look_cons] at h
    by_cases hj : j = k
    · rw [if_pos hj] at h
      obtain rfl := Option.some.inj h
      cases g
    · rw [if_neg hj] at h
      have : ownB L = true := by
        cases e with
        | reg c s => exact g
        | row o r' => cases o; cases g; exact g
        | gone => exact g
      exact ownB_look this h
theorem avo_has {lo hi : Nat} : ∀ {L : Log} {k : Key}, Log.avo lo hi L = true → hasK k L = true → k.avo lo hi = true
  | [], k, _, h => by cases h
  | (j, e) :: r, k, g, h => by
    simp only [Log.avo, Bool.and_eq_true] at g
    simp only [hasK, Bool.or_eq_true] at h
    rcases h with h | h
    · rw [← Key.eq_iff.1 h]; exact g.1.1
    · exact avo_has g.2 h

/-- The run, told operation by operation. -/
structure Told (P : Program) (nt : Nat) (all : Array Oper) (ms : List Nat) (R H : Log) (g : List F) (n n' : Nat) (efs : List Ef) : Prop where
  len : efs.length = all.toList.length
  le : n ≤ n'
  big : n' ≤ BIG
  each : ∀ (k : Nat) (x : Ef), efs[k]? = some x → x.i = k ∧ n ≤ x.n ∧ x.n ≤ x.n' ∧ x.n' ≤ n' ∧ ∃ o, all.toList[k]? = some o ∧ x.heapy = heapy o.op ∧
    EfOK P nt all (restR all.toList (ms.getD k 0) k (efs.take k) R) (restH (heapy o.op) (ms.getD k 0) (efs.take k) H) (selF (fun j => (ms.getD k 0).testBit j) (efs.take k) g) x.n o x
  mono : ∀ (k j : Nat) (x y : Ef), k < j → efs[k]? = some x → efs[j]? = some y → x.n' ≤ y.n

theorem selR_avo {m : Nat} {p : Nat → Bool} : ∀ {l : List Ef} {b : Log}, (∀ e, e ∈ l → e.c.avo m BIG = true ∧ e.s.avo m BIG = true) → Log.avo m BIG b = true → Log.avo m BIG (selR p l b) = true
  | [], b, _, hb => hb
  | e :: r, b, h, hb => by
    simp only [selR]
    refine selR_avo (fun e' he' => h e' (.tail _ he')) ?_
    cases p e.i
    · exact hb
    · exact putR_avo (h e (.head _)).1 (h e (.head _)).2 hb
theorem selH_avo {m : Nat} {p : Nat → Bool} : ∀ {l : List Ef} {b : Log}, (∀ e, e ∈ l → Log.avo m BIG e.pre = true) → Log.avo m BIG b = true → Log.avo m BIG (selH p l b) = true
  | [], b, _, hb => hb
  | e :: r, b, h, hb => by
    simp only [selH]
    refine selH_avo (fun e' he' => h e' (.tail _ he')) ?_
    cases p e.i
    · exact hb
    · exact Log.avo_app (h e (.head _)) hb
theorem selF_avo {m : Nat} {p : Nat → Bool} : ∀ {l : List Ef} {b : List F}, (∀ e, e ∈ l → F.avos m BIG e.fs = true) → F.avos m BIG b = true → F.avos m BIG (selF p l b) = true
  | [], b, _, hb => hb
  | e :: r, b, h, hb => by
    simp only [selF]
    refine selF_avo (fun e' he' => h e' (.tail _ he')) ?_
    cases p e.i
    · exact hb
    · exact F.avos_app (h e (.head _)) hb

/-- All that an effect bears is in scope behind it. -/
def Ef.ws (m : Nat) (x : Ef) : Prop := x.c.avo m BIG = true ∧ x.s.avo m BIG = true ∧ F.avos m BIG x.fs = true ∧ Log.avo m BIG x.pre = true
theorem EfOK.ws {P : Program} {nt : Nat} {all : Array Oper} {R H : Log} {g : List F} {n : Nat} {o : Oper} {x : Ef} (h : EfOK P nt all R H g n o x) {m : Nat} (hm : x.n' ≤ m) : x.ws m :=
  ⟨BE.avo_mono (Nat.le_trans h.le hm) (Nat.le_refl _) _ h.cav, SV.avo_mono hm (Nat.le_refl _) _ h.sav, F.avos_mono hm (Nat.le_refl _) h.fav, Log.avo_mono hm (Nat.le_refl _) _ h.pav⟩

theorem drRun_told {P : Program} {call : CallFn} (hcall : CallOK P call) (hN : NoRt P) {nt : Nat} {all : Array Oper} {ms : List Nat} {R H : Log} {g : List F} {n0 : Nat} (hR : Log.avo n0 BIG R = true) (hH : Log.avo n0 BIG H = true) (hg : F.avos n0 BIG g = true) :
    ∀ (rest : List Oper) (i n : Nat) (done efs : List Ef) (n' : Nat), drRun P call nt all ms R H g rest i n done = some (efs, n') → all.toList = (all.toList.take i) ++ rest → i = done.length → i ≤ all.toList.length → n0 ≤ n → n ≤ BIG →
      (∀ (k : Nat) (x : Ef), done[k]? = some x → x.i = k ∧ n0 ≤ x.n ∧ x.n ≤ x.n' ∧ x.n' ≤ n ∧ ∃ o, all.toList[k]? = some o ∧ x.heapy = heapy o.op ∧
        EfOK P nt all (restR all.toList (ms.getD k 0) k (done.take k) R) (restH (heapy o.op) (ms.getD k 0) (done.take k) H) (selF (fun j => (ms.getD k 0).testBit j) (done.take k) g) x.n o x) →
      (∀ (k j : Nat) (x y : Ef), k < j → done[k]? = some x → done[j]? = some y → x.n' ≤ y.n) →
      Told P nt all ms R H g n0 n' efs
  | [], i, n, done, efs, n', h, hl, hi, hil, h0, hn, hd, hm => by
    simp only [drRun, Option.some.injEq, Prod.mk.injEq] at h
    obtain ⟨rfl, rfl⟩ := h
    refine ⟨?_, h0, hn, hd, hm⟩
    rw [List.append_nil] at hl
    have := congrArg List.length hl
    rw [List.length_take] at this
    omega
  | o :: r, i, n, done, efs, n', h, hl, hi, hil, h0, hn, hd, hm => by
    simp only [drRun] at h
    split at h
    · rename_i x hx
      have hws : ∀ e, e ∈ done → e.ws n := by
        intro e he
        obtain ⟨k, hk⟩ := List.getElem?_of_mem he
        obtain ⟨_, _, _, h4, o', _, _, hok⟩ := hd k e hk
        exact hok.ws h4
      have hoi : all.toList[i]? = some o := by
        rw [hl, List.getElem?_append_right (by simp; omega)]
        simp only [List.length_take]
        rw [Nat.min_eq_left hil, Nat.sub_self]; rfl
      have hlt : i < all.toList.length := (List.getElem?_eq_some_iff.1 hoi).1
      have hok := efOp_ok hcall hN hx
        (Log.avo_filter _ (selR_avo (fun e he => ⟨(hws e he).1, (hws e he).2.1⟩) (Log.avo_mono h0 (Nat.le_refl _) R hR)))
        (by
          unfold restH
          cases heapy o.op
          · rfl
          · exact selH_avo (fun e he => (hws e he).2.2.2) (Log.avo_mono h0 (Nat.le_refl _) H hH))
        (selF_avo (fun e he => (hws e he).2.2.1) (F.avos_mono h0 (Nat.le_refl _) hg)) hn
      have hxi : x.i = i ∧ x.heapy = heapy o.op := by
        have h := hx
        unfold efOp at h
        cases hdo : dstOK nt o.dst
        · simp only [hdo, Bool.not_false, cond_true] at h; cases h
        simp only [hdo, Bool.not_true, cond_false] at h
        split at h
        · cases h
        · obtain rfl := Option.some.inj h; exact ⟨rfl, rfl⟩
        · split at h
          · obtain rfl := Option.some.inj h; exact ⟨rfl, rfl⟩
          · cases h
        · split at h
          · rename_i vcs fs s pre n1 hst
            cases hfk : freshK n pre
            · rw [hfk] at h; cases h
            · rw [hfk] at h; obtain rfl := Option.some.inj h; exact ⟨rfl, rfl⟩
          · cases h
      have hxn := hok.xn
      refine drRun_told hcall hN hR hH hg r (i + 1) x.n' (done ++ [x]) efs n' h ?_ (by simp [hi]) (by omega) (by have := hok.le; omega) hok.big ?_ ?_
      · rw [List.take_add_one, hoi]
        simp only [Option.toList, List.append_assoc, List.singleton_append]
        exact hl
      · intro k y hy
        by_cases hk : k < done.length
        · rw [List.getElem?_append_left hk] at hy
          obtain ⟨e1, e2, e3, e4, o', e5, e6, e7⟩ := hd k y hy
          refine ⟨e1, e2, e3, by have := hok.le; omega, o', e5, e6, ?_⟩
          rw [List.take_append_of_le_length (by omega)]
          exact e7
        · have hk2 : k = done.length := by
            have := (List.getElem?_eq_some_iff.1 hy).1
            simp at this; omega
          subst hk2
          rw [List.getElem?_append_right (Nat.le_refl _), Nat.sub_self] at hy
          obtain rfl := Option.some.inj hy
          refine ⟨by rw [hxi.1, hi], by omega, by rw [hxn]; exact hok.le, Nat.le_refl _, o, by rw [← hi]; exact hoi, hxi.2, ?_⟩
          rw [List.take_append_of_le_length (Nat.le_refl _), List.take_length, hxn, ← hi]
          exact hok
      · intro k j y z hkj hy hz
        by_cases hj : j < done.length
        · rw [List.getElem?_append_left hj] at hz
          rw [List.getElem?_append_left (by omega)] at hy
          exact hm k j y z hkj hy hz
        · have hj2 : j = done.length := by
            have := (List.getElem?_eq_some_iff.1 hz).1
            simp at this; omega
          subst hj2
          rw [List.getElem?_append_right (Nat.le_refl _), Nat.sub_self] at hz
          obtain rfl := Option.some.inj hz
          rw [List.getElem?_append_left hkj] at hy
          obtain ⟨_, _, _, h4, _⟩ := hd k y hy
          omega
    · cases h
end Go.Proofs.Ytcegefhjgkoknaa.E
