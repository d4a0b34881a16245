/- The planner's contracts inside a fence and outside: its walk over an iterator is a search in a list. No conditions. -/
import Derived.Test.YtmhgfghbbophlaaProg
import Derived.Test.YtmhgfghbbophlaaWMore
import Derived.Test.YtmhgfghbbophlaaWLast
import Derived.Test.YtmhgfghbbophlaaWWords
import Derived.RangeFuncNested
import Derived.RangeFuncBound
import Derived.RangeFuncCalls
import Derived.RangeFuncLeaves
import Derived.Shelf.Abstract
import Derived.Shelf.RegionOpen
import Derived.WalkKit
import Derived.OwnWalkIn
import Derived.TacticsInMore
import Derived.LoopNIn
import Derived.LoopIn
import Derived.RangeFuncFrom

namespace Go.Proofs.Ytmhgfghbbophlaa.Plan
open Go.RowKit Go.Shelf Go.Proofs.YtmhgfghbbophlaaW.PrintWords Go.Proofs.YtmhgfghbbophlaaW.PrintLast Go.Proofs.YtmhgfghbbophlaaW.PrintMore
set_option linter.unusedVariables false
set_option linter.unusedSimpArgs false
attribute [local go_sem] Oper.semAt_some
def inn (x lo hi : Int) : Int := if hi < (if x < lo then lo else x) then hi else (if x < lo then lo else x)
theorem inn_mm (x lo hi : Int) : inn x lo hi = min (max x lo) hi := by unfold inn; (repeat' split) <;> omega
theorem plan_within.inF (F : Fence) (n : Nat) (h32 : F.fn 32) (hro : F.round = none) (x lo hi : Int) (w : World) : CallsIn F n Try.prog 32 #[.int .i64 x, .int .i64 lo, .int .i64 hi] w fun e w' => e = .returned (.int .i64 (inn x lo hi)) ∧ w' = w := by
  refine callsIn_of_wp Try.func32 rfl h32 ?_ hro
  simp only [Try.ntmps32, List.size_toArray, List.length_cons, List.length_nil, Nat.reduceAdd, Nat.reduceSub, Array.replicate_succ, Array.replicate_zero, List.push_toArray, List.append_toArray, List.nil_append, List.cons_append]
  gi_wp2
  all_goals
    go_ret
    refine ⟨?_, rfl⟩
    simp [inn, *] <;> omega
def stopTo (s : Int) : Int := wrap64 ((wrap64 (inn s 0 8 * (inn s 0 8 - 1))).tdiv 2)
theorem plan_Stop.inF (F : Fence) (n : Nat) (hn : 1 ≤ n) (h15 : F.fn 15) (h32 : F.fn 32) (hro : F.round = none) (s : Int) (w : World) : CallsIn F n Try.prog 15 #[.int .i64 s] w fun e w' => e = .returned (.int .i64 (stopTo s)) ∧ w' = w := by
  have hb := inn_mm s 0 8
  have b0 : 0 ≤ inn s 0 8 := by omega
  have b1 : inn s 0 8 ≤ 8 := by omega
  clear hb
  refine callsIn_of_wp Try.func15 rfl h15 ?_ hro
  simp only [Try.ntmps15, List.size_toArray, List.length_cons, List.length_nil, Nat.reduceAdd, Nat.reduceSub, Array.replicate_succ, Array.replicate_zero, List.push_toArray, List.append_toArray, List.nil_append, List.cons_append]
  gi_wp2_with (gi_at_call 32; refine (plan_within.inF F (n - 1) h32 hro _ _ _ _).mono ?_; rintro e w' ⟨rfl, rfl⟩)
  go_ret
  exact ⟨rfl, rfl⟩
theorem plan_down.inF (F : Fence) (n : Nat) (h34 : F.fn 34) (hro : F.round = none) (a b : Int) (w : World) : CallsIn F n Try.prog 34 #[.int .i64 a, .int .i64 b] w fun e w' => e = .returned (.func (.func 41) #[] #[.pointer (some ⟨w.heap.size, 0, none⟩), .pointer (some ⟨w.heap.size + 1, 0, none⟩)]) ∧ w' = (w.alloc (.cells #[.int .i64 a] 3)).alloc (.cells #[.int .i64 b] 3) := by
  have hmf : ∀ (fn : Fn) (first cap : Array Value) (w : World), (Instr.makeFunc fn first cap).run Try.prog w = .ok (.func fn first cap) w := fun _ _ _ _ => rfl
  refine callsIn_of_wp Try.func34 rfl h34 ?_ hro
  simp only [Try.ntmps34, List.size_toArray, List.length_cons, List.length_nil, Nat.reduceAdd, Nat.reduceSub, Array.replicate_succ, Array.replicate_zero, List.push_toArray, List.append_toArray, List.nil_append, List.cons_append]
  gi_wp2
  go_ret
  exact ⟨rfl, rfl⟩
/-- The numbers from a down, so many. -/
def downL (a : Int) (c : Nat) : List Int := (List.range c).map fun i : Nat => a - (i : Int)
theorem downL_snoc (a : Int) (k : Nat) : downL a k ++ [a - (k : Int)] = downL a (k + 1) := by
  simp [downL, List.range_succ]
theorem downL_pre (a : Int) {k c : Nat} (h : k ≤ c) : downL a k <+: downL a c := by
  obtain ⟨d, rfl⟩ : ∃ d, c = k + d := ⟨c - k, by omega⟩
  induction d with
  | zero => exact List.prefix_refl _
  | succ d ih => exact (ih (by omega)).trans ⟨[a - ((k + d : Nat) : Int)], by rw [downL_snoc]; rfl⟩
theorem plan_down1.inF (F : Fence) (n : Nat) (h41 : F.fn 41) (hro : F.round = none) (hn : 1 ≤ n) (l B0 B1 : Nat) (a b : Int) (hb0 : 0 ≤ b) (ha : a ≤ 100) (ha0 : -1 ≤ a) (c : Nat) (hc : (c : Int) = max (a - b + 1) 0) (J Jx : List Int → World → Prop)
    (hY : ∀ pre x W, J pre W → pre.length < c → YieldAt F (n - 1) Try.prog l #[.int .i64 x] W fun e W' =>
      (e = .returned (.bool true) ∧ J (pre ++ [x]) W' ∧ W'.cell? ⟨B1, 0, none⟩ = W.cell? ⟨B1, 0, none⟩) ∨ (e = .returned (.bool false) ∧ Jx (pre ++ [x]) W'))
    (W : World) (hB0 : W.cell? ⟨B0, 0, none⟩ = some (.int .i64 a)) (hB1 : W.cell? ⟨B1, 0, none⟩ = some (.int .i64 b)) (h0 : J [] W) :
    CallsIn F n Try.prog 41 #[.func (.yield l) #[] #[], .pointer (some ⟨B0, 0, none⟩), .pointer (some ⟨B1, 0, none⟩)] W fun e W' => (∃ v, e = .returned v) ∧
      ((∃ ys, ys = downL a c ∧ J ys W') ∨ (∃ pre, pre <+: downL a c ∧ Jx pre W')) := by
  refine callsIn_of_wp Try.func41 rfl h41 ?_ hro
  simp only [Try.ntmps41, List.size_toArray, List.length_cons, List.length_nil, Nat.reduceAdd, Nat.reduceSub, Array.replicate_succ, Array.replicate_zero, List.push_toArray, List.append_toArray, List.nil_append, List.cons_append]
  gi_wp2
  gi_loopw [4] (fun v wr => ∃ k : Nat, k ≤ c ∧ v = .int .i64 (a - k) ∧ wr.cell? ⟨B1, 0, none⟩ = some (.int .i64 b) ∧ J (downL a k) wr)
    (fun v _ => (intOf v + 1).toNat)
  case atStart =>
    exact ⟨0, Nat.zero_le _, by simp, hB1, h0⟩
  case round =>
    obtain ⟨k, hk, rfl, hcb, hJs⟩ := hrel
    by_cases hlt : b ≤ a - k
    · have hkc : k < c := by omega
      obtain ⟨fn, tmps, assign, body, hy, hR⟩ := hY (downL a k) (a - k) wr hJs (by simpa [downL] using hkc)
      have hk1 : 0 ≤ a - (k : Int) := by omega
      have hk2 : a - (k : Int) ≤ 100 := by omega
      gi_wp2
      refine hR.mono ?_
      rintro e W3 (⟨rfl, hJ3, hk3⟩ | ⟨rfl, hJx3⟩)
      · have hq3 : W3.cell? ⟨B1, 0, none⟩ = some (.int .i64 b) := hk3.trans hcb
        gi_wp2
        go_roundw
        case rel => exact ⟨k + 1, by omega, by push_cast; congr 1; omega, hq3, by rw [← downL_snoc]; exact hJ3⟩
        case measure => simp [intOf]; omega
      · gi_wp2
        go_end0
        exact ⟨⟨_, rfl⟩, .inr ⟨downL a k ++ [a - k], by rw [downL_snoc]; exact downL_pre a hkc, hJx3⟩⟩
    · have hf : decide (b ≤ a - (k : Int)) = false := decide_eq_false hlt
      gi_wp2
      refine ⟨fun _ h => (by cases h), ?_⟩
      gi_wp2
      go_end0
      exact ⟨⟨_, rfl⟩, .inl ⟨downL a k, by rw [show k = c by omega], hJs⟩⟩
theorem plan_down_stops (F : Fence) (n : Nat) (h41 : F.fn 41) (hro : F.round = none) (hn : 1 ≤ n) (B0 B1 : Nat) (a b : Int) (hb0 : 0 ≤ b) (ha : a ≤ 100) (ha0 : -1 ≤ a) (c : Nat) (hc : (c : Int) = max (a - b + 1) 0) (w : World) (l0 : B0 < w.heap.size) (l1 : B1 < w.heap.size)
    (hB0 : w.cell? ⟨B0, 0, none⟩ = some (.int .i64 a)) (hB1 : w.cell? ⟨B1, 0, none⟩ = some (.int .i64 b)) :
    SeqStopsK F n Try.prog 41 #[.pointer (some ⟨B0, 0, none⟩), .pointer (some ⟨B1, 0, none⟩)] (fun x : Int => #[Value.int .i64 x]) (fun A B : World => B.cell? ⟨B1, 0, none⟩ = A.cell? ⟨B1, 0, none⟩) (fun ys => ys = downL a c) (fun pre => pre <+: downL a c) c w := fun l J Jx W hW _ _ hY h0 =>
  plan_down1.inF F n h41 hro hn l B0 B1 a b hb0 ha ha0 c hc J Jx hY W ((hW.cell (p := ⟨B0, 0, none⟩) l0).trans hB0) ((hW.cell (p := ⟨B1, 0, none⟩) l1).trans hB1) h0
theorem cell_of_box_l {W : World} {B : Nat} {v : Value} {t : TypeId} (h : W.heap[B]? = some (.cells #[v] t (0, 0))) : W.cell? ⟨B, 0, none⟩ = some v ∧ W.frozen? ⟨B, 0, none⟩ = false := by
  constructor <;> simp [World.cell?, World.frozen?, h]
theorem cell_new_l (W : World) (v : Value) (t : TypeId) : (W.alloc (.cells #[v] t)).cell? ⟨W.heap.size, 0, none⟩ = some v ∧ (W.alloc (.cells #[v] t)).frozen? ⟨W.heap.size, 0, none⟩ = false :=
  cell_of_box_l (World.alloc_heap_new W _)
theorem cell_alloc_l {W : World} {a : Addr} {v : Value} (o : Obj) (h : W.cell? a = some v) : (W.alloc o).cell? a = some v := cell_kept h (World.grownBy_alloc W o none) (fun r e => by cases e)
theorem frozen_alloc_l {W : World} {a : Addr} {v : Value} (o : Obj) (h : W.cell? a = some v) (hf : W.frozen? a = false) : (W.alloc o).frozen? a = false := (frozen_kept h (World.grownBy_alloc W o none) (fun r e => by cases e)).trans hf

def nextTo (s l m : Int) : Int :=
  let sp := inn s 0 8
  let a := min (inn m 1 8) (sp + 1)
  let b := max (sp - 1) 0
  ((downL a (max (a - b + 1) 0).toNat).find? fun x => decide (wrap64 (x + stopTo x) ≤ inn l 0 1000)).getD 0

theorem i64_wrap_l (n : Int) : IntKind.i64.wrap n = wrap64 n := by
  rw [IntKind.wrap_i64]; unfold wrap64; rfl
theorem min2_mm (k k' : IntKind) (x y : Int) : Builtin.min2 (.int k x) (.int k' y) = pure (.int k (min x y)) := by
  rw [min2_int]; congr 2; split <;> omega
theorem max2_mm (k k' : IntKind) (x y : Int) : Builtin.max2 (.int k x) (.int k' y) = pure (.int k (max x y)) := by
  rw [max2_int]; congr 2; split <;> omega
theorem min_mm (ats : Array TypeId) (ty : TypeId) (k k' : IntKind) (x y : Int) : Builtin.min_ ats ty #[.int k x, .int k' y] = pure (.int k (min x y)) := by
  rw [min_two, min2_mm]; rfl
theorem max_mm (ats : Array TypeId) (ty : TypeId) (k k' : IntKind) (x y : Int) : Builtin.max_ ats ty #[.int k x, .int k' y] = pure (.int k (max x y)) := by
  rw [max_two, max2_mm]; rfl
attribute [local go_sem ↓ high] min_mm max_mm min2_mm max2_mm

set_option maxRecDepth 100000 in
set_option maxHeartbeats 2000000 in
theorem plan_Next.inF (F : Fence) (n : Nat) (hn : 5 ≤ n) (h17 : F.fn 17) (h15 : F.fn 15) (h32 : F.fn 32) (h34 : F.fn 34) (h41 : F.fn 41) (hro : F.round = none) (s l m : Int) (w : World) :
    CallsIn F n Try.prog 17 #[.int .i64 s, .int .i64 l, .int .i64 m] w fun e w' => e = .returned (.int .i64 (nextTo s l m)) ∧ Below w.heap.size w w' := by
  have h1 : 1 ≤ n := by omega
  have hs_ := inn_mm s 0 8
  have hm_ := inn_mm m 1 8
  have hl_ := inn_mm l 0 1000
  have s0 : 0 ≤ inn s 0 8 := by omega
  have s8 : inn s 0 8 ≤ 8 := by omega
  have m0 : 1 ≤ inn m 1 8 := by omega
  have m8 : inn m 1 8 ≤ 8 := by omega
  have l00 : 0 ≤ inn l 0 1000 := by omega
  have l01 : inn l 0 1000 ≤ 1000 := by omega
  clear hs_ hm_ hl_
  refine callsIn_of_wp_marks Try.func17 rfl h17 ?_ hro
  simp only [Try.ntmps17, List.size_toArray, List.length_cons, List.length_nil, Nat.reduceAdd, Nat.reduceSub, Array.replicate_succ, Array.replicate_zero, List.push_toArray, List.append_toArray, List.nil_append, List.cons_append]
  gi_wp2_with (gi_at_call 32; refine (plan_within.inF F (n - 1) h32 hro _ _ _ _).mono ?_; rintro e w' ⟨rfl, rfl⟩)
  all_goals (gi_at_call 34; refine (plan_down.inF F (n - 1) h34 hro _ _ _).mono ?_; rintro e w' ⟨rfl, rfl⟩)
  · gi_wp2
    have hA : min (inn m 1 8) (inn s 0 8 + 1) = min (inn m 1 8) (inn s 0 8 + 1) := by omega
    have hBv : max (inn s 0 8 - 1) 0 = max (inn s 0 8 - 1) 0 := by omega
    obtain ⟨C, hC⟩ : ∃ C : Nat, C = (max (min (inn m 1 8) (inn s 0 8 + 1) - max (inn s 0 8 - 1) 0 + 1) 0).toNat := ⟨_, rfl⟩
    have hCi : (C : Int) = max (min (inn m 1 8) (inn s 0 8 + 1) - max (inn s 0 8 - 1) 0 + 1) 0 := by omega
    have hval : ∀ v, v = ((downL (min (inn m 1 8) (inn s 0 8 + 1)) C).find? fun x => decide (wrap64 (x + stopTo x) ≤ inn l 0 1000)).getD 0 → v = nextTo s l m := by
      intro v hv
      rw [hv]; simp only [nextTo, ← hA, ← hBv, hC]
    clear hA hBv hC
    have c0 := cell_new_l w (.int .i64 (inn l 0 1000)) 3
    have c1 := cell_new_l (w.alloc (.cells #[.int .i64 (inn l 0 1000)] 3)) (.int .i64 0) 3
    have c2 := cell_new_l ((w.alloc (.cells #[.int .i64 (inn l 0 1000)] 3)).alloc (.cells #[.int .i64 0] 3)) (.int .i64 (min (inn m 1 8) (inn s 0 8 + 1))) 3
    have c3 := cell_new_l (((w.alloc (.cells #[.int .i64 (inn l 0 1000)] 3)).alloc (.cells #[.int .i64 0] 3)).alloc (.cells #[.int .i64 (min (inn m 1 8) (inn s 0 8 + 1))] 3)) (.int .i64 (max (inn s 0 8 - 1) 0)) 3
    simp only [World.size_alloc] at c1 c2 c3
    have hB0 : Below w.heap.size w ((((w.alloc (.cells #[.int .i64 (inn l 0 1000)] 3)).alloc (.cells #[.int .i64 0] 3)).alloc (.cells #[.int .i64 (min (inn m 1 8) (inn s 0 8 + 1))] 3)).alloc (.cells #[.int .i64 (max (inn s 0 8 - 1) 0)] 3)) := ((((Below.refl _ w).alloc (Nat.le_refl _) _).alloc (by simp) _).alloc (by simp; omega) _).alloc (by simp; omega) _
    refine wpIn_rangeFunc_ownF hro h1 (gf := 41) (lb := #[.pointer (some ⟨w.heap.size + 1 + 1, 0, none⟩), .pointer (some ⟨w.heap.size + 1 + 1 + 1, 0, none⟩)]) rfl h41 (enters_of Try.func41 (by kernel_rfl) rfl)
      (plan_down_stops F (n - 1) h41 hro (by omega) (w.heap.size + 1 + 1) (w.heap.size + 1 + 1 + 1) (min (inn m 1 8) (inn s 0 8 + 1)) (max (inn s 0 8 - 1) 0) (by omega) (by omega) (by omega) C hCi _ (by simp) (by simp) (cell_alloc_l _ c2.1) c3.1) (fun h k => k.trans h) (fun W l o o' hl h h2 h3 => (belowK_b (n₀ := w.heap.size + 1 + 1 + 1 + 1) (by simp) W l o o' hl h h2 h3).cell (p := ⟨w.heap.size + 1 + 1 + 1, 0, none⟩) (Nat.lt_succ_self _)) (Below.refl _ _) (fun _ => rfl)
      (fun pre W => ((∀ y ∈ pre, ¬ wrap64 (y + stopTo y) ≤ inn l 0 1000) ∧ W.cell? ⟨w.heap.size, 0, none⟩ = some (.int .i64 (inn l 0 1000)) ∧ W.cell? ⟨w.heap.size + 1, 0, none⟩ = some (.int .i64 0) ∧ W.frozen? ⟨w.heap.size + 1, 0, none⟩ = false) ∧ Below w.heap.size w W)
      (fun c pre W => (c = .ret ∧ ∃ q x, pre = q ++ [x] ∧ (∀ y ∈ q, ¬ wrap64 (y + stopTo y) ≤ inn l 0 1000) ∧ wrap64 (x + stopTo x) ≤ inn l 0 1000 ∧ W.cell? ⟨w.heap.size + 1, 0, none⟩ = some (.int .i64 x)) ∧ Below w.heap.size w W)
      (OwnFrom.and (Own.from (fun s A B row hs hg hr => ⟨hs.1, cell_kept hs.2.1 hg hr, cell_kept hs.2.2.1 hg hr, (frozen_kept hs.2.2.1 hg hr).trans hs.2.2.2⟩) _) (ownFrom_below (Nat.le_refl _) (by simp; omega)))
      (fun c => OwnFrom.and (Own.from (fun s A B row hs hg hr => by obtain ⟨h0, q, x, h1, h2, h3, h4⟩ := hs; exact ⟨h0, q, x, h1, h2, h3, cell_kept h4 hg hr⟩) _) (ownFrom_below (Nat.le_refl _) (by simp; omega)))
      ⟨⟨by simp, cell_alloc_l _ (cell_alloc_l _ (cell_alloc_l _ c0.1)), cell_alloc_l _ (cell_alloc_l _ c1.1), frozen_alloc_l _ (cell_alloc_l _ c1.1) (frozen_alloc_l _ c1.1 c1.2)⟩, hB0⟩
      (fun x => { tmps := #[.int .i64 (inn s 0 8), .int .i64 l, .int .i64 (inn m 1 8), undef, .pointer (some ⟨w.heap.size, 0, none⟩), undef, .pointer (some ⟨w.heap.size + 1, 0, none⟩), .int .i64 x, .int .i64 s, .int .i64 (inn s 0 8), .int .i64 l, .int .i64 (inn l 0 1000), .int .i64 m, .int .i64 (inn m 1 8), .int .i64 (inn m 1 8), .int .i64 (inn s 0 8), .int .i64 (inn s 0 8 + 1), .int .i64 (min (inn m 1 8) (inn s 0 8 + 1)), .int .i64 (inn s 0 8), .int .i64 (inn s 0 8 - 1), .int .i64 (max (inn s 0 8 - 1) 0), .func (.func 41) #[] #[.pointer (some ⟨w.heap.size + 1 + 1, 0, none⟩), .pointer (some ⟨w.heap.size + 1 + 1 + 1, 0, none⟩)], .int .i64 x, undef, undef, undef, undef, undef, undef, undef], defers := [] }) ?assign ?body ?done ?stop
    case assign =>
      intro l x W K hK
      gi_wp2
      exact hK
    case body =>
      rintro l_ pre x W ⟨⟨hp, hcw, hcr, hfr⟩, hB⟩ _
      have hd : 1 ≤ n - 1 - 1 := by omega
      have hmx : Try.prog.follows .mixedOrders = true := by kernel_rfl
      gi_wp2
      gi_region_with_o (gi_at_call 15; refine (CallsIn.inRound l_ (plan_Stop.inF F _ (by omega) h15 h32 hro _ _)).mono ?_; rintro e w' ⟨rfl, rfl⟩)
      all_goals (clear hval c0 c1 c2 c3 hB0)
      all_goals (have hle' : IntKind.i64.wrap (x + stopTo x) = wrap64 (x + stopTo x) := i64_wrap_l _)
      all_goals rw [hle']
      all_goals clear hle'
      all_goals by_cases hle : wrap64 (x + stopTo x) ≤ inn l 0 1000
      all_goals (first | rw [decide_eq_true hle] | rw [decide_eq_false hle])
      all_goals gi_wp2
      all_goals first
        | exact ⟨(KeepsOthers.setCell _ _ _).trans (KeepsOthers.drew _), ⟨rfl, pre, x, rfl, hp, hle, World.cell?_setCell_same' _ _ _ (by rw [hcr]; rfl)⟩, (hB.setCell (p := ⟨w.heap.size + 1, 0, none⟩) (by simp) _).drew⟩
        | exact ⟨KeepsOthers.drew _, rfl, ⟨fun y hy => (List.mem_append.1 hy).elim (hp y) (fun e => by simp at e; subst e; omega), hcw, hcr, hfr⟩, hB.drew⟩
    case done =>
      rintro D ys W hD rfl ⟨⟨hne, _, hcr, hfr⟩, hB⟩ hK
      gi_wp2
      have hK' := (KeepsOthers.setCell W ⟨w.heap.size + 1, 0, none⟩ (.int .i64 0)).same D _ hK rfl
      refine ⟨by simp, .inl ⟨_, _, rfl, run_takeDeferred hK', ?_⟩⟩
      have hc5 := cell_kept (World.cell?_setCell_same' W ⟨w.heap.size + 1, 0, none⟩ (.int .i64 0) (by rw [hcr]; rfl)) (grownBy_putObj' _ D (.deferred none)) (fun r e => by cases e; exact ⟨_, hK', rfl⟩)
      refine ⟨.int .i64 0, ?_, ?_, (hB.setCell (p := ⟨w.heap.size + 1, 0, none⟩) (by simp) _).trans (belowK_b (w := w) (Nat.le_refl _) _ D _ _ (by simp at hD; omega) hK' rfl rfl)⟩
      · simp [results, Try.f17, go_sem, hc5]
      · refine congrArg _ (congrArg _ (hval _ ?_))
        rw [List.find?_eq_none.2 (fun y hy => by simpa using hne y hy)]; rfl
    case stop =>
      rintro D c pre W hD hpre ⟨⟨rfl, q, x, rfl, hq, hx, hcr⟩, hB⟩ hK
      gi_wp2
      refine ⟨by simp, .inl ⟨_, _, rfl, run_takeDeferred hK, ?_⟩⟩
      have hc5 := cell_kept hcr (grownBy_putObj' _ D (.deferred none)) (fun r e => by cases e; exact ⟨_, hK, rfl⟩)
      refine ⟨.int .i64 x, ?_, ?_, hB.trans (belowK_b (w := w) (Nat.le_refl _) W D _ _ (by simp at hD; omega) hK rfl rfl)⟩
      · simp [results, Try.f17, go_sem, hc5]
      · obtain ⟨r, hr⟩ := hpre
        refine congrArg _ (congrArg _ (hval _ ?_))
        rw [← hr, List.find?_append, List.find?_append, List.find?_eq_none.2 (fun y hy => by simpa using hq y hy)]
        simp [hx]
theorem plan_within.walks (x lo hi : Int) (w : World) : Calls Try.prog 32 #[.int .i64 x, .int .i64 lo, .int .i64 hi] w fun e w' => e = .returned (.int .i64 (inn x lo hi)) ∧ w' = w :=
  callsIn_wide.1 (plan_within.inF Fence.wide 9 trivial rfl x lo hi w)
theorem plan_Stop.walks (s : Int) (w : World) : Calls Try.prog 15 #[.int .i64 s] w fun e w' => e = .returned (.int .i64 (stopTo s)) ∧ w' = w :=
  callsIn_wide.1 (plan_Stop.inF Fence.wide 9 (by omega) trivial trivial rfl s w)
theorem plan_Next.walks (s l m : Int) (w : World) : Calls Try.prog 17 #[.int .i64 s, .int .i64 l, .int .i64 m] w fun e w' => e = .returned (.int .i64 (nextTo s l m)) ∧ Below w.heap.size w w' :=
  callsIn_wide.1 (plan_Next.inF Fence.wide 9 (by omega) trivial trivial trivial trivial trivial rfl s l m w)
end Go.Proofs.Ytmhgfghbbophlaa.Plan
