/- ShootRuns: the walks: slices.Sort at 12 elements at most, slices.Compact, shoot.Runs. -/
import Derived.Test.YtcbnmmkmgpbfiaaRunP
import Derived.Sort.Row
namespace Go.Proofs.Ytcbnmmkmgpbfiaa.RunW
open Go.Shelf Go.RowKit Go.Proofs.Ytcbnmmkmgpbfiaa.PN Go.Proofs.Ytcbnmmkmgpbfiaa.RunP Go.Proofs.YtcbnmmkmgpbfiaaW.PrintWords Go.Proofs.YtcbnmmkmgpbfiaaW.PrintLast Go.Proofs.YtcbnmmkmgpbfiaaW.PrintMore
attribute [local go_sem] max2_int min2_int max_two min_two max_three min_three max_four min_four   -- for this text's walks alone
set_option linter.unusedVariables false
set_option linter.unusedSimpArgs false
set_option maxHeartbeats 4000000 in
set_option maxRecDepth 100000 in
theorem len64_calls (n : Nat) (hn : n ≤ 12) (w : World) : Calls Try.prog 112 #[.int .u64 n] w fun e w' => (∃ r : Int, e = .returned (.int .i64 r)) ∧ w' = w := by
  have h : n = 0 ∨ n = 1 ∨ n = 2 ∨ n = 3 ∨ n = 4 ∨ n = 5 ∨ n = 6 ∨ n = 7 ∨ n = 8 ∨ n = 9 ∨ n = 10 ∨ n = 11 ∨ n = 12 := by omega
  rcases h with rfl | rfl | rfl | rfl | rfl | rfl | rfl | rfl | rfl | rfl | rfl | rfl | rfl
  all_goals
    go_enter Try.func112, Try.ntmps112
    go_wp2
    go_ret
    exact ⟨⟨_, rfl⟩, rfl⟩
set_option maxHeartbeats 4000000 in
set_option maxRecDepth 100000 in
theorem len_calls (n : Nat) (hn : n ≤ 12) (w : World) : Calls Try.prog 97 #[.int .u64 n] w fun e w' => (∃ r : Int, e = .returned (.int .i64 r)) ∧ w' = w := by
  go_enter Try.func97, Try.ntmps97
  go_wp2_with fail
  refine (len64_calls n hn w).mono ?_
  rintro e w1 ⟨⟨r, rfl⟩, rfl⟩
  go_wp2
  go_ret
  exact ⟨⟨_, rfl⟩, rfl⟩
set_option maxHeartbeats 4000000 in
set_option maxRecDepth 100000 in
theorem pdq_calls {w0 w : World} {P : Nat → Prop} {A : Option Addr} {c : Nat} {xs : List Int} (hx : xs.length ≤ 12) (hB : Below w0.heap.size w0 w) (hR : Kd.R (Kd.int .u64) 26 w w0.heap.size P (.slice A xs.length c) xs) (lim : Int) :
    Calls Try.prog 96 #[.slice A xs.length c, .int .i64 0, .int .i64 xs.length, .int .i64 lim] w fun e w' => e = .returned (.tuple #[]) ∧ ∃ ys, Done xs ys ∧ Kd.R (Kd.int .u64) 26 w' w0.heap.size (fun k => P k ∨ w.heap.size ≤ k) (.slice A xs.length c) ys ∧ Below w0.heap.size w0 w' ∧ Kept w w' P := by
  obtain ⟨ys, hf, hd⟩ := isort_f xs hx
  have HF := Aside0.mk hf
  have HD := Aside0.mk hd
  have HB := Aside0.mk hB
  have HR := Aside0.mk hR
  have hl : ((xs.length : Int)) ≤ 12 := by omega
  clear hf hd hB hR
  go_enter Try.func96, Try.ntmps96
  go_wp2_with fail
  refine wp_loop_rounds 1 ?_
  rw [rounds_succ]
  go_wp2_with fail
  refine (slices_insertionSortOrdered_uint64.calls 1000 P (.slice A xs.length c) xs 0 xs.length ys w0 w HB.out HR.out HF.out).mono ?_
  rintro e w1 ⟨rfl, hR1, hB1, hK1⟩
  have HR1 := Aside0.mk (And.intro hR1 (And.intro hB1 hK1))
  clear hR1 hB1 hK1
  go_wp2
  refine bodyPost_ret (results_none rfl _ _ _) rfl ?_
  exact ⟨rfl, ys, HD.out, HR1.out⟩
set_option maxHeartbeats 4000000 in
set_option maxRecDepth 100000 in
theorem sort_calls {w0 w : World} {P : Nat → Prop} {A : Option Addr} {c : Nat} {xs : List Int} (hx : xs.length ≤ 12) (hB : Below w0.heap.size w0 w) (hR : Kd.R (Kd.int .u64) 26 w w0.heap.size P (.slice A xs.length c) xs) :
    Calls Try.prog 81 #[.slice A xs.length c] w fun e w' => e = .returned (.tuple #[]) ∧ ∃ ys, Done xs ys ∧ Kd.R (Kd.int .u64) 26 w' w0.heap.size (fun k => P k ∨ w.heap.size ≤ k) (.slice A xs.length c) ys ∧ Below w0.heap.size w0 w' ∧ Kept w w' P := by
  have HB := Aside0.mk hB
  have HR := Aside0.mk hR
  clear hB hR
  go_enter Try.func81, Try.ntmps81
  go_wp2_with fail
  refine (len_calls xs.length hx w).mono ?_
  rintro e w1 ⟨⟨r, rfl⟩, rfl⟩
  go_wp2_with fail
  refine (pdq_calls hx HB.out HR.out r).mono ?_
  rintro e w2 ⟨rfl, ys, h⟩
  have H := Aside0.mk h
  clear h
  go_wp2
  go_end0
  exact ⟨rfl, ys, H.out⟩
/-- slices.Compact, of a rising list. -/
def CompP (w0 w : World) (g : Nat) (xs : List Int) (e : Ending) (w' : World) : Prop :=
  ∃ (A : Option Addr) (c : Nat) (r : List Int), e = .returned (.slice A r.length c) ∧ r.length ≤ c ∧ Kd.C (Kd.int .u64) w' A r.length r ∧ r.Pairwise (· < ·) ∧ (∀ v, v ∈ r ↔ v ∈ xs) ∧ Below w0.heap.size w0 w'
theorem C_of_holds {w : World} {g : Nat} {r : List Int} (hm : r.length ≤ 9223372036854775807) (h : ∀ j (hj : j < r.length), w.cell? ⟨g, j, none⟩ = some (.int .u64 r[j])) : Kd.C (Kd.int .u64) w (some ⟨g, 0, none⟩) r.length r := by
  refine ⟨rfl, hm, fun hp => ⟨⟨g, 0, none⟩, rfl, fun j x hj => ⟨[.int .u64 x], rfl, rfl, fun q u hu => ?_⟩⟩⟩
  obtain ⟨hjl, rfl⟩ := List.getElem?_eq_some_iff.1 hj
  match q, hu with
  | 0, hu =>
    simp at hu
    subst hu
    have e2 : (⟨g, 0, none⟩ : Addr).add (j * (Kd.int .u64).sz + 0) = ⟨g, j, none⟩ := by
      rw [show j * (Kd.int .u64).sz + 0 = j from Nat.mul_one j]
      cases j <;> simp [Addr.add]
    rw [e2]
    exact h j hjl
  | q + 1, hu => simp at hu
theorem below_putRow {n : Nat} {w : World} (q g : Nat) (d : Array Int) (hg : n ≤ g) : Below n w (Sort.putRow (Value.int .u64) (Sort.ahead w q) g 0 d) :=
  ⟨rfl, rfl, rfl, by simp [Sort.ahead], fun k hk => by
    show (Sort.mapBlock (Sort.ahead w q) g _).heap[k]? = _
    unfold Sort.mapBlock
    simp only [Array.getElem?_modify]
    rw [if_neg (by omega)]
    rfl⟩
set_option maxHeartbeats 4000000 in
set_option maxRecDepth 100000 in
theorem short_calls (w : World) (A : Option Addr) (n c : Nat) (hn : n < 2) : Calls Try.prog 82 #[.slice A n c] w fun e w' => e = .returned (.slice A n c) ∧ w' = w := by
  have hd : decide ((n : Int) < 2) = true := decide_eq_true (by omega)
  go_enter Try.func82, Try.ntmps82
  go_wp2
  go_ret
  exact ⟨rfl, rfl⟩
theorem comp_calls {w0 w : World} {P : Nat → Prop} {A : Option Addr} {c : Nat} {xs : List Int} (hx : xs.length ≤ 12) (hs : SortedTo xs xs.length) (hB : Below w0.heap.size w0 w) (hR : Kd.R (Kd.int .u64) 26 w w0.heap.size P (.slice A xs.length c) xs) (g : Nat) :
    Calls Try.prog 82 #[.slice A xs.length c] w (CompP w0 w g xs) := by
  obtain ⟨_, hcap, hC⟩ := Kd.R_reads' hR
  by_cases h2 : xs.length < 2
  · refine (short_calls w A xs.length c h2).mono ?_
    rintro e w' ⟨rfl, rfl⟩
    refine ⟨A, c, xs, rfl, hcap, hC, ?_, fun v => Iff.rfl, hB⟩
    match xs, h2 with
    | [], _ => exact List.Pairwise.nil
    | [x], _ => exact List.pairwise_singleton _ _
  · cases A with
    | none =>
      have h3 := hC.2.2 (by omega)
      obtain ⟨ad, hd, _⟩ := h3
      cases hd
    | some ad =>
      obtain ⟨gb, rfl⟩ := Kd.R_head hR
      have hbase : w0.heap.size ≤ gb := Kd.R_base hR gb rfl
      have hH : Sort.Holds (Value.int .u64) w gb 0 xs.toArray := fun j hj => by
        have hj' : j < xs.length := by simpa using hj
        have hc := Kd.R_celln 0 hR (j : Int) (by omega) (by omega)
        rw [Int.toNat_natCast, show rdOf 0 xs (j : Int) = xs[j] by simp [rdOf, List.getD_eq_getElem?_getD, List.getElem?_eq_getElem hj']] at hc
        rw [Nat.zero_add]
        have e : xs.toArray[j]! = xs[j] := by simp [hj']
        rw [e]
        exact hc
      have hcon := AnyE.slices_Compact RunS.lays (Value.int .u64) (fun _ => rfl) (EqlAt.intD _ _ .u64) (NeqAt.intD _ _ .u64) 0 Try.zeroValue26 gb 0 c xs.toArray w hH (by simp; omega) (by simpa using hcap)
      refine Calls.mono (show Calls Try.prog 82 #[.slice (some ⟨gb, 0, none⟩) xs.length c] w _ from hcon) ?_
      rintro e w' ⟨rfl, q, rfl⟩
      obtain ⟨h1, h3⟩ := kept hs
      have hle : (Lib.compactUpTo xs.toArray xs.toArray.size).length ≤ xs.length := by
        have : (Lib.compactUpTo xs.toArray xs.toArray.size).length ≤ xs.toArray.size := by
          unfold Lib.compactUpTo
          rw [List.length_map]
          exact Nat.le_trans (List.length_filter_le _ _) (by simp)
        simpa using this
      generalize Lib.compactUpTo xs.toArray xs.toArray.size = K at h1 h3 hle
      refine ⟨some ⟨gb, 0, none⟩, c, K, rfl, by omega, C_of_holds (by omega) (fun j hj => ?_), h1, h3, hB.trans (below_putRow q gb _ hbase)⟩
      have := Sort.cell?_putRow (Value.int .u64) (Sort.ahead w q) gb 0 xs.toArray (K ++ List.replicate (xs.toArray.size - K.length) 0).toArray (Sort.holds_ahead _ w q gb 0 _ hH) (by simp; omega) j (by simp; omega)
      rw [Nat.zero_add] at this
      rw [this]
      have hj2 : j < (K ++ List.replicate (xs.toArray.size - K.length) 0).length := by simp; omega
      have e : (K ++ List.replicate (xs.toArray.size - K.length) 0).toArray[j]! = K[j] := by
        rw [getElem!_pos _ j (by simpa using hj2)]
        simp [hj]
      rw [e]
end Go.Proofs.Ytcbnmmkmgpbfiaa.RunW
