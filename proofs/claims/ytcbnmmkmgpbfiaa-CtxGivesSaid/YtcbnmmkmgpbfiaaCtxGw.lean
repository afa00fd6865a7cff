/- CtxGives: the walk. -/
import Derived.Test.YtcbnmmkmgpbfiaaCtxG
import Derived.Test.YtcbnmmkmgpbfiaaArgs3
import Derived.Deep.DeepCutAuto
import Derived.Deep.Light
namespace Go.Proofs.Ytcbnmmkmgpbfiaa.PP
open Go.RowKit Go.Proofs.Ytcbnmmkmgpbfiaa.PX Go.Proofs.YtcbnmmkmgpbfiaaW.PrintWords Go.Proofs.YtcbnmmkmgpbfiaaW.PrintLast Go.Proofs.YtcbnmmkmgpbfiaaW.PrintMore
attribute [local go_sem] max2_int min2_int max_two min_two max_three min_three max_four min_four   -- for this text's walks alone
set_option linter.unusedVariables false
set_option linter.unusedSimpArgs false
theorem nonneg_of {n : Int} (hn : Wf n) : (n < 0 → ∃ q : Nat, wrap64 (-wrap64 (n + 1)) = (q : Int)) ∧ (¬ n < 0 → ∃ q : Nat, n = (q : Int)) :=
  ⟨neg_nat hn, fun h => ⟨n.toNat, by omega⟩⟩
theorem ten' (q : Nat) : ∃ N : Nat, 1 ≤ N ∧ N ≤ 10 ∧ 1 + (q : Int) % 10 = (N : Int) := ⟨1 + q % 10, by omega, by omega, by omega⟩
set_option maxHeartbeats 8000000 in
set_option maxRecDepth 100000 in
theorem gives_law (n : Int) (A : Option Addr) (c : Nat) (xs : List Int) (hn : Wf n) (w : World) (hC : Kd.C (Kd.int .i64) w A xs.length xs) (hxc : xs.length ≤ c) (hok : ∀ x ∈ xs, -2 ^ 63 ≤ x ∧ x < 2 ^ 63) :
    Calls Try.prog 6 #[.int .i64 n, .slice A xs.length c] w fun e w' => e = .returned (.bool true) ∧ Below w.heap.size w w' := by
  have HC := Aside0.mk hC
  have HOK := Aside0.mk hok
  clear hC hok
  go_enter Try.func6, Try.ntmps6
  go_upto_if 20 with fail
  go_cut [0] (fun v wx => (∃ q : Nat, v = .int .i64 q) ∧ wx = w)
  case first =>
    by_cases h1 : n < 0
    · have d1 : decide (n < 0) = true := decide_eq_true h1
      obtain ⟨q, hq⟩ := (nonneg_of hn).1 h1
      have HQ := Aside0.mk hq
      clear hq
      go_wp2
      go_meet
      case rel => exact ⟨⟨q, by rw [HQ.out]⟩, rfl⟩
    · have d1 : decide (n < 0) = false := decide_eq_false h1
      obtain ⟨q, hq⟩ := (nonneg_of hn).2 h1
      go_wp2
      go_meet
      case rel => exact ⟨⟨q, rfl⟩, rfl⟩
  case rest =>
  obtain ⟨⟨q, rfl⟩, rfl⟩ := hcut
  clear hn
  obtain ⟨N, hN1, hN2, hN⟩ := ten' q
  have HN := Aside0.mk hN
  clear hN
  have hmx : max (N : Int) 0 = (N : Int) := by omega
  go_wp2_with fail
  rw [HN.out]
  clear HN
  refine (new_st wc N N hN2 hmx).mono ?_
  rintro e w1 ⟨B, bm, vo, rfl, hst, hb⟩
  have HST := Aside0.mk hst
  have HB := Aside0.mk hb
  clear hst hb
  go_wp2_with fail
  go_loopw [6] (fun iv wr => ∃ i : Nat, iv = .int .i64 i ∧ i ≤ N ∧ Aside0 (St wr wc.heap.size B bm vo (startL N i) ((i : Int) % (N : Int) + 1) (if i = N then 1 else 0)) ∧ Aside0 (Below wc.heap.size wc wr)) (fun iv _ => N - (intOf iv).toNat)
  case atStart =>
    refine ⟨0, rfl, by omega, ⟨?_⟩, HB⟩
    have h := HST.out
    rw [startL_zero, if_neg (by omega)]
    simpa using h
  case round =>
    clear HST HB hmx
    obtain ⟨i, rfl, hi, HI, HB⟩ := hrel
    by_cases hlt : (i : Int) < (N : Int)
    · have hld : decide ((i : Int) < (N : Int)) = true := decide_eq_true hlt
      have hiN : i < N := by omega
      go_wp2_with fail
      refine (round_take hN2 hiN HI.out).mono ?_
      rintro e w2 ⟨rfl, h2, m2⟩
      have hb2 := HI.out.mv HB.out m2 HB.out.size
      have H2 := Aside0.mk h2
      have HB2 := Aside0.mk hb2
      clear h2 hb2 m2 HI HB
      have hwi : wrap64 ((i : Int) + 1) = (i : Int) + 1 := w_small (by omega)
      go_wp2
      clear hwi
      go_roundw
      case rel => exact ⟨i + 1, by push_cast; rfl, by omega, H2, HB2⟩
      case measure => simp [intOf]; omega
    · have hld : decide ((i : Int) < (N : Int)) = false := decide_eq_false hlt
      have hiN : i = N := by omega
      have h3 := HI.out
      rw [hiN, if_pos rfl, Int.emod_self] at h3
      have H3 := Aside0.mk (show St wr wc.heap.size B bm vo (fullL N) 1 1 from h3)
      clear h3 HI hiN
      go_wp2_with fail
      refine (full_take ⟨hN1, hN2⟩ ⟨by omega, by omega⟩ ⟨by omega, by omega⟩ H3.out).mono ?_
      rintro e w2 ⟨rfl, h4, m4⟩
      have hb4 := H3.out.mv HB.out m4 HB.out.size
      have H4 := Aside0.mk h4
      have HB4 := Aside0.mk hb4
      clear h4 hb4 m4 H3 HB hld hlt
      go_wp2_with fail
      go_loopg [9] xs.length (fun k iv wr => ∃ (i : Nat) (hand rounds : Int), iv = .int .i64 i ∧ i + k = xs.length ∧ i ≤ 20 ∧ (1 ≤ hand ∧ hand ≤ (N : Int)) ∧ (0 ≤ rounds ∧ rounds ≤ 1 + i) ∧ Aside0 (St wr wc.heap.size B bm vo (fullL N) hand rounds) ∧ Aside0 (Below wc.heap.size wc wr))
      case atStart => exact ⟨0, 1, 1, rfl, by omega, by omega, ⟨by omega, by omega⟩, ⟨by omega, by omega⟩, H4, HB4⟩
      case round =>
        clear H4 HB4
        obtain ⟨j, hand, rounds, rfl, hj, hj20, hh, hr, HI, HB⟩ := hrel
        have HHR := Aside0.mk (And.intro hh hr)
        clear hh hr
        by_cases hl1 : (j : Int) < (xs.length : Int)
        · have hd1 : decide ((j : Int) < (xs.length : Int)) = true := decide_eq_true hl1
          by_cases hl2 : (j : Int) < 20
          · have hd2 : decide ((j : Int) < 20) = true := decide_eq_true hl2
            have hjl : j < xs.length := by omega
            have hj0 : (0 : Int) ≤ (j : Int) := by omega
            obtain ⟨ad, rfl, x0⟩ := Args3.at_int (Kd.C_below HC.out HB.out) j hjl
            have hsb := HOK.out _ (List.getElem_mem hjl)
            generalize xs[j] = s at x0 hsb
            have HSB := Aside0.mk hsb
            have HJ := Aside0.mk hj
            clear hsb hj
            go_upto_if 62 with fail
            go_cut [10] (fun v wx => (∃ q : Nat, v = .int .i64 q) ∧ wx = wr)
            case first =>
              by_cases h1 : s < 0
              · have d1 : decide (s < 0) = true := decide_eq_true h1
                obtain ⟨q, hq⟩ := (nonneg_of (n := s) (by have := HSB.out; unfold Wf; omega)).1 h1
                have HQ := Aside0.mk hq
                clear hq
                go_wp2
                go_meet
                case rel => exact ⟨⟨q, by rw [HQ.out]⟩, rfl⟩
              · have d1 : decide (s < 0) = false := decide_eq_false h1
                obtain ⟨q, hq⟩ := (nonneg_of (n := s) (by have := HSB.out; unfold Wf; omega)).2 h1
                subst hq
                go_wp2
                go_meet
                case rel => exact ⟨⟨q, rfl⟩, rfl⟩
            case rest =>
            obtain ⟨⟨q, rfl⟩, rfl⟩ := hcut
            clear HSB
            have hne : ((N : Int) == 0) = false := by rw [beq_eq_false_iff_ne]; omega
            have hN0 : ¬ (N = 0) := by omega
            obtain ⟨k, hk, hkm⟩ : ∃ k : Nat, k < N ∧ (q : Int) % (N : Int) = (k : Int) := ⟨q % N, Nat.mod_lt _ (by omega), rfl⟩
            have HKM := Aside0.mk hkm
            clear hkm
            go_wp2_with fail
            rw [HKM.out]
            clear HKM x0 hd1 hd2 hl1
            have hhr := HHR.out
            refine (full_give ⟨hN1, hN2⟩ hhr.1 ⟨by omega, by omega⟩ HI.out hk).mono ?_
            rintro e w3 ⟨rfl, h5, m5⟩
            have hb5 := HI.out.mv HB.out m5 HB.out.size
            have H5 := Aside0.mk h5
            have HB5 := Aside0.mk hb5
            clear h5 hb5 m5 HI HB hhr
            go_wp2_with fail
            refine (given_of hk hN2 H5.out).mono ?_
            rintro e w4 ⟨rfl, rfl⟩
            go_wp2_with fail
            refine (given_owner hk hN2 H5.out).mono ?_
            rintro e w5 ⟨rfl, rfl⟩
            go_wp2_with fail
            have hhr := HHR.out
            refine (given_take ⟨hN1, hN2⟩ hhr.1 ⟨by omega, by omega⟩ hk H5.out).mono ?_
            rintro e w6 ⟨rfl, h6, m6⟩
            have hb6 := H5.out.mv HB5.out m6 HB5.out.size
            have hnb := nxt_pos hk
            have hrb := rnd_bound (hand := hand) (n := N) (i := k) hhr.2.1
            obtain ⟨hand2, hh2⟩ : ∃ x, nxt N k = x := ⟨_, rfl⟩
            obtain ⟨rounds2, hr2⟩ : ∃ x, rnd hand rounds N k = x := ⟨_, rfl⟩
            rw [hh2] at h6 hnb
            rw [hr2] at h6 hrb
            have HNB := Aside0.mk (And.intro hnb (show 0 ≤ rounds2 ∧ rounds2 ≤ 1 + ((j + 1 : Nat) : Int) by push_cast; omega))
            have H6 := Aside0.mk h6
            have HB6 := Aside0.mk hb6
            clear h6 hb6 m6 H5 HB5 hh2 hr2 hhr hnb hrb HHR
            go_wp2_with fail
            have hnr := HNB.out
            refine (full_free ⟨hN1, hN2⟩ hnr.1 ⟨by omega, by omega⟩ H6.out).mono ?_
            rintro e w7 ⟨rfl, hb7⟩
            have H7 := Aside0.mk (H6.out.below hb7)
            have HB7 := Aside0.mk (HB6.out.trans (hb7.mono HB6.out.size))
            clear hb7 H6 HB6 hnr
            have hwj : wrap64 ((j : Int) + 1) = (j : Int) + 1 := w_small (by omega)
            go_wp2
            clear hwj
            have hjk := HJ.out
            go_roundg (gk - 1)
            case measure => omega
            case rel => exact ⟨j + 1, hand2, rounds2, by push_cast; rfl, by omega, by omega, HNB.out.1, HNB.out.2, H7, HB7⟩
          · have hd2 : decide ((j : Int) < 20) = false := decide_eq_false hl2
            go_wp2_with fail
            refine (lives_calls _).mono ?_
            rintro e w3 ⟨rfl, hb3⟩
            have hbf := HB.out.trans (hb3.mono HB.out.size)
            clear hb3
            go_wp2
            go_ret
            exact ⟨rfl, hbf⟩
        · have hd1 : decide ((j : Int) < (xs.length : Int)) = false := decide_eq_false hl1
          go_wp2_with fail
          refine (lives_calls _).mono ?_
          rintro e w3 ⟨rfl, hb3⟩
          have hbf := HB.out.trans (hb3.mono HB.out.size)
          clear hb3
          go_wp2
          go_ret
          exact ⟨rfl, hbf⟩

end Go.Proofs.Ytcbnmmkmgpbfiaa.PP
