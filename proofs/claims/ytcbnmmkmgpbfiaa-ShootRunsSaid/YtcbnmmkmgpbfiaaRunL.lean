/- ShootRuns: the law's walk. -/
import Derived.Test.YtcbnmmkmgpbfiaaRunV
import Derived.Test.YtcbnmmkmgpbfiaaOpenN
import Derived.Deep.CutBlock
import Derived.Deep.QuietTactic
import Derived.BigQuiet
namespace Go.Proofs.Ytcbnmmkmgpbfiaa.RunW
open Go.RowKit Go.Proofs.Ytcbnmmkmgpbfiaa.PN Go.Proofs.Ytcbnmmkmgpbfiaa.RunP Go.Proofs.YtcbnmmkmgpbfiaaW.PrintWords Go.Proofs.YtcbnmmkmgpbfiaaW.PrintLast Go.Proofs.YtcbnmmkmgpbfiaaW.PrintMore
attribute [local go_sem] max2_int min2_int max_two min_two max_three min_three max_four min_four   -- for this text's walks alone
set_option linter.unusedVariables false
set_option linter.unusedSimpArgs false
theorem C_take {α : Type} {d : Kd α} {w : World} {A : Option Addr} {n m : Nat} {xs : List α} (h : Kd.C d w A n xs) (hm : m ≤ n) : Kd.C d w A m (xs.take m) := by
  obtain ⟨h1, h2, h3⟩ := h
  refine ⟨by rw [List.length_take]; omega, by omega, fun hp => ?_⟩
  obtain ⟨a, ha, hr⟩ := h3 (by omega)
  refine ⟨a, ha, fun j x hj => ?_⟩
  rw [List.getElem?_take] at hj
  split at hj
  · exact hr j x hj
  · cases hj
theorem at_u {W : World} {A : Option Addr} {xs : List Int} (hC : Kd.C (Kd.int .u64) W A xs.length xs) (i : Nat) (hi : i < xs.length) : ∃ ad, A = some ad ∧ W.cell? (ad.add i) = some (.int .u64 xs[i]) := by
  obtain ⟨_, _, h3⟩ := hC
  obtain ⟨ad, rfl, h4⟩ := h3 (by omega)
  obtain ⟨cs, h5, h6, h7⟩ := h4 i _ (List.getElem?_eq_getElem hi)
  have h6' : cs = [.int .u64 xs[i]] := h6
  subst h6'
  have := h7 0 _ rfl
  refine ⟨ad, rfl, ?_⟩
  have e : i * (Kd.int .u64).sz + 0 = i := Nat.mul_one i
  rw [e] at this
  exact this
theorem at_pa {W : World} {A : Option Addr} {xs : List S30} (hC : Kd.C k30 W A xs.length xs) (i : Nat) (hi : i < xs.length) : ∃ ad, A = some ad ∧ W.cell? ⟨(ad.add (i * 11)).block, (ad.add (i * 11)).off + 2, none⟩ = some (.int .u64 (pas xs)[i]!) := by
  obtain ⟨ad, ead, x0, x1, x2, _⟩ := at_T30 hC i (by omega) (by omega)
  rw [Int.toNat_natCast] at x2
  refine ⟨ad, ead, ?_⟩
  have e : (pas xs)[i]! = (rd_T30 xs (i : Int)).f2 := by
    rw [getElem!_pos _ i (by simp [pas]; omega)]
    simp [pas, rd_T30, List.getD_eq_getElem?_getD, List.getElem?_eq_getElem hi]
  rw [e]
  exact x2
theorem lives_true : lookasidelaw19_lives.f = some true := by decide +kernel
/-- What holds behind Runs. -/
structure Rn (w W : World) (A0 : Option Addr) (T : List S30) (A : Option Addr) (r : List Int) : Prop where
  ct : Kd.C k30 W A0 T.length T
  cr : Kd.C (Kd.int .u64) W A r.length r
  bl : Below w.heap.size w W
theorem Rn.below {w W W' : World} {A0 : Option Addr} {T : List S30} {A : Option Addr} {r : List Int} (h : Rn w W A0 T A r) (hb : Below W.heap.size W W') : Rn w W' A0 T A r := ⟨Kd.C_below h.ct hb, Kd.C_below h.cr hb, h.bl.trans (hb.mono h.bl.size)⟩
set_option maxHeartbeats 8000000 in
set_option maxRecDepth 100000 in
theorem runs_law (w : World) (A0 : Option Addr) (c0 : Nat) (xs : List S30) (hC : Kd.C k30 w A0 xs.length xs) (hxc : xs.length ≤ c0) :
    Calls Try.prog 11 #[.slice A0 xs.length c0] w fun e w' => e = .returned (.bool true) ∧ Below w.heap.size w w' := by
  have hT1 : (xs.take 12).length = min 12 xs.length := List.length_take
  have hCT : Kd.C k30 w A0 (xs.take 12).length (xs.take 12) := by
    by_cases h : xs.length ≤ 12
    · rw [List.take_of_length_le h]; exact hC
    · have := C_take hC (show 12 ≤ xs.length by omega)
      rw [hT1, show min 12 xs.length = 12 by omega]; exact this
  have HC := Aside0.mk hCT
  have HT := Aside0.mk hT1
  clear hC hCT hT1
  go_enter Try.func11, Try.ntmps11
  go_upto_if 11 with fail
  go_cut [0] (fun v wx => (∃ c : Nat, v = .slice A0 (xs.take 12).length c ∧ (xs.take 12).length ≤ c) ∧ wx = w)
  case first =>
    by_cases h1 : (xs.length : Int) > 12
    · have d1 : decide ((xs.length : Int) > 12) = true := decide_eq_true h1
      have h2 : (12 : Int) ≤ (c0 : Int) := by omega
      have ht : (xs.take 12).length = 12 := by have := HT.out; omega
      go_wp2
      go_meet
      case rel => exact ⟨⟨c0, by rw [ht], by omega⟩, rfl⟩
    · have d1 : decide ((xs.length : Int) > 12) = false := decide_eq_false h1
      have ht : (xs.take 12).length = xs.length := by have := HT.out; omega
      go_wp2
      go_meet
      case rel => exact ⟨⟨c0, by rw [ht], by omega⟩, rfl⟩
  case rest =>
  obtain ⟨⟨c, rfl, hc⟩, hw0⟩ := hcut
  replace hw0 := hw0.symm
  subst hw0
  have hT12 : (xs.take 12).length ≤ 12 := by have := HT.out; omega
  clear HT
  generalize xs.take 12 = T at *
  go_wp2_with fail
  refine (runs_calls w A0 c T HC.out hc hT12).mono ?_
  rintro e w1 ⟨A, c1, r, rfl, hc1, hCr, hpw, hmem, hb⟩
  have HR := Aside0.mk (Rn.mk (A0 := A0) (T := T) (Kd.C_below HC.out hb) hCr hb)
  have HPW := Aside0.mk hpw
  have HMEM := Aside0.mk hmem
  have hrm : r.length ≤ 9223372036854775807 := Kd.C_max hCr
  have hpl : (pas T).length = T.length := by simp [pas]
  have HPL := Aside0.mk hpl
  clear hCr hpw hmem hb HC hpl
  go_upto_block 0 with fail
  go_cut [] (fun wx => Rn w wx A0 T A r)
  case first =>
    go_wp2_with fail
    go_loopg [4] (r.length + 1) (fun k iv wr => ∃ q : Nat, iv = .int .i64 ((q : Int) + 1) ∧ q + k = r.length + 1 ∧ Aside0 (Rn w wr A0 T A r))
    case atStart => exact ⟨0, rfl, by omega, HR⟩
    case round =>
      clear HR
      obtain ⟨q, rfl, hqk, HR⟩ := hrel
      have HQK := Aside0.mk hqk
      clear hqk
      by_cases hq : (q : Int) + 1 < (r.length : Int)
      · have hqd : decide ((q : Int) + 1 < (r.length : Int)) = true := decide_eq_true hq
        obtain ⟨ad, hA, z1⟩ := at_u HR.out.cr (q + 1) (by omega)
        subst hA
        obtain ⟨ad', hA', z0⟩ := at_u HR.out.cr q (by omega)
        injection hA' with hA'
        subst hA'
        have hlt := List.pairwise_iff_getElem.1 HPW.out q (q + 1) (by omega) (by omega) (by omega)
        generalize r[q] = a at z0 hlt
        generalize r[q + 1] = b at z1 hlt
        have z1' : wr.cell? ⟨ad.block, ad.off + (q + 1), none⟩ = some (.int .u64 b) := by
          have e : ad.add (q + 1) = ⟨ad.block, ad.off + (q + 1), none⟩ := by simp [Addr.add]
          rw [e] at z1; exact z1
        have hle : decide (b ≤ a) = false := decide_eq_false (by omega)
        have hq0 : (0 : Int) ≤ (q : Int) := by omega
        have hq1 : (q : Int) < (r.length : Int) := by omega
        have hq2 : (0 : Int) ≤ (q : Int) + 1 := by omega
        have hw1 : IntKind.i64.wrap ((q : Int) + 1 - 1) = (q : Int) := by rw [i64_w]; unfold wrap64; omega
        have hw2 : IntKind.i64.wrap (q : Int) = (q : Int) := by rw [i64_w]; unfold wrap64; omega
        have hw3 : ((q : Int) + 1).toNat = q + 1 := by omega
        clear hlt
        go_wp2_with fail
        go_quiet (fail)
        clear hw1 hw2 hw3
        go_wp2
        have hqk := HQK.out
        go_roundg (gk - 1)
        case measure => omega
        case rel => exact ⟨q + 1, by push_cast; rfl, by omega, ⟨HR.out.below (pw_below_drewN (Below.refl _ _) nq)⟩⟩
      · have hqd : decide ((q : Int) + 1 < (r.length : Int)) = false := decide_eq_false hq
        go_wp2_with fail
        go_meet
        case rel => exact HR.out
  case rest =>
  have HR := Aside0.mk hcut
  clear hcut
  go_wp2_with fail
  go_loopg [5, 6] r.length (fun k nv kv wr => ∃ j : Nat, kv = .int .i64 j ∧ nv = .int .i64 (cnt (pas T) r j) ∧ j + k = r.length ∧ Aside0 (Rn w wr A0 T A r))
  case atStart => exact ⟨0, rfl, by rw [cnt_zero], by omega, HR⟩
  case round =>
    clear HR
    obtain ⟨j, rfl, rfl, hjk, HR⟩ := hrel
    obtain ⟨ga, hga⟩ : ∃ x, x = gk := ⟨_, rfl⟩
    rw [← hga] at hjk
    have HGA := Aside0.mk hga
    have HJK := Aside0.mk hjk
    clear hga hjk
    by_cases hj : (j : Int) < (r.length : Int)
    · have hjd : decide ((j : Int) < (r.length : Int)) = true := decide_eq_true hj
      have hjl : j < r.length := by omega
      obtain ⟨v, hv⟩ : ∃ v, r[j] = v := ⟨_, rfl⟩
      have hcs := cnt_succ hjl HPW.out (ps := pas T)
      rw [hv] at hcs
      have hvm : v ∈ pas T := (HMEM.out v).1 (hv ▸ List.getElem_mem hjl)
      have HV := Aside0.mk hv
      have HCS := Aside0.mk hcs
      have HVM := Aside0.mk hvm
      have hcb := cnt_bd (pas T) r j
      have hcb2 := cnt_bd (pas T) r (j + 1)
      generalize hcn : cnt (pas T) r j = cn at *
      have HCN := Aside0.mk hcn
      have HPLv := HPL.out
      have hcb0 : 0 ≤ cn ∧ cn ≤ 12 := by omega
      clear hv hcs hvm hcn hcb hcb2 HPLv
      go_upto_block 4 with fail
      go_cut [5, 7] (fun nv fv wx => nv = .int .i64 (cn + eqs (pas T) v T.length) ∧ fv = .bool true ∧ Rn w wx A0 T A r)
      case first =>
        go_wp2_with fail
        go_loopg [5, 7, 8] T.length (fun k nv fv iv wr => ∃ i : Nat, iv = .int .i64 i ∧ nv = .int .i64 (cn + eqs (pas T) v i) ∧ fv = .bool (decide (v ∈ (pas T).take i)) ∧ i + k = T.length ∧ Aside0 (Rn w wr A0 T A r))
        case atStart => exact ⟨0, rfl, by rw [eqs_zero, Int.add_zero], by rw [found_zero], by omega, HR⟩
        case round =>
          clear HR
          obtain ⟨i, rfl, rfl, rfl, hik, HR⟩ := hrel
          have HIK := Aside0.mk hik
          clear hik
          by_cases hi : (i : Int) < (T.length : Int)
          · have hid : decide ((i : Int) < (T.length : Int)) = true := decide_eq_true hi
            have hil : i < T.length := by omega
            have hilp : i < (pas T).length := by rw [HPL.out]; exact hil
            obtain ⟨ad, hA, x2⟩ := at_pa HR.out.ct i hil
            subst hA
            obtain ⟨ad2, hA2, z0⟩ := at_u HR.out.cr j hjl
            subst hA2
            rw [HV.out] at z0
            rw [getElem!_pos _ i hilp] at x2
            have hes := eqs_succ (v := v) hilp
            have hfs := found_succ (v := v) hilp
            generalize (pas T)[i] = p at x2 hes hfs
            have HES := Aside0.mk hes
            have HFS := Aside0.mk hfs
            have heb := eqs_bd (pas T) v i
            rw [HPL.out] at heb
            have HQ := Aside0.mk (show eqs (pas T) v i = eqs (pas T) v i from rfl)
            generalize hes2 : eqs (pas T) v i = es at *
            have HS2 := Aside0.mk hes2
            generalize hfd : decide (v ∈ List.take i (pas T)) = fd at *
            have HFD := Aside0.mk hfd
            have hb1 : 0 ≤ es := heb.1
            have hb2 : es ≤ 12 := by omega
            have hb3 := hcb0.1
            have hb4 := hcb0.2
            have hi0 : (0 : Int) ≤ (i : Int) := by omega
            have hj0 : (0 : Int) ≤ (j : Int) := by omega
            clear hes hfs heb hes2 hfd HQ
            by_cases hpv : p = v
            · have hpd : (p == v) = true := beq_iff_eq.2 hpv
              go_wp2_with fail
              go_quiet (fail)
              go_wp2
              have hik := HIK.out
              go_roundg (gk - 1)
              case measure => omega
              case rel => exact ⟨i + 1, by push_cast; rfl, by rw [HES.out, if_pos hpv, Int.add_assoc], by rw [HFS.out, decide_eq_true hpv, Bool.or_true], by omega, ⟨HR.out.below (pw_below_drewN (Below.refl _ _) nq)⟩⟩
            · have hpd : (p == v) = false := beq_eq_false_iff_ne.2 hpv
              go_wp2_with fail
              go_quiet (fail)
              go_wp2
              have hik := HIK.out
              go_roundg (gk - 1)
              case measure => omega
              case rel => exact ⟨i + 1, by push_cast; rfl, by rw [HES.out, if_neg hpv, Int.add_zero], by rw [HFS.out, decide_eq_false hpv, Bool.or_false], by omega, ⟨HR.out.below (pw_below_drewN (Below.refl _ _) nq)⟩⟩
          · have hid : decide ((i : Int) < (T.length : Int)) = false := decide_eq_false hi
            have hir : i = T.length := by have := HIK.out; omega
            have hft : decide (v ∈ (pas T).take T.length) = true := decide_eq_true (by rw [List.take_of_length_le (by rw [HPL.out]; exact Nat.le_refl _)]; exact HVM.out)
            rw [hir, hft]
            rw [hir] at hid hi
            clear hir hft
            go_wp2_with fail
            go_meet
            case rel => exact ⟨rfl, rfl, HR.out⟩
      case rest =>
      obtain ⟨rfl, rfl, hr⟩ := hcut
      have HR := Aside0.mk hr
      clear hr
      have hcs := HCS.out
      rw [HPL.out] at hcs
      rw [← hcs]
      clear hcs
      go_wp2
      have hjk := HJK.out
      have hga := HGA.out
      go_roundg (ga - 1)
      case measure => omega
      case rel => exact ⟨j + 1, by push_cast; rfl, rfl, by omega, HR⟩
    · have hjd : decide ((j : Int) < (r.length : Int)) = false := decide_eq_false hj
      have hjr : j = r.length := by have := HJK.out; omega
      have hca := cnt_all (ps := pas T) (r := r) (fun v hv => (HMEM.out v).2 hv)
      rw [hjr, hca, HPL.out]
      rw [hjr] at hjd hj
      clear hjr hca
      go_wp2_with fail
      refine (lookasidelaw19_lives.calls true wr lives_true).mono ?_
      rintro e w3 ⟨rfl, hb3⟩
      have hbf := HR.out.bl.trans (hb3.mono HR.out.bl.size)
      clear hb3
      go_wp2
      go_ret
      exact ⟨rfl, hbf⟩
end Go.Proofs.Ytcbnmmkmgpbfiaa.RunW
