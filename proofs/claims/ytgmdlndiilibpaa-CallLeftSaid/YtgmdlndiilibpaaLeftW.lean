/- CallLeft: its walk. -/
import Derived.Test.YtgmdlndiilibpaaCallP
import Derived.Lib.Builder
import Derived.OneCell
namespace Go.Proofs.Ytgmdlndiilibpaa.PC
open Go.RowKit Go.Proofs.YtgmdlndiilibpaaW.PrintWords Go.Proofs.YtgmdlndiilibpaaW.PrintLast Go.Proofs.YtgmdlndiilibpaaW.PrintMore Go.Proofs.Ytgmdlndiilibpaa.Tab Go.Proofs.Ytgmdlndiilibpaa.CallK
attribute [local go_sem] max2_int min2_int max_two min_two max_three min_three max_four min_four   -- for this text's walks alone
set_option linter.unusedVariables false
set_option linter.unusedSimpArgs false
def ownN (tb : List Bool) (i : Nat) : List Int := (nums i).filter fun k => tb.getD k.toNat false
theorem ownN_succ (tb : List Bool) (i : Nat) (b : Bool) (hb : tb[i]? = some b) : ownN tb (i + 1) = if b = true then ownN tb i ++ [(i : Int)] else ownN tb i := by
  have h : tb.getD i false = b := by rw [List.getD_eq_getElem?_getD, hb]; rfl
  unfold ownN
  rw [nums_succ, List.filter_append]
  cases b <;> simp [List.filter_cons, hb]
def qL (tb : List Bool) : List (List Sn) := tb.map fun b => if b = true then [(packV 1 9 0, (0 : Int))] else []
def cnt (tb : List Bool) : Nat := (tb.filter fun b => b).length
theorem own_err (a b c d : Bool) : sendErr 4 1 0 (ownN [a, b, c, d] 4) = 0 := by cases a <;> cases b <;> cases c <;> cases d <;> decide
theorem own_len (a b c d : Bool) : (ownN [a, b, c, d] 4).length = cnt [a, b, c, d] := by cases a <;> cases b <;> cases c <;> cases d <;> decide
theorem own_send (a b c d : Bool) (x : Sn) : qsend (List.replicate 4 []) (ownN [a, b, c, d] 4) x = [a, b, c, d].map fun b => if b = true then [x] else [] := by
  cases a <;> cases b <;> cases c <;> cases d <;> rfl
theorem qL_idle (tb : List Bool) : isIdle (qL tb) = decide (cnt tb = 0) := by
  induction tb with
  | nil => rfl
  | cons b tb ih =>
    have h1 : isIdle (qL (b :: tb)) = ((if b = true then [(packV 1 9 0, (0 : Int))] else []).isEmpty && isIdle (qL tb)) := rfl
    rw [h1, ih]
    cases b <;> simp [cnt]
theorem cnt_set {tb : List Bool} {k : Nat} (h : tb[k]? = some true) : cnt tb = cnt (tb.set k false) + 1 := by
  induction tb generalizing k with
  | nil => simp at h
  | cons b tb ih =>
    cases k with
    | zero => simp at h; subst h; simp [cnt]
    | succ k =>
      simp at h
      have := ih h
      cases b <;> simp [cnt] at this ⊢ <;> omega
theorem cnt_le (tb : List Bool) : cnt tb ≤ tb.length := List.length_filter_le _ _
theorem boxAt {w : World} {bx : Nat} {tb : List Bool} (h : w.heap[bx]? = some (.cells (tb.map Value.bool).toArray 51 (0, 0))) {k : Nat} {b : Bool} (hk : tb[k]? = some b) : w.cell? ⟨bx, k, none⟩ = some (.bool b) := by
  rw [blk_cell h, List.getElem?_toArray, List.getElem?_map, hk]; rfl
theorem boxPut {w : World} {bx : Nat} {tb : List Bool} (h : w.heap[bx]? = some (.cells (tb.map Value.bool).toArray 51 (0, 0))) (k : Nat) (b : Bool) : (w.setCell ⟨bx, k, none⟩ (.bool b)).heap[bx]? = some (.cells ((tb.set k b).map Value.bool).toArray 51 (0, 0)) := by
  have := blk_set h k (.bool b)
  rwa [List.setIfInBounds_toArray, ← List.map_set] at this
set_option maxHeartbeats 8000000 in
set_option maxRecDepth 100000 in
theorem cleft_calls (w : World) (b0 b1 b2 b3 : Bool) (A0 : Option Addr) (c0 : Nat) (xs : List Int) (hr0 : Kd.C (Kd.int .i64) w A0 xs.length xs) (hc0 : xs.length ≤ c0) (hx : ∀ x ∈ xs, -2 ^ 63 ≤ x ∧ x < 2 ^ 63) :
    Calls Try.prog 5 #[.agg #[.bool b0, .bool b1, .bool b2, .bool b3], .slice A0 xs.length c0] w fun e w' => e = .returned (.bool true) ∧ Below w.heap.size w w' := by
  have HR := Aside0.mk hr0
  have HX := Aside0.mk hx
  clear hr0 hx
  have hb0 := (Below.refl w.heap.size w).alloc (Nat.le_refl _) (.cells #[.bool b0, .bool b1, .bool b2, .bool b3] 51)
  have hk0 := blk_new w (.cells #[.bool b0, .bool b1, .bool b2, .bool b3] 51)
  go_enter Try.func5, Try.ntmps5
  go_wp2_with fail
  obtain ⟨bx, hbxe⟩ : ∃ bx, w.heap.size = bx := ⟨_, rfl⟩
  have HG := Aside0.mk hbxe
  rw [hbxe] at hb0 hk0 ⊢
  generalize w.alloc (.cells #[.bool b0, .bool b1, .bool b2, .bool b3] 51) = wb at hb0 hk0 ⊢
  refine (new_calls wb 4 4 (by decide)).mono ?_
  rintro e w1 ⟨B, gw, rfl, h1, hb1⟩
  have hlt := CA_ids_lt h1
  have hw1 : wb.heap.size ≤ w1.heap.size := hb1.size
  have H1 := Aside0.mk h1
  have HLT := Aside0.mk hlt
  have hsz : bx < wb.heap.size := blk_lt hk0
  have HB1 := Aside0.mk (hb0.trans (hb1.mono (Nat.le_of_lt hsz)))
  have HK1 := Aside0.mk (blk_below hk0 hb1)
  have HW1 := Aside0.mk hw1
  have HBS := Aside0.mk hsz
  clear h1 hb1 hb0 hk0 hlt hw1 hbxe hsz
  go_wp2_with fail
  go_loopw [6, 7] (fun ov iv wr => ∃ i : Nat, iv = .int .i64 i ∧ i ≤ 4 ∧ Aside0 (Kd.R (Kd.int .i64) 3 wr w1.heap.size (fun _ => True) ov (ownN [b0, b1, b2, b3] i)) ∧ Aside0 (Below w1.heap.size w1 wr)) (fun _ iv _ => 4 - (intOf iv).toNat)
  case atStart => exact ⟨0, rfl, by omega, ⟨show Kd.R (Kd.int .i64) 3 w1 w1.heap.size (fun _ => True) (.slice none 0 0) [] from Kd.R_nil _ _ _ _ _⟩, ⟨Below.refl _ _⟩⟩
  case round =>
    obtain ⟨i, rfl, hi, HO, HB⟩ := hrel
    obtain ⟨A5, c5, hv5⟩ := Kd.R_slice HO.out
    subst hv5
    have hfl : (ownN [b0, b1, b2, b3] i).length ≤ i := Nat.le_trans (List.length_filter_le _ _) (by rw [nums_len]; omega)
    by_cases hil : (i : Int) < 4
    · have hil' : i < 4 := by omega
      have hi0 : (0 : Int) ≤ (i : Int) := by omega
      obtain ⟨b, hb⟩ : ∃ b, [b0, b1, b2, b3][i]? = some b := ⟨_, List.getElem?_eq_getElem (by simpa using hil')⟩
      have cb := boxAt (blk_below (show w1.heap[bx]? = some (.cells (([b0, b1, b2, b3] : List Bool).map Value.bool).toArray 51 (0, 0)) from HK1.out) HB.out) hb
      obtain ⟨F, hF⟩ : ∃ F, ownN [b0, b1, b2, b3] i = F := ⟨_, rfl⟩
      have hnx := ownN_succ [b0, b1, b2, b3] i b hb
      rw [hF] at HO hfl hnx ⊢
      have HN := Aside0.mk hnx
      clear hnx hF hb
      cases b with
      | false =>
        go_wp2
        go_roundw
        case rel => exact ⟨i + 1, by go_num, by omega, by rw [HN.out, if_neg (by simp)]; exact HO, HB⟩
        case measure => simp [intOf]; omega
      | true =>
        go_wp2_with (first | ((with_reducible refine gate_builtin (b := .append) (xs := #[.tmp 26, .tmp 28]) rfl ?_); at_builtin; refine Kd.R_append (Kd.int .i64) (w0 := w1) w1.heap.size rfl (.tmp 26) (.tmp 28) 36 3 (.int .i64 0) 8 rfl Try.underlying36 info3 rfl (by decide) (by omega) (.slice A5 F.length c5) F (i : Int) [.int .i64 (i : Int)] (fun _ => True) (fun _ => False) rfl rfl ?aP (fun _ hk => hk.elim) ?aF ?aO ?aB ?aS ?aL ?_; (case aP => exact rfl); (case aB => exact HB.out); (case aF => exact (fun _ _ => trivial)); (case aO => exact HO.out); (case aS => exact HB.out.size); (case aL => omega); intro v5 w5 ho5 hb5 hg5 hat5))
        go_roundw
        case rel => exact ⟨i + 1, by go_num, by omega, by rw [HN.out, if_pos rfl]; exact ⟨ho5⟩, ⟨hb5⟩⟩
        case measure => simp [intOf]; omega
    · obtain rfl : i = 4 := by omega
      have hown := own_len b0 b1 b2 b3
      have herr := own_err b0 b1 b2 b3
      have hsnd := own_send b0 b1 b2 b3 (packV 1 9 0, ((([] : List Int).length : Nat) : Int))
      obtain ⟨T, hT⟩ : ∃ T, ownN [b0, b1, b2, b3] 4 = T := ⟨_, rfl⟩
      rw [hT] at hown herr hsnd hfl HO ⊢
      have hn4 : cnt [b0, b1, b2, b3] ≤ 4 := cnt_le _
      obtain ⟨A6, c6, hv6, hc6, hC6⟩ := Kd.R_reads HO.out
      injection hv6 with ha6 _ hcc6
      subst ha6 hcc6
      have hsend := send_calls (H1.out.below HB.out) 1 9 0 A5 c5 T hc6 (fun w' hm => by
        obtain ⟨A7, c7, hv7, hc7, hC7⟩ := Kd.R_reads (Kd.R_step (Kd.R_bound HO.out) (fun k hk hlt => hm.block k hlt (fun hmem => by
          have h1 := HLT.out k hmem
          have h2 : w1.heap.size ≤ k := hk.2.1
          omega)))
        injection hv7 with ha7 _ hcc7
        subst ha7
        exact hC7) (by omega) (by simp) (by simp) (Nat.le_trans HW1.out HB.out.size)
      rw [show (List.replicate 4 ([] : List Sn)).length = 4 from rfl, herr] at hsend
      have HS := Aside0.mk hsend
      have HSND := Aside0.mk hsnd
      have HOWN := Aside0.mk hown
      have HBW := Aside0.mk (HB1.out.trans (HB.out.mono (Nat.le_trans (Nat.le_of_lt HBS.out) HW1.out)))
      have HK := Aside0.mk (blk_below HK1.out HB.out)
      have H2' := Aside0.mk (H1.out.below HB.out)
      have HB9 := HB
      clear hsend hsnd hT HO HB hC6 H1 HB1 HK1 herr hown
      go_wp2_with fail
      refine HS.out.mono ?_
      rintro e w2 ⟨_, h2⟩
      obtain ⟨rfl, vs2, lv2, h2, hm2, hi2⟩ := h2 (by trivial)
      rw [HSND.out] at h2
      have hh : (([] : List Int) ++ [(T.length : Int)]) = [(cnt [b0, b1, b2, b3] : Int)] := by rw [HOWN.out]; rfl
      rw [hh] at h2
      rw [show ([b0, b1, b2, b3].map fun b => if b = true then [(packV 1 9 0, ((([] : List Int).length : Nat) : Int))] else []) = qL [b0, b1, b2, b3] from rfl] at h2
      have hge := ids_ge H2'.out
      have hk2 := (hm2.block bx (Array.getElem?_eq_some_iff.1 HK.out).1 (fun hmem => by have := hge _ hmem; have h9 := HBS.out; omega)).trans HK.out
      have H2 := Aside0.mk h2
      have HK2 := Aside0.mk hk2
      have HB2 := Aside0.mk (HBW.out.trans (hm2.below (Nat.le_trans (Nat.le_of_lt HBS.out) (Nat.le_trans HW1.out HB9.out.size)) (fun k hk => Nat.le_trans (Nat.le_of_lt HBS.out) (hge k hk))))
      clear h2 hm2 hi2 hge hk2 HS HSND HBW HK H2' hh
      go_wp2_with fail
      refine (left_calls H2.out 0).mono ?_
      rintro e w3 ⟨rfl, rfl⟩
      rw [show lefts [(cnt [b0, b1, b2, b3] : Int)] 0 = (cnt [b0, b1, b2, b3] : Int) from rfl, HOWN.out]
      obtain ⟨tb, htb, htl⟩ : ∃ tb : List Bool, [b0, b1, b2, b3] = tb ∧ tb.length = 4 := ⟨_, rfl, rfl⟩
      rw [htb] at H2 hn4 ⊢
      have HK2' : Aside0 (w3.heap[bx]? = some (.cells (tb.map Value.bool).toArray 51 (0, 0))) := ⟨by rw [← htb]; exact HK2.out⟩
      clear HK2 htb HOWN hfl
      go_wp2_with fail
      go_loopw [10, 11] (fun lv iv wr => ∃ (i : Nat) (tb : List Bool) (vs : List Value) (lx : Value), lv = .int .i64 (cnt tb : Int) ∧ iv = .int .i64 i ∧ i ≤ xs.length ∧ i ≤ 20 ∧ tb.length = 4 ∧ Aside0 (CA wr wb.heap.size B gw vs lx (qL tb) [(cnt tb : Int)]) ∧ Aside0 (wr.heap[bx]? = some (.cells (tb.map Value.bool).toArray 51 (0, 0))) ∧ Aside0 (Below bx w wr)) (fun _ iv _ => xs.length - (intOf iv).toNat)
      case atStart => exact ⟨0, tb, _, _, rfl, rfl, by omega, by omega, htl, H2, HK2', HB2⟩
      case round =>
        clear H2 HK2' HB2 htl hn4
        obtain ⟨i, tb, vs, lx, rfl, rfl, hi, hi20, htl, H, HK, HB⟩ := hrel
        have hcn : cnt tb ≤ 4 := htl ▸ cnt_le tb
        by_cases hil : (i : Int) < (xs.length : Int)
        · by_cases hi7 : (i : Int) < 20
          · have hil' : i < xs.length := by omega
            have hi0 : (0 : Int) ≤ (i : Int) := by omega
            obtain ⟨ad, rfl, x0⟩ := at_int (Kd.C_below HR.out (by rw [HG.out]; exact HB.out)) i hil'
            obtain ⟨x, hx⟩ : ∃ x, xs.getD i 0 = x := ⟨_, rfl⟩
            have hxm : x ∈ xs := by rw [← hx]; simp [List.getD_eq_getElem?_getD, List.getElem?_eq_getElem hil']
            have hxb := HX.out x hxm
            rw [hx] at x0
            clear hx hxm
            have hnn : ∃ m : Nat, m < 2 ^ 63 ∧ ((0 ≤ x ∧ x = (m : Int)) ∨ (x < 0 ∧ -(x + 1) = (m : Int))) := by
              by_cases h : x < 0
              · exact ⟨(-(x + 1)).toNat, by omega, Or.inr ⟨h, by omega⟩⟩
              · exact ⟨x.toNat, by omega, Or.inl ⟨by omega, by omega⟩⟩
            obtain ⟨m, hm2, (⟨h1, hm⟩ | ⟨h1, hm⟩)⟩ := hnn
            all_goals
              go_wp2_with fail
              (try rw [hm])
              rw [show ((m : Int) % 4) = ((m % 4 : Nat) : Int) from by omega]
              obtain ⟨kk, hkk⟩ : ∃ kk, m % 4 = kk := ⟨_, rfl⟩
              have hk4 : kk < 4 := by omega
              rw [hkk]
              clear hm h1 hm2 hkk x0 hxb
              obtain ⟨b, hb⟩ : ∃ b, tb[kk]? = some b := ⟨_, List.getElem?_eq_getElem (by omega)⟩
              have hqk : (qL tb)[kk]? = some (if b = true then [(packV 1 9 0, (0 : Int))] else []) := by unfold qL; rw [List.getElem?_map, hb]; rfl
              have hge := ids_ge H.out
              have hnb : bx ∉ CallK.ids B gw vs lx := fun hm => Nat.not_lt.2 (hge _ hm) HBS.out
              cases b with
              | true =>
                have hc := cnt_set hb
                refine (take_some H.out kk 1 9 0 0 [] hqk (.inr ⟨rfl, rfl⟩) (cnt tb : Int) rfl (by omega)).mono ?_
                rintro e w4 ⟨rfl, vs4, h4, hm4, hi4⟩
                have hql : (qL tb).set kk [] = qL (tb.set kk false) := by unfold qL; rw [List.map_set]; rfl
                have hcl : [(cnt tb : Int)].set 0 ((cnt tb : Int) - 1) = [(cnt (tb.set kk false) : Int)] := by rw [hc]; simp
                rw [hql, hcl] at h4
                have hk4' := (hm4.block bx (blk_lt HK.out) hnb).trans HK.out
                have HB4 := Aside0.mk ((HB.out.trans (hm4.below (by rw [← HG.out]; exact HB.out.size) (fun k hk => Nat.le_trans (Nat.le_of_lt HBS.out) (hge k hk)))))
                have hge4 := ids_ge h4
                have hnb4 : bx ∉ CallK.ids B gw vs4 lx := fun hm => Nat.not_lt.2 (hge4 _ hm) HBS.out
                have hb5 := (Below.refl w4.heap.size w4).alloc (Nat.le_refl _) (.cells #[.int .i64 1, .int .i64 9, .int .u64 0] 46)
                have h5 := h4.below hb5
                have hk5 := blk_below hk4' hb5
                have HB5 := Aside0.mk (HB4.out.trans (hb5.mono (by rw [← HG.out]; exact HB4.out.size)))
                have hne : w.heap.size ≤ bx := by rw [HG.out]; exact Nat.le_refl _
                clear hm4 hi4 HB4 hb5 h4 hk4' H HK HB hqk hql hcl hge hge4 hnb
                have cb := boxAt hk5 hb
                have fb : ∀ j, (w4.alloc (.cells #[.int .i64 1, .int .i64 9, .int .u64 0] 46)).frozen? ⟨bx, j, none⟩ = false := fun j => blk_frozen hk5 j
                have h6 : CA ((w4.alloc (.cells #[.int .i64 1, .int .i64 9, .int .u64 0] 46)).setCell ⟨bx, kk, none⟩ (.bool false)) wb.heap.size B gw vs4 lx (qL (tb.set kk false)) [(cnt (tb.set kk false) : Int)] :=
                  h5.step fun k hk => Below.heap_setCell _ _ _ k (fun e => hnb4 (by have e2 : k = bx := e; rw [← e2]; exact hk))
                have hk6 := boxPut hk5 kk false
                have HB6 := Aside0.mk (HB5.out.setCell (p := ⟨bx, kk, none⟩) (Nat.le_refl _) (.bool false))
                have H6 := Aside0.mk h6
                have HK6 := Aside0.mk hk6
                have htl2 : (tb.set kk false).length = 4 := by rw [List.length_set]; exact htl
                obtain ⟨n, hn⟩ : ∃ n, cnt (tb.set kk false) = n := ⟨_, rfl⟩
                have HN := Aside0.mk hn
                rw [hn] at H6
                have hcn2 : cnt tb = n + 1 := by rw [hc, hn]
                rw [hcn2]
                have hid : isIdle (qL (tb.set kk false)) = decide (n = 0) := by rw [qL_idle, hn]
                have HID := Aside0.mk hid
                clear h6 hk6 h5 hk5 hc hn hcn2 HB5 hid
                have hnle : n ≤ 4 := by rw [← HN.out, ← htl2]; exact cnt_le _
                go_wp2_with fail
                refine (left_calls H6.out 0).mono ?_
                rintro e w6 ⟨rfl, rfl⟩
                rw [show lefts [(n : Int)] 0 = (n : Int) from rfl]
                go_wp2_with fail
                refine (idle_calls H6.out).mono ?_
                rintro e w6 ⟨rfl, rfl⟩
                rw [HID.out]
                by_cases hz : n = 0
                · rw [decide_eq_true hz]
                  subst hz
                  go_wp2
                  go_roundw
                  case rel => exact ⟨i + 1, (tb.set kk false), _, lx, (congrArg (fun q : Nat => Value.int .i64 (q : Int)) HN.out.symm), by go_num, by omega, by omega, htl2, by rw [HN.out]; exact H6, HK6, HB6⟩
                  case measure => simp [intOf]; omega
                · rw [decide_eq_false hz]
                  have hz2 : ((n : Int) == 0) = false := by rw [beq_eq_false_iff_ne]; omega
                  go_wp2
                  go_roundw
                  case rel => exact ⟨i + 1, (tb.set kk false), _, lx, (congrArg (fun q : Nat => Value.int .i64 (q : Int)) HN.out.symm), by go_num, by omega, by omega, htl2, by rw [HN.out]; exact H6, HK6, HB6⟩
                  case measure => simp [intOf]; omega
              | false =>
                refine (take_none H.out kk (by unfold waits; rw [if_pos (by omega), Int.toNat_natCast, List.getD_eq_getElem?_getD, hqk]; rfl)).mono ?_
                rintro e w4 ⟨rfl, hb4⟩
                have hb5 := hb4.alloc hb4.size (.cells #[.int .i64 0, .int .i64 0, .int .u64 0] 46)
                have hk5 := blk_below HK.out hb5
                have h5 := H.out.below hb5
                have HB6 := Aside0.mk (HB.out.trans (hb5.mono (by rw [← HG.out]; exact HB.out.size)))
                have cb := boxAt hk5 hb
                have H6 := Aside0.mk h5
                have HK6 := Aside0.mk hk5
                obtain ⟨n, hn⟩ : ∃ n, cnt tb = n := ⟨_, rfl⟩
                have HN := Aside0.mk hn
                rw [hn] at H6 ⊢
                have hid : isIdle (qL tb) = decide (n = 0) := by rw [qL_idle, hn]
                have HID := Aside0.mk hid
                have hnle : n ≤ 4 := by rw [← hn]; exact hcn
                clear hb4 hb5 h5 hk5 hn hid H HK HB hqk hge hnb hcn
                go_wp2_with fail
                refine (left_calls H6.out 0).mono ?_
                rintro e w6 ⟨rfl, rfl⟩
                rw [show lefts [(n : Int)] 0 = (n : Int) from rfl]
                go_wp2_with fail
                refine (idle_calls H6.out).mono ?_
                rintro e w6 ⟨rfl, rfl⟩
                rw [HID.out]
                by_cases hz : n = 0
                · rw [decide_eq_true hz]
                  subst hz
                  go_wp2
                  go_roundw
                  case rel => exact ⟨i + 1, tb, _, lx, (congrArg (fun q : Nat => Value.int .i64 (q : Int)) HN.out.symm), by go_num, by omega, by omega, htl, by rw [HN.out]; exact H6, HK6, HB6⟩
                  case measure => simp [intOf]; omega
                · rw [decide_eq_false hz]
                  have hz2 : ((n : Int) == 0) = false := by rw [beq_eq_false_iff_ne]; omega
                  go_wp2
                  go_roundw
                  case rel => exact ⟨i + 1, tb, _, lx, (congrArg (fun q : Nat => Value.int .i64 (q : Int)) HN.out.symm), by go_num, by omega, by omega, htl, by rw [HN.out]; exact H6, HK6, HB6⟩
                  case measure => simp [intOf]; omega
          · have hle : ¬ ((i : Int) < 20) := hi7
            go_wp2_with fail
            refine (lives_calls _).mono ?_
            rintro e w5 ⟨rfl, hb5⟩
            have HB5 := Aside0.mk (HB.out.trans (hb5.mono (by rw [← HG.out]; exact HB.out.size)))
            go_wp2
            go_ret
            exact ⟨rfl, by rw [HG.out]; exact HB5.out⟩
        · have hle : ¬ ((i : Int) < (xs.length : Int)) := hil
          go_wp2_with fail
          refine (lives_calls _).mono ?_
          rintro e w5 ⟨rfl, hb5⟩
          have HB5 := Aside0.mk (HB.out.trans (hb5.mono (by rw [← HG.out]; exact HB.out.size)))
          go_wp2
          go_ret
          exact ⟨rfl, by rw [HG.out]; exact HB5.out⟩
end Go.Proofs.Ytgmdlndiilibpaa.PC
