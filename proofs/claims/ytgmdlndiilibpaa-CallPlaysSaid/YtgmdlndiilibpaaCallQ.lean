/- The program's calls beside the document's (layer 15): the law's 'like'. Written by mkcq.py over cq.txt. -/
import Derived.Test.YtgmdlndiilibpaaRefE
import Derived.Test.YtgmdlndiilibpaaCallP
import Derived.Lib.Builder
import Derived.OneCell
namespace Go.Proofs.Ytgmdlndiilibpaa.PC
open Go.RowKit Go.Proofs.YtgmdlndiilibpaaW.PrintWords Go.Proofs.YtgmdlndiilibpaaW.PrintLast Go.Proofs.YtgmdlndiilibpaaW.PrintMore Go.Proofs.Ytgmdlndiilibpaa.Tab Go.Proofs.Ytgmdlndiilibpaa.CallK
attribute [local go_sem] max2_int min2_int max_two min_two max_three min_three max_four min_four   -- for this text's walks alone
set_option linter.unusedVariables false
set_option linter.unusedSimpArgs false
/-- The program's calls and the document's. -/
structure St (w : World) (base B gw : Nat) (vs : List Value) (lv : Value) (q : Nat) (qs : List (List Sn)) (left : List Int) (L : List PR.S104) (v : Value) (X : Nat → Prop) : Prop where
  ca : CA w base B gw vs lv qs left
  rel : PR.Rel q qs left L
  rv : Kd.V PR.k104 104 w 0 (fun k => k ∉ ids B gw vs lv ∧ ¬ X k) v L
  gl : ∀ k, X k → k < w.heap.size
theorem St.below {w w' : World} {base B gw : Nat} {vs : List Value} {lv : Value} {q : Nat} {qs : List (List Sn)} {left : List Int} {L : List PR.S104} {v : Value} {X : Nat → Prop} (h : St w base B gw vs lv q qs left L v X) (hb : Below w.heap.size w w') : St w' base B gw vs lv q qs left L v X :=
  ⟨h.ca.below hb, h.rel, Kd.V_below h.rv hb, fun k hk => Nat.lt_of_lt_of_le (h.gl k hk) hb.size⟩
theorem Same_l0 (l : List Int) (hl : l.length ≤ 1000) (d : Nat) : ∀ (k i : Nat), l.length - i = d → i ≤ l.length → d < k → PR.lookasideref02_Same.l0 k l l i = some true := by
  induction d with
  | zero =>
    intro k i hd hi hk
    obtain ⟨k, rfl⟩ : ∃ m, k = m + 1 := ⟨k - 1, by omega⟩
    simp only [PR.lookasideref02_Same.l0]
    rw [if_neg (by omega)]
  | succ d ih =>
    intro k i hd hi hk
    obtain ⟨k, rfl⟩ : ∃ m, k = m + 1 := ⟨k - 1, by omega⟩
    simp only [PR.lookasideref02_Same.l0]
    rw [if_pos (by omega), if_pos (by omega), if_pos (by omega), PR.wrap_at (by omega), ih k (i + 1) (by omega) (by omega) (by omega)]
    simp
theorem Same_f (l : List Int) (hl : l.length ≤ 1000) : PR.lookasideref02_Same.f 1001 l l = some true := by
  unfold PR.lookasideref02_Same.f
  rw [if_pos rfl]
  exact Same_l0 l hl l.length 1001 0 rfl (by omega) (by omega)
set_option maxHeartbeats 8000000 in
set_option maxRecDepth 100000 in
theorem like_calls {w : World} {base B gw : Nat} {vs : List Value} {lv : Value} {q : Nat} {qs : List (List Sn)} {left : List Int} {L : List PR.S104} {Av : Option Addr} {cv : Nat} {X : Nat → Prop} (h : St w base B gw vs lv q qs left L (.slice Av L.length cv) X) (hq8 : q ≤ 8) (hL : L.length ≤ 1000) :
    Calls Try.prog 43 #[.pointer (some ⟨B, 0, none⟩), .agg #[.int .i64 q, .slice Av L.length cv]] w fun e w' => e = .returned (.bool true) ∧ Below w.heap.size w w' := by
  have hb0 := (Below.refl w.heap.size w).alloc (Nat.le_refl _) (.cells #[.int .i64 q, .slice Av L.length cv] 41)
  have hk0 := blk_new w (.cells #[.int .i64 q, .slice Av L.length cv] 41)
  go_enter Try.func43, Try.ntmps43
  go_wp2_with fail
  obtain ⟨bx, hbxe⟩ : ∃ bx, w.heap.size = bx := ⟨_, rfl⟩
  have HS := Aside0.mk h
  have HG := Aside0.mk hbxe
  clear h
  rw [hbxe] at hb0 hk0 ⊢
  generalize w.alloc (.cells #[.int .i64 q, .slice Av L.length cv] 41) = w0 at hb0 hk0 ⊢
  have HB0 := Aside0.mk hb0
  have HS0 := Aside0.mk (HS.out.below (by rw [HG.out]; exact hb0))
  have HK0 := Aside0.mk hk0
  have hsz := blk_lt hk0
  clear hb0 hk0 hbxe HS
  go_loopw [5, 6] (fun dv cv' wr => ∃ c : Nat, cv' = .int .i64 ((c : Int) - 1) ∧ dv = .bool (PR.idleTo qs c) ∧ c ≤ q + 2 ∧ Aside0 (Below w0.heap.size w0 wr)) (fun _ cv' _ => (((q : Int) + 2) - (intOf cv')).toNat)
  case atStart => exact ⟨0, rfl, rfl, by omega, ⟨Below.refl _ _⟩⟩
  case round =>
    obtain ⟨c, rfl, rfl, hc, HB⟩ := hrel
    have hk := blk_below HK0.out HB.out
    have x0 := (blk_cell hk 0).trans rfl
    have x1 := (blk_cell hk 1).trans rfl
    by_cases hcq : (c : Int) - 1 ≤ (q : Int)
    · have hcd : decide ((c : Int) - 1 ≤ (q : Int)) = true := decide_eq_true hcq
      have HS1 := Aside0.mk (HS0.out.below HB.out)
      obtain ⟨_, hcL, hC⟩ := Kd.V_reads' HS1.out.rv
      have HC := Aside0.mk hC
      have HST := Aside0.mk HS1.out.rel
      clear hC
      go_wp2_with fail
      refine (PR.lookasideref15_Waiting.calls 5000 q Av cv L ((c : Int) - 1) _ wr HC.out hcL (PR.Waiting_f q ((c : Int) - 1) L hL HST.out.short)).mono ?_
      rintro e w2 ⟨rfl, hb2⟩
      have HB2 := Aside0.mk (below_step HB.out hb2)
      have hk2 := blk_below hk hb2
      have y0 := (blk_cell hk2 0).trans rfl
      have y1 := (blk_cell hk2 1).trans rfl
      have HK2 := Aside0.mk hk2
      rw [← HST.out.waits]
      have hids := PR.idleTo_succ qs c
      obtain ⟨n, hn⟩ : ∃ n, PC.waits qs ((c : Int) - 1) = n := ⟨_, rfl⟩
      obtain ⟨b, hb⟩ : ∃ b, PR.idleTo qs c = b := ⟨_, rfl⟩
      rw [hn] at hids ⊢
      rw [hb] at hids ⊢
      have HN := Aside0.mk hn
      obtain ⟨b2, hb2'⟩ : ∃ b2, PR.idleTo qs (c + 1) = b2 := ⟨_, rfl⟩
      rw [hb2'] at hids
      have HIDS := Aside0.mk hb2'
      clear hn hb hb2 hk2 hb2' hk x0 x1
      have hbb : (b = true ∧ b2 = (((n : Int)) == 0)) ∨ (b = false ∧ b2 = false) := by
        cases b
        · exact .inr ⟨rfl, by rw [hids]; rfl⟩
        · refine .inl ⟨rfl, ?_⟩
          rw [hids, Bool.true_and]
          by_cases h0 : n = 0 <;> simp [h0]
      clear hids
      rcases hbb with ⟨rfl, hbe⟩ | ⟨rfl, rfl⟩
      all_goals
        go_wp2_with fail
        (try rw [← hbe])
        (try clear hbe)
        go_loopw [8, 9] (fun ov iv wr => ∃ i : Nat, iv = .int .i64 i ∧ i ≤ q ∧ Aside0 (Kd.R (Kd.int .i64) 3 wr w2.heap.size (fun _ => True) ov (others i ((c : Int) - 1))) ∧ Aside0 (Below w2.heap.size w2 wr)) (fun _ iv _ => q - (intOf iv).toNat)
        case atStart => exact ⟨0, rfl, by omega, ⟨show Kd.R (Kd.int .i64) 3 w2 w2.heap.size (fun _ => True) (.slice none 0 0) [] from Kd.R_nil _ _ _ _ _⟩, ⟨Below.refl _ _⟩⟩
        case round =>
          obtain ⟨i, rfl, hi, HO, HC2⟩ := hrel
          obtain ⟨A5, c5, hv5⟩ := Kd.R_slice HO.out
          subst hv5
          have hk3 := blk_below HK2.out HC2.out
          have z0 := (blk_cell hk3 0).trans rfl
          have z1 := (blk_cell hk3 1).trans rfl
          have hfl : (others i ((c : Int) - 1)).length ≤ i := Nat.le_trans (List.length_filter_le _ _) (by rw [nums_len]; omega)
          by_cases hil : (i : Int) < (q : Int)
          · obtain ⟨F, hF⟩ : ∃ F, others i ((c : Int) - 1) = F := ⟨_, rfl⟩
            have hnx := others_succ i ((c : Int) - 1)
            rw [hF] at HO hfl hnx ⊢
            have HNX := Aside0.mk hnx
            clear hnx hF
            by_cases hne : (i : Int) = (c : Int) - 1
            · have hb : ((i : Int) == (c : Int) - 1) = true := beq_iff_eq.2 hne
              go_wp2
              go_roundw
              case rel => exact ⟨i + 1, by go_num, by omega, by rw [HNX.out, if_neg (by simpa using hne)]; exact HO, HC2⟩
              case measure => simp [intOf]; omega
            · have hb : ((i : Int) == (c : Int) - 1) = false := beq_eq_false_iff_ne.2 hne
              go_wp2_with (first | ((with_reducible refine gate_builtin (b := .append) (xs := #[.tmp 34, .tmp 36]) rfl ?_); at_builtin; refine Kd.R_append (Kd.int .i64) (w0 := w2) w2.heap.size rfl (.tmp 34) (.tmp 36) 36 3 (.int .i64 0) 8 rfl Try.underlying36 info3 rfl (by decide) (by omega) (.slice A5 F.length c5) F (i : Int) [.int .i64 (i : Int)] (fun _ => True) (fun _ => False) rfl rfl ?aP (fun _ hk => hk.elim) ?aF ?aO ?aB ?aS ?aL ?_; (case aP => exact rfl); (case aB => exact HC2.out); (case aF => exact (fun _ _ => trivial)); (case aO => exact HO.out); (case aS => exact HC2.out.size); (case aL => omega); intro v5 w5 ho5 hb5 hg5 hat5))
              go_roundw
              case rel => exact ⟨i + 1, by go_num, by omega, by rw [HNX.out, if_pos (by simpa using hne)]; exact ⟨ho5⟩, ⟨hb5⟩⟩
              case measure => simp [intOf]; omega
          · obtain rfl : i = q := by omega
            have HB3 := Aside0.mk (below_step HB2.out HC2.out)
            have HS3 := Aside0.mk (HS0.out.below HB3.out)
            obtain ⟨T, hT⟩ : ∃ T, others i ((c : Int) - 1) = T := ⟨_, rfl⟩
            have hTl : T.length ≤ 1000 := by rw [← hT]; omega
            rw [hT] at HO ⊢
            have HTE := Aside0.mk hT
            have HSA := Aside0.mk (Same_f T hTl)
            obtain ⟨A6, c6, hv6, hc6, hC6⟩ := Kd.R_reads HO.out
            injection hv6 with ha6 _ hcc6
            subst ha6 hcc6
            have HC6 := Aside0.mk hC6
            clear hT hfl hC6
            go_wp2_with fail
            refine (waiting_calls HS3.out.ca ((c : Int) - 1)).mono ?_
            rintro e w3 ⟨rfl, rfl⟩
            rw [HN.out]
            go_wp2_with fail
            refine (others_calls HS3.out.ca ((c : Int) - 1)).mono ?_
            rintro e w4 ⟨v4, rfl, hO4, hb4⟩
            rw [HST.out.len, HTE.out] at hO4
            obtain ⟨A4, c4, hv4, hc4, hC4⟩ := Kd.R_reads hO4
            subst hv4
            have HC4 := Aside0.mk hC4
            have HB4 := Aside0.mk (below_step HB3.out hb4)
            have HC64 := Aside0.mk (Kd.C_below HC6.out hb4)
            clear hO4 hb4 hC4
            go_wp2_with fail
            refine (PR.lookasideref02_Same.calls 1001 A4 c4 T A5 c5 T true w4 HC4.out hc4 HC64.out hc6 HSA.out).mono ?_
            rintro e w5 ⟨rfl, hd⟩
            have HB5 := Aside0.mk (below_step HB4.out hd.below)
            clear HC4 HC64 HC6 HB4 HO HC2 hd
            go_wp2
            go_roundw
            case rel => exact ⟨c + 1, by go_num, by rw [HIDS.out], by omega, HB5⟩
            case measure => simp [intOf]; omega
    · have hce : c = q + 2 := by omega
      have hcd : decide ((c : Int) - 1 ≤ (q : Int)) = false := decide_eq_false hcq
      have HS1 := Aside0.mk (HS0.out.below HB.out)
      have hidl := HS1.out.rel.idle
      rw [hce, ← hidl]
      subst hce
      obtain ⟨bi, hbi⟩ : ∃ bi, isIdle qs = bi := ⟨_, rfl⟩
      rw [hbi]
      have HBI := Aside0.mk hbi
      clear hbi hidl
      go_wp2_with fail
      go_loopw [10] (fun dv wr => ∃ d : Nat, dv = .int .i64 ((d : Int) - 1) ∧ d ≤ L.length + 2 ∧ Aside0 (Below w0.heap.size w0 wr)) (fun dv _ => (((L.length : Int) + 2) - (intOf dv)).toNat)
      case atStart => exact ⟨0, rfl, by omega, HB⟩
      case round =>
        clear HB HS1 hk x0 x1
        obtain ⟨d, rfl, hd, HB⟩ := hrel
        have hk := blk_below HK0.out HB.out
        have x0 := (blk_cell hk 0).trans rfl
        have x1 := (blk_cell hk 1).trans rfl
        have HS1 := Aside0.mk (HS0.out.below HB.out)
        by_cases hdl : (d : Int) - 1 ≤ (L.length : Int)
        · have hdd : decide ((d : Int) - 1 ≤ (L.length : Int)) = true := decide_eq_true hdl
          obtain ⟨_, hcL, hC⟩ := Kd.V_reads' HS1.out.rv
          have HC := Aside0.mk hC
          have hlf := PR.Left_f q ((d : Int) - 1) L
          rw [← HS1.out.rel.hl] at hlf
          obtain ⟨z, hz⟩ : ∃ z, lefts left ((d : Int) - 1) = z := ⟨_, rfl⟩
          rw [hz] at hlf
          have HZ := Aside0.mk hz
          have HLF := Aside0.mk hlf
          clear hz hlf hC
          go_wp2_with fail
          refine start_ (n := 7) (S := fun w' => w'.cell? ⟨bx, 0, none⟩ = some (.int .i64 q) ∧ w'.cell? ⟨bx, 1, none⟩ = some (.slice Av L.length cv)) (ds := []) #[false, false, false, false, false, false, false] (by kernel_rfl) rfl rfl ⟨x0, x1⟩ (fun hHeld => ?_)
          refine pure_ (i := 0) (N := some 58) (v := ?_) (a' := ?_) #[true, false, false, false, false, false, false] rfl rfl (by kernel_rfl) (fun _ _ _ h => h) (Or.inl ⟨by rfl, ?_⟩) ?_ ?_
          rotate_left
          · intro w'
            go_simp
            with_reducible rfl
          rotate_left
          · simp only [Act.put, List.setIfInBounds_toArray, List.set_cons_zero, List.set_cons_succ, i64_w, i32_w]
            rfl
          refine pure_ (i := 1) (N := some 59) (v := ?_) (a' := ?_) #[true, true, false, false, false, false, false] rfl rfl (by kernel_rfl) (fun _ _ _ h => h) (Or.inl ⟨by rfl, ?_⟩) ?_ ?_
          rotate_left
          · intro w'
            go_simp
            with_reducible rfl
          rotate_left
          · simp only [Act.put, List.setIfInBounds_toArray, List.set_cons_zero, List.set_cons_succ, i64_w, i32_w]
            rfl
          refine pure_ (i := 4) (N := some 62) (v := ?_) (a' := ?_) #[true, true, false, false, true, false, false] rfl rfl (by kernel_rfl) (fun _ _ _ h => h) (Or.inl ⟨by rfl, ?_⟩) ?_ ?_
          rotate_left
          · intro w'
            go_simp
            with_reducible rfl
          rotate_left
          · simp only [Act.put, List.setIfInBounds_toArray, List.set_cons_zero, List.set_cons_succ, i64_w, i32_w]
            rfl
          refine take_ (i := 3) (N := some 61) (v := ?_) (a' := ?_) #[true, true, false, true, true, false, false] rfl rfl (by kernel_rfl) (fun _ _ _ h => h) (Or.inl ⟨by rfl, ?_⟩) hHeld ?_ ?_
          rotate_left
          · rintro w' ⟨s0, s1⟩
            go_simp
            with_reducible rfl
          rotate_left
          · simp only [Act.put, List.setIfInBounds_toArray, List.set_cons_zero, List.set_cons_succ, i64_w, i32_w]
            rfl
          refine one_ (i := 2) (N := some 60) #[true, true, true, true, true, false, false] rfl rfl (by kernel_rfl) (by decide) (fun K hK => ?_)
          refine goes_ Try.func26 (by kernel_rfl) rfl #[.pointer (some ⟨B, 0, none⟩), .int .i64 ((d : Int) - 1)] (by rfl) rfl rfl (by (try simp only [List.map_toArray, List.map_cons, List.map_nil]); first | done | rfl) ?_
          refine (left_calls (HS1.out.ca.below (Below.refl _ wr).drew) ((d : Int) - 1)).mono ?_
          rintro e w4 ⟨rfl, rfl⟩
          rw [HZ.out]
          refine ⟨_, rfl, ?_⟩
          refine hK.out _ _ hHeld (fun hHeld => ?_)
          clear hK K
          refine norm_ (a' := ?_) ?_ ?_
          rotate_left
          · show Act.put _ (some 60) _ = _
            simp only [Act.put, List.setIfInBounds_toArray, List.set_cons_zero, List.set_cons_succ, i64_w, i32_w]
            rfl
          refine one_ (i := 5) (N := some 63) #[true, true, true, true, true, true, false] rfl rfl (by kernel_rfl) (by decide) (fun K hK => ?_)
          refine goes_ Try.func74 (by kernel_rfl) rfl #[.agg #[.int .i64 q, .slice Av L.length cv], .int .i64 ((d : Int) - 1)] (by rfl) rfl rfl (by (try simp only [List.map_toArray, List.map_cons, List.map_nil]); first | done | rfl) ?_
          refine (PR.lookasideref15_Left.calls q Av cv L ((d : Int) - 1) z wr.drew (Kd.C_below HC.out (Below.refl _ wr).drew) hcL HLF.out).mono ?_
          rintro e w5 ⟨rfl, hb5⟩
          refine ⟨_, rfl, ?_⟩
          obtain ⟨s0, s1⟩ := hHeld
          refine hK.out _ _ ⟨(hb5.cell (World.block_lt_of_cell? _ _ s0)).trans s0, (hb5.cell (World.block_lt_of_cell? _ _ s1)).trans s1⟩ (fun hHeld => ?_)
          clear hK K
          refine norm_ (a' := ?_) ?_ ?_
          rotate_left
          · show Act.put _ (some 63) _ = _
            simp only [Act.put, List.setIfInBounds_toArray, List.set_cons_zero, List.set_cons_succ, i64_w, i32_w]
            rfl
          refine pure_ (i := 6) (N := some 64) (v := ?_) (a' := ?_) #[true, true, true, true, true, true, true] rfl rfl (by kernel_rfl) (fun _ _ _ h => h) (Or.inl ⟨by rfl, ?_⟩) ?_ ?_
          rotate_left
          · intro w'
            go_simp
            with_reducible rfl
          rotate_left
          · simp only [Act.put, List.setIfInBounds_toArray, List.set_cons_zero, List.set_cons_succ, i64_w, i32_w]
            rfl
          refine done_ (by kernel_rfl) ?_
          have HB5 := Aside0.mk ((HB.out.drew).trans (hb5.mono (by exact HB.out.size)))
          clear hb5 hHeld s0 s1 x0 x1 HC HLF HZ HS1 HB hk
          (try simp only [Exit.inBlock, Exit.then])
          go_wp2
          go_roundw
          case rel => exact ⟨d + 1, by go_num, by omega, HB5⟩
          case measure => simp [intOf]; omega
        · have hdd : decide ((d : Int) - 1 ≤ (L.length : Int)) = false := decide_eq_false hdl
          have hql : (qs.length : Int) = (q : Int) := by rw [HS1.out.rel.len]
          have HQL := Aside0.mk hql
          clear hql
          go_wp2_with fail
          refine start_ (n := 12) (S := fun w' => w'.cell? ⟨bx, 0, none⟩ = some (.int .i64 q) ∧ w'.cell? ⟨bx, 1, none⟩ = some (.slice Av L.length cv)) (ds := []) #[false, false, false, false, false, false, false, false, false, false, false, false] (by kernel_rfl) rfl rfl ⟨x0, x1⟩ (fun hHeld => ?_)
          refine pure_ (i := 0) (N := some 65) (v := ?_) (a' := ?_) #[true, false, false, false, false, false, false, false, false, false, false, false] rfl rfl (by kernel_rfl) (fun _ _ _ h => h) (Or.inl ⟨by rfl, ?_⟩) ?_ ?_
          rotate_left
          · intro w'
            go_simp
            with_reducible rfl
          rotate_left
          · simp only [Act.put, List.setIfInBounds_toArray, List.set_cons_zero, List.set_cons_succ, i64_w, i32_w]
            rfl
          refine pure_ (i := 2) (N := some 67) (v := ?_) (a' := ?_) #[true, false, true, false, false, false, false, false, false, false, false, false] rfl rfl (by kernel_rfl) (fun _ _ _ h => h) (Or.inl ⟨by rfl, ?_⟩) ?_ ?_
          rotate_left
          · intro w'
            go_simp
            with_reducible rfl
          rotate_left
          · simp only [Act.put, List.setIfInBounds_toArray, List.set_cons_zero, List.set_cons_succ, i64_w, i32_w]
            rfl
          refine take_ (i := 3) (N := some 68) (v := ?_) (a' := ?_) #[true, false, true, true, false, false, false, false, false, false, false, false] rfl rfl (by kernel_rfl) (fun _ _ _ h => h) (Or.inl ⟨by rfl, ?_⟩) hHeld ?_ ?_
          rotate_left
          · rintro w' ⟨s0, s1⟩
            go_simp
            with_reducible rfl
          rotate_left
          · simp only [Act.put, List.setIfInBounds_toArray, List.set_cons_zero, List.set_cons_succ, i64_w, i32_w]
            rfl
          refine one_ (i := 1) (N := some 66) #[true, true, true, true, false, false, false, false, false, false, false, false] rfl rfl (by kernel_rfl) (by decide) (fun K hK => ?_)
          refine goes_ Try.func46 (by kernel_rfl) rfl #[.pointer (some ⟨B, 0, none⟩)] (by rfl) rfl rfl (by (try simp only [List.map_toArray, List.map_cons, List.map_nil]); first | done | rfl) ?_
          refine (cpus_calls (HS1.out.ca.below (Below.refl _ wr).drew)).mono ?_
          rintro e w4 ⟨rfl, rfl⟩
          rw [HQL.out]
          refine ⟨_, rfl, ?_⟩
          refine hK.out _ _ hHeld (fun hHeld => ?_)
          clear hK K
          refine norm_ (a' := ?_) ?_ ?_
          rotate_left
          · show Act.put _ (some 66) _ = _
            simp only [Act.put, List.setIfInBounds_toArray, List.set_cons_zero, List.set_cons_succ, i64_w, i32_w]
            rfl
          refine pure_ (i := 4) (N := some 69) (v := ?_) (a' := ?_) #[true, true, true, true, true, false, false, false, false, false, false, false] rfl rfl (by kernel_rfl) (fun _ _ _ h => h) (Or.inl ⟨by rfl, ?_⟩) ?_ ?_
          rotate_left
          · intro w'
            go_simp
            with_reducible rfl
          rotate_left
          · simp only [Act.put, List.setIfInBounds_toArray, List.set_cons_zero, List.set_cons_succ, i64_w, i32_w]
            rfl
          refine pure_ (i := 5) (N := some 70) (v := ?_) (a' := ?_) #[true, true, true, true, true, true, false, false, false, false, false, false] rfl rfl (by kernel_rfl) (fun _ _ _ h => h) (Or.inl ⟨by rfl, ?_⟩) ?_ ?_
          rotate_left
          · intro w'
            go_simp
            with_reducible rfl
          rotate_left
          · simp only [Act.put, List.setIfInBounds_toArray, List.set_cons_zero, List.set_cons_succ, i64_w, i32_w]
            rfl
          refine pure_ (i := 6) (N := some 71) (v := ?_) (a' := ?_) #[true, true, true, true, true, true, true, false, false, false, false, false] rfl rfl (by kernel_rfl) (fun _ _ _ h => h) (Or.inl ⟨by rfl, ?_⟩) ?_ ?_
          rotate_left
          · intro w'
            go_simp
            with_reducible rfl
          rotate_left
          · simp only [Act.put, List.setIfInBounds_toArray, List.set_cons_zero, List.set_cons_succ, i64_w, i32_w]
            rfl
          refine pure_ (i := 8) (N := some 73) (v := ?_) (a' := ?_) #[true, true, true, true, true, true, true, false, true, false, false, false] rfl rfl (by kernel_rfl) (fun _ _ _ h => h) (Or.inl ⟨by rfl, ?_⟩) ?_ ?_
          rotate_left
          · intro w'
            go_simp
            with_reducible rfl
          rotate_left
          · simp only [Act.put, List.setIfInBounds_toArray, List.set_cons_zero, List.set_cons_succ, i64_w, i32_w]
            rfl
          refine one_ (i := 7) (N := some 72) #[true, true, true, true, true, true, true, true, true, false, false, false] rfl rfl (by kernel_rfl) (by decide) (fun K hK => ?_)
          refine goes_ Try.func25 (by kernel_rfl) rfl #[.pointer (some ⟨B, 0, none⟩)] (by rfl) rfl rfl (by (try simp only [List.map_toArray, List.map_cons, List.map_nil]); first | done | rfl) ?_
          refine (idle_calls (HS1.out.ca.below (Below.refl _ wr).drew)).mono ?_
          rintro e w4 ⟨rfl, rfl⟩
          rw [HBI.out]
          refine ⟨_, rfl, ?_⟩
          refine hK.out _ _ hHeld (fun hHeld => ?_)
          clear hK K
          refine norm_ (a' := ?_) ?_ ?_
          rotate_left
          · show Act.put _ (some 72) _ = _
            simp only [Act.put, List.setIfInBounds_toArray, List.set_cons_zero, List.set_cons_succ, i64_w, i32_w]
            rfl
          refine pure_ (i := 9) (N := some 74) (v := ?_) (a' := ?_) #[true, true, true, true, true, true, true, true, true, true, false, false] rfl rfl (by kernel_rfl) (fun _ _ _ h => h) (Or.inl ⟨by rfl, ?_⟩) ?_ ?_
          rotate_left
          · intro w'
            go_simp
            with_reducible rfl
          rotate_left
          · simp only [Act.put, List.setIfInBounds_toArray, List.set_cons_zero, List.set_cons_succ, i64_w, i32_w]
            rfl
          refine pure_ (i := 10) (N := some 75) (v := ?_) (a' := ?_) #[true, true, true, true, true, true, true, true, true, true, true, false] rfl rfl (by kernel_rfl) (fun _ _ _ h => h) (Or.inl ⟨by rfl, ?_⟩) ?_ ?_
          rotate_left
          · intro w'
            go_simp
            with_reducible rfl
          rotate_left
          · simp only [Act.put, List.setIfInBounds_toArray, List.set_cons_zero, List.set_cons_succ, i64_w, i32_w]
            rfl
          refine pure_ (i := 11) (N := some 4) (v := ?_) (a' := ?_) #[true, true, true, true, true, true, true, true, true, true, true, true] rfl rfl (by kernel_rfl) (fun _ _ _ h => h) (Or.inl ⟨by rfl, ?_⟩) ?_ ?_
          rotate_left
          · intro w'
            go_simp
            with_reducible rfl
          rotate_left
          · simp only [Act.put, List.setIfInBounds_toArray, List.set_cons_zero, List.set_cons_succ, i64_w, i32_w]
            rfl
          refine done_ (by kernel_rfl) ?_
          have HB5 := Aside0.mk (HB0.out.trans (HB.out.drew.mono (by rw [← HG.out]; exact HB0.out.size)))
          clear hHeld HS1 HB x0 x1 hk
          (try simp only [Exit.inBlock, Exit.then])
          go_wp2
          go_ret
          exact ⟨rfl, by rw [HG.out]; exact HB5.out⟩

end Go.Proofs.Ytgmdlndiilibpaa.PC
