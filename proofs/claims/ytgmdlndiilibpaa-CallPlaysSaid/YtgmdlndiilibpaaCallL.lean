import Derived.Test.YtgmdlndiilibpaaCallJ
namespace Go.Proofs.Ytgmdlndiilibpaa.PC
open Go.RowKit Go.Proofs.YtgmdlndiilibpaaW.PrintWords Go.Proofs.YtgmdlndiilibpaaW.PrintLast Go.Proofs.YtgmdlndiilibpaaW.PrintMore Go.Proofs.Ytgmdlndiilibpaa.Tab Go.Proofs.Ytgmdlndiilibpaa.CallK
attribute [local go_sem] max2_int min2_int max_two min_two max_three min_three max_four min_four   -- for this text's walks alone
set_option linter.unusedVariables false
set_option linter.unusedSimpArgs false
theorem lit_C {w' : World} {g : Nat} {T : List Int} (hl : T.length ≤ 1000) (h : w'.heap[g]? = some (.cells ((T.map (Value.int .i64)).toArray) 3 (0, 0))) : Kd.C (Kd.int .i64) w' (some ⟨g, 0, none⟩) T.length T := by
  refine ⟨rfl, by first | omega | decide, fun _ => ⟨_, rfl, fun j x hj => ⟨[.int .i64 x], rfl, rfl, fun q u hu => ?_⟩⟩⟩
  match q, hu with
  | 0, hu =>
    simp at hu
    subst hu
    rw [Addr.add_lit, blk_cell h, List.getElem?_toArray]
    show (T.map (Value.int .i64))[0 + (j * 1 + 0)]? = _
    rw [show 0 + (j * 1 + 0) = j by omega, List.getElem?_map, hj]; rfl
  | q + 1, hu => simp at hu
theorem eqA46 (d : Nat) (w : World) (x0 y0 x1 y1 x2 y2 : Int) :
    (Op.equalIn (d + 2) 46 (.agg #[.int .i64 x0, .int .i64 x1, .int .u64 x2]) (.agg #[.int .i64 y0, .int .i64 y1, .int .u64 y2])).run Try.prog w = .ok (x0 == y0 && (x1 == y1 && (x2 == y2))) w := by
  refine eqA_of Try.underlying46 (by kernel_rfl) ?_
  refine eqf_cons (by rfl) (by go_simp; rfl) (by go_simp; rfl) (by go_simp) ?_
  refine eqf_cons (by rfl) (by go_simp; rfl) (by go_simp; rfl) (by go_simp) ?_
  exact eqf_last (by rfl) (by go_simp; rfl) (by go_simp; rfl) (by go_simp)
attribute [local go_sem high] eqA46
/-- Send to numbers that the call itself wrote down. -/
theorem send_lit {w : World} {base B gw : Nat} {vs : List Value} {lv : Value} {qs : List (List Sn)} {left : List Int} (h : CA w base B gw vs lv qs left) (kd cx va : Int) (T : List Int) (he : sendErr qs.length kd va T = 0)
    (hT1 : T.length ≤ 1000) (hq1 : ∀ l ∈ qs, l.length ≤ 1000) (hl1 : left.length ≤ 1000) (hbase : base ≤ w.heap.size) :
    Calls Try.prog 24 #[.pointer (some ⟨B, 0, none⟩), .agg #[.int .i64 kd, .int .i64 cx, .int .u64 va], .slice (some ⟨w.heap.size, 0, none⟩) T.length T.length] (w.alloc (.cells (T.map (Value.int .i64)).toArray 3)) fun e w' =>
      e = .returned (.tuple #[.int .i64 (left.length : Int), .int .i64 0]) ∧ ∃ vs' lv', CA w' base B gw vs' lv' (qsend qs T (packV kd cx va, (left.length : Int))) (left ++ [(T.length : Int)]) ∧ Mv (ids B gw vs lv) w w' ∧ ∀ j ∈ ids B gw vs' lv', j ∈ ids B gw vs lv ∨ w.heap.size ≤ j := by
  have hb : Below w.heap.size w (w.alloc (.cells (T.map (Value.int .i64)).toArray 3)) := (Below.refl _ w).alloc (Nat.le_refl _) _
  have hn := blk_new w (.cells (T.map (Value.int .i64)).toArray 3)
  refine (send_calls (h.below hb) kd cx va (some ⟨w.heap.size, 0, none⟩) T.length T (Nat.le_refl _) (fun w' hm => lit_C hT1 ?_) hT1 hq1 hl1 (Nat.le_trans hbase hb.size)).mono ?_
  · exact (hm.block _ (by simp) (fun hk => Nat.lt_irrefl _ (CA_ids_lt h _ hk))).trans hn
  · rintro e w' ⟨_, h2⟩
    obtain ⟨rfl, vs', lv', h3, h4, h5⟩ := h2 he
    exact ⟨rfl, vs', lv', h3, (Mv.of_below (S := CallK.ids B gw vs lv) hb).trans h4 (fun k hk => .inl hk), fun j hj => (h5 j hj).imp id (fun hlt => Nat.le_trans hb.size hlt)⟩
theorem ids_ge {w : World} {base B gw : Nat} {vs : List Value} {lv : Value} {qs : List (List Sn)} {left : List Int} (h : CA w base B gw vs lv qs left) : ∀ k ∈ ids B gw vs lv, base ≤ k := fun k hk => (h.typed hk).1
set_option maxHeartbeats 8000000 in
set_option maxRecDepth 100000 in
theorem lives_calls (w : World) : Calls Try.prog 27 #[] w fun e w' => e = .returned (.bool true) ∧ Below w.heap.size w w' := by
  go_enter Try.func27, Try.ntmps27
  go_wp2_with fail
  refine (new_calls w 2 2 (by decide)).mono ?_
  rintro e w1 ⟨B, gw, rfl, h1, hb1⟩
  have H1 := Aside0.mk h1
  have HB1 := Aside0.mk hb1
  clear h1 hb1
  go_wp2_with fail
  refine (send_lit H1.out 0 1 8192 [0, 1] (by decide) (by decide) (by simp) (by decide) HB1.out.size).mono ?_
  rintro e w2 ⟨rfl, vs2, lv2, h2, hm2, hi2⟩
  have HB2 := Aside0.mk (HB1.out.trans (hm2.below HB1.out.size (ids_ge H1.out)))
  have H2 := Aside0.mk h2
  clear h2 hm2 hi2 HB1 H1
  go_wp2_with fail
  refine (left_calls H2.out 0).mono ?_
  rintro e w3 ⟨rfl, rfl⟩
  go_wp2_with fail
  refine (take_some H2.out 1 0 1 8192 0 [] rfl (.inl rfl) 2 rfl (by decide)).mono ?_
  rintro e w4 ⟨rfl, vs4, h4, hm4, hi4⟩
  have HB4 := Aside0.mk (HB2.out.trans (hm4.below HB2.out.size (ids_ge H2.out)))
  have H4 := Aside0.mk h4
  clear h4 hm4 hi4 HB2 H2
  go_wp2_with fail
  have hb5 := (Below.refl w4.heap.size w4).alloc (Nat.le_refl _) (.cells #[.int .i64 0, .int .i64 1, .int .u64 8192] 46)
  refine (left_calls (H4.out.below hb5) 0).mono ?_
  rintro e w5 ⟨rfl, rfl⟩
  have HB5 := Aside0.mk (below_step HB4.out hb5)
  clear hb5 HB4 H4
  go_wp2
  go_ret
  exact ⟨by rfl, HB5.out⟩
end Go.Proofs.Ytgmdlndiilibpaa.PC
