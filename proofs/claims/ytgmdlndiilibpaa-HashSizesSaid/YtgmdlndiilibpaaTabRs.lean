/- hash.Table.Resize: its walk. -/
import Derived.Test.YtgmdlndiilibpaaTabRg
import Derived.Test.YtgmdlndiilibpaaTabN
import Derived.Test.YtgmdlndiilibpaaRegIn
import Derived.RangeFuncNested
set_option linter.unusedVariables false
set_option linter.unusedSimpArgs false
namespace Go.Proofs.Ytgmdlndiilibpaa.PH
open Go.RowKit Go.Shelf Go.Proofs.YtgmdlndiilibpaaW.PrintWords Go.Proofs.YtgmdlndiilibpaaW.PrintLast Go.Proofs.YtgmdlndiilibpaaW.PrintMore Go.Proofs.Ytgmdlndiilibpaa.Tab
attribute [local go_sem] Oper.semAt_some
theorem own27r {β : Type} (B : Nat) (v : Value) (a b c : Value) : Own (fun (_ : β) W => W.heap[B]? = some (.cells #[a, b, c] 27 (0, 0))) := fun s X Y row hs hg hr =>
  (grownBy_keeps_cells hg hr hs rfl).trans hs
set_option maxHeartbeats 4000000 in
set_option maxRecDepth 100000 in
theorem resize_calls (w : World) (b c : Nat) (L : List (List Nd)) (free n : Int) (hT : At 116 120 123 w b c L free n) (hN : L.flatten.length ≤ 1000000) (q : Nat) (hq1 : 1 ≤ q) (hq2 : q ≤ 10000000) (ch : Int × Int × Int → Nat)
    (hch : ∀ m ∈ L.flatten, ch m.key < q ∧ hash_Chain.f m.sp m.va m.sz (q : Int) = some ((ch m.key : Nat) : Int)) :
    Calls Try.prog 47 #[.pointer (some ⟨b, 0, none⟩), .int .i64 (q : Int)] w fun e w' => e = .returned (.int .i64 0) ∧
      ∃ c' L', L'.map (List.map kv) = redo ch q (L.flatten.map kv) ∧ At 116 120 123 w' b c' L' free n ∧ (∀ k ∈ ids b c' L', k = b ∨ w.heap.size ≤ k) ∧ Mv [b] w w' := by
  have HT := Aside0.mk hT
  have HCH := Aside0.mk hch
  have HN := Aside0.mk hN
  clear hT hch hN
  obtain ⟨i0, hi, hz0, hz1, hz2⟩ := info_parts info120
  refine (callsIn_wide (n := 5)).1 ?_
  have h1 : 1 ≤ 5 := by omega
  refine callsIn_of_wp_marks Try.func47 rfl trivial ?_ rfl
  simp only [Try.ntmps47, List.size_toArray, List.length_cons, List.length_nil, Nat.reduceAdd, Nat.reduceSub, Array.replicate_succ, Array.replicate_zero, List.push_toArray, List.append_toArray, List.nil_append, List.cons_append]
  have hq0 : decide ((q : Int) < 1) = false := by simp; omega
  gi_wp2_with (refine ⟨trivial, ?_⟩; gi_at_call 71; refine (all_in Fence.wide _ trivial rfl _ _).mono ?_; rintro e w' ⟨rfl, rfl⟩)
  obtain ⟨D, hD⟩ : ∃ D, w.heap.size = D := ⟨_, rfl⟩
  have b0 := ((Boxed.new w 58 (.pointer (some ⟨b, 0, none⟩))).alloc (.cells #[.slice none 0 0] 114)).alloc (.cells #[.pointer (some ⟨b, 0, none⟩)] 58)
  have b1 := (Boxed.new (w.alloc (.cells #[.pointer (some ⟨b, 0, none⟩)] 58)) 114 (.slice none 0 0)).alloc (.cells #[.pointer (some ⟨b, 0, none⟩)] 58)
  have b2 := Boxed.new ((w.alloc (.cells #[.pointer (some ⟨b, 0, none⟩)] 58)).alloc (.cells #[.slice none 0 0] 114)) 58 (.pointer (some ⟨b, 0, none⟩))
  simp only [World.size_alloc] at b1 b2
  have hB0 : Below w.heap.size w (((w.alloc (.cells #[.pointer (some ⟨b, 0, none⟩)] 58)).alloc (.cells #[.slice none 0 0] 114)).alloc (.cells #[.pointer (some ⟨b, 0, none⟩)] 58)) :=
    (((Below.refl _ w).alloc (Nat.le_refl _) _).alloc (by simp) _).alloc (by simp; omega) _
  have hsz : (((w.alloc (.cells #[.pointer (some ⟨b, 0, none⟩)] 58)).alloc (.cells #[.slice none 0 0] 114)).alloc (.cells #[.pointer (some ⟨b, 0, none⟩)] 58)).heap.size = w.heap.size + 3 := by simp
  obtain ⟨W0, hW0⟩ : ∃ W0, ((w.alloc (.cells #[.pointer (some ⟨b, 0, none⟩)] 58)).alloc (.cells #[.slice none 0 0] 114)).alloc (.cells #[.pointer (some ⟨b, 0, none⟩)] 58) = W0 := ⟨_, rfl⟩
  rw [hW0] at b0 b1 b2 hB0 hsz ⊢
  clear hW0
  have hTB : ∀ k ∈ ids b c L, k < w.heap.size := HT.out.lt
  have hT0 := HT.out.below hB0
  rw [hD] at b0 b1 b2 hB0 hsz hTB ⊢
  simp only [Nat.add_assoc, Nat.reduceAdd] at b1 b2 ⊢
  have hg0 : Gath w D b [] W0 := ⟨b0, ⟨_, [], rfl, b1, World.ownsRow_nil _ _ _ _, fun m hm => by cases hm⟩, hB0, by omega⟩
  refine wpIn_rangeFunc_ownH rfl h1 (gf := 92) (lb := #[.pointer (some ⟨D + 2, 0, none⟩)]) rfl trivial (enters_of Try.func92 (by kernel_rfl) rfl)
    (all_stops 4 (by omega) (D + 2) D b c L free n W0 (by omega) (by omega) b2.cell hT0 hTB) belowK_t (belowK_b (by omega)) (Below.refl _ _) (fun _ => rfl)
    (Gath w D b) (fun cd pre W => False) ?hI ?hIx ?h0
    (fun x a' W => ∃ Bx, D + 2 < Bx ∧ W.heap[Bx]? = some (.cells #[.int .i64 x.sp, .int .u64 x.va, .int .i64 x.sz] 27 (0, 0)) ∧ a' = { tmps := #[.pointer (some ⟨b, 0, none⟩), .int .i64 (q : Int), .pointer (some ⟨D, 0, none⟩), undef, .int .i64 0, .pointer (some ⟨D + 1, 0, none⟩), .pointer (some ⟨Bx, 0, none⟩), .int .i64 x.v, undef, undef, .int .i64 (q : Int), .bool false, .pointer (some ⟨b, 0, none⟩), .func (.func 92) #[] #[.pointer (some ⟨D + 2, 0, none⟩)], .agg #[.int .i64 x.sp, .int .u64 x.va, .int .i64 x.sz], .int .i64 x.v, undef, undef, undef, undef, undef, undef, undef, undef, undef, undef, undef, undef, undef, undef, undef, undef, undef, undef, undef, undef, undef, undef, undef, undef, undef, undef], defers := [] })
    ?hAx ?assign ?body ?done ?stop
  case hI => exact gath_own w D b _ (by omega) (by omega)
  case hIx => exact fun cd s X Y row hs hg hr => hs
  case h0 => exact hg0
  case hAx =>
    rintro x a' _ X Y row ⟨Bx, h1, h2, h3⟩ hg hr
    exact ⟨Bx, h1, own27r (β := Unit) Bx .nilFunc _ _ _ () X Y row h2 hg (fun r e => (hr r e).2), h3⟩
  case assign =>
    rintro l pre x W K ⟨c0, ⟨v, ns, e1, c1, e2, e3⟩, hBW, hsW⟩ hK
    dsimp only [encN]
    have hl4 := c1.lt
    gi_wp2
    exact hK _ _ ((KeepsOthers.alloc _ _).from _) ((Below.refl _ W).alloc (by omega) _) ⟨c0.alloc _, ⟨v, ns, e1, c1.alloc _, e2.alloc _, e3.move (fun m hm => Below.heap_alloc _ _ _ (e3.lt m hm))⟩, hBW.alloc (by omega) _, by simp; omega⟩ ⟨W.heap.size, by omega, World.alloc_heap_new W _, rfl⟩
  case body =>
    rintro l pre x a' W hl ⟨r, hr⟩ ⟨c0, ⟨v, ns, e1, c1, e2, e3⟩, hBW, hsW⟩ ⟨Bx, hBx, cx, rfl⟩ hlt
    dsimp only
    have hlen : ns.length ≤ 1000000 := by
      have := congrArg List.length e1
      simp only [List.length_map] at this
      have := HN.out
      omega
    have s1 := c1.cell
    have s2 : W.cell? ⟨Bx, 0, none⟩ = some (.int .i64 x.sp) := by rw [Lib.cell_of_heap cx]; rfl
    have s3 : W.cell? ⟨Bx, 1, none⟩ = some (.int .u64 x.va) := by rw [Lib.cell_of_heap cx]; rfl
    have s4 : W.cell? ⟨Bx, 2, none⟩ = some (.int .i64 x.sz) := by rw [Lib.cell_of_heap cx]; rfl
    have hDW : D + 1 < W.heap.size := c1.lt
    have E1 := Aside0.mk e1
    have E2 := Aside0.mk e2
    have E3 := Aside0.mk e3
    have C0 := Aside0.mk c0
    have C1 := Aside0.mk c1
    have HBW := Aside0.mk hBW
    clear e1 e2 e3 c0 c1 hBW cx hr
    gi_wp2_with (gi_at_builtin; refine wpListIn_append_own _ rfl _ _ 114 rfl D 120 i0 (.pointer none) 1 8 Try.underlying114 hi hz0 hz1 hz2 rfl (by decide) v ns.length (ns.map (fun m => pv m.id)) rfl ((E2.out.alloc _).alloc _) ⟨W.heap.size + 1, 0, none⟩ 1 1 [.pointer (some ⟨W.heap.size, 0, none⟩)] (by simp [Act.eval]) rfl (by have := cell_one_new (W.alloc (.cells #[.int .i64 x.sp, .int .u64 x.va, .int .i64 x.sz, .int .i64 x.v, .pointer none] 123)) (.pointer (some ⟨W.heap.size, 0, none⟩)) 120; simpa using this) (by simp [Value.oneCell']) (by simp [maxLen]; omega) (by omega) (by simp; omega) ?_; intro v' w3 hown' hg3 hnil3; obtain ⟨g', cap', rfl⟩ := own_form hown' (by omega); obtain ⟨f1, f2, f3, f4⟩ := gath_step C0.out E1.out C1.out E2.out E3.out HBW.out (by omega) hsW hg3 hown'; have f1c := f1.cell; have f1f := f1.frozen; replace f1 := Aside0.mk f1; replace f2 := Aside0.mk f2; replace f3 := Aside0.mk f3; replace f4 := Aside0.mk f4; clear hown' hg3 hnil3)
    exact ⟨by simpa [hsz] using f2.out, f3.out, f4.out⟩
  case stop =>
    rintro D2 cd pre W hD2 hpre hF hK
    exact hF.elim
  case done =>
    rintro D2 xs W hD2 rfl ⟨c0, ⟨v, ns, e1, c1, e2, e3⟩, hBW, hsW⟩ hK
    have s0 := c0.cell
    have hTW := HT.out.below (by rw [hD]; exact hBW)
    have hbl : b < W.heap.size := hTW.lt b (by simp [ids])
    have hbD : b < D := hTB b (by simp [ids])
    obtain ⟨Z, hZ⟩ : ∃ Z, W.alloc (.cells (madeCells #[.pointer none] q) 120) = Z := ⟨_, rfl⟩
    have hmk : (Instr.makeSlice 114 (.int .i64 (q : Int)) (.int .i64 (q : Int))).run Try.prog W = .ok (.slice (some ⟨W.heap.size, 0, none⟩) q q) Z := by rw [← hZ]; exact run_make_row' (P := Try.prog) 114 120 (.pointer none) 8 Try.underlying114 info120 rfl .i64 .i64 q (by omega) (by omega) W
    have hmkd : (Instr.makeSlice 114 (.int .i64 (q : Int)) (.int .i64 (q : Int))).run Try.prog W.drew = .ok (.slice (some ⟨W.heap.size, 0, none⟩) q q) Z.drew := by rw [← hZ]; exact run_make_row' (P := Try.prog) 114 120 (.pointer none) 8 Try.underlying114 info120 rfl .i64 .i64 q (by omega) (by omega) W.drew
    have hZb : Below W.heap.size W Z := by rw [← hZ]; exact (Below.refl _ W).alloc (Nat.le_refl _) _
    have hZn : Z.heap[W.heap.size]? = some (.cells (madeCells #[.pointer none] q) 120 (0, 0)) := by rw [← hZ]; exact World.alloc_heap_new W _
    have hZs : Z.heap.size = W.heap.size + 1 := by rw [← hZ]; simp
    have s0z : Z.cell? ⟨D, 0, none⟩ = some (.pointer (some ⟨b, 0, none⟩)) := (hZb.cell (p := ⟨D, 0, none⟩) c0.lt).trans s0
    have hTZ := hTW.below hZb
    have cbz : Z.cell? ⟨b, 0, none⟩ = some (.slice (some ⟨c, 0, none⟩) L.length L.length) := by rw [Lib.cell_of_heap hTZ.hb]; rfl
    have fbz : Z.frozen? ⟨b, 0, none⟩ = false := Lib.frozen_of_heap hTZ.hb 0
    have HTW := Aside0.mk hTW
    have HTZ := Aside0.mk hTZ
    have E1 := Aside0.mk e1
    have E2 := Aside0.mk e2
    have E3 := Aside0.mk e3
    have C0 := Aside0.mk c0
    have C1 := Aside0.mk c1
    have HBW := Aside0.mk hBW
    have HZN := Aside0.mk hZn
    have HZB := Aside0.mk hZb
    have HZ := Aside0.mk hZ
    clear e1 e2 e3 c0 c1 hBW hTW hTZ hZ hZn hZb
    gi_wp2
    refine Code.wpIn_mono (Q := fun e a' w' => match e with | .normal => (∃ (x23 x24 x25 x26 x27 : Value), a' = { tmps := #[.pointer (some ⟨b, 0, none⟩), .int .i64 (q : Int), .pointer (some ⟨D, 0, none⟩), undef, .int .i64 0, .pointer (some ⟨D + 1, 0, none⟩), undef, undef, undef, undef, .int .i64 (q : Int), .bool false, .pointer (some ⟨b, 0, none⟩), .func (.func 92) #[] #[.pointer (some ⟨D + 2, 0, none⟩)], undef, undef, undef, undef, undef, undef, undef, undef, undef, x23, x24, x25, x26, x27, undef, undef, undef, undef, undef, undef, undef, undef, undef, undef, undef, undef, undef, undef], defers := [{ target := .collected D2, args := #[] }] }) ∧ w' = (Z.setCell ⟨b, 0, none⟩ (.slice (some ⟨W.heap.size, 0, none⟩) q q)).drew | _ => False) ?_ ?_
    rotate_left
    · clear hT0 hTB hg0 b0 b1 b2 hB0 hi hz0 hz1 hz2 hK
      gi_region
      all_goals exact ⟨⟨_, _, _, _, _, rfl⟩, rfl⟩
    rintro e a2 w2 hq
    cases e with
    | normal =>
      obtain ⟨⟨x23, x24, x25, x26, x27, rfl⟩, hw2⟩ := hq
      have hbN : b ≠ W.heap.size := by omega
      have oth : ∀ k, k ≠ b → w2.heap[k]? = Z.heap[k]? := fun k hk => by rw [hw2]; exact Below.heap_setCell Z ⟨b, 0, none⟩ _ k hk
      have old : ∀ k, k < W.heap.size → k ≠ b → w2.heap[k]? = W.heap[k]? := fun k hk hkb => (oth k hkb).trans (HZB.out.block k hk)
      have hs2 : w2.heap.size = W.heap.size + 1 := by rw [hw2, ← hZs]; simp [World.setCell, World.drew]
      have hA2 : At 116 120 123 w2 b W.heap.size (List.replicate q []) free n := HTW.out.redone hq1 hq2 hbN
        (by rw [hw2]; exact (heap_set_same _ HTZ.out.hb).trans rfl) ((oth _ (Ne.symm hbN)).trans HZN.out)
      have hM2 : Mv [b] w w2 := by
        have hb := HBW.out
        have hz := HZB.out
        refine ⟨?_, ?_, ?_, by have := hb.size; omega, fun k hk hkb => ?_⟩
        · rw [hw2]; exact hz.os.trans hb.os
        · rw [hw2]; exact hz.tape.trans hb.tape
        · rw [hw2]; exact hz.output.trans hb.output
        · exact (old k (by omega) (by simpa using hkb)).trans (hb.block k (by omega))
      have c02 : Boxed w2 D 58 (.pointer (some ⟨b, 0, none⟩)) := (old D (by omega) (by omega)).trans C0.out
      have c12 : Boxed w2 (D + 1) 114 v := (old (D + 1) (by omega) (by omega)).trans C1.out
      have e22 : w2.ownsRow D 120 1 v ns.length (ns.map (fun m => pv m.id)) := own_move E2.out (fun k hk => by
        obtain ⟨h1, h2, _⟩ := own_lt E2.out k hk
        exact old k h2 (by omega))
      have e32 : Loose w2 D ns := E3.out.move (fun m hm => old m.id (E3.out.lt m hm) (by have := (E3.out m hm).1; omega))
      obtain ⟨N, hNe⟩ : ∃ N, W.heap.size = N := ⟨_, rfl⟩
      rw [hNe] at hs2 hA2 hbN hsW
      have hvl : ∀ k, v.ownBlock = some k → k < N := fun k hk => by have := (own_lt E2.out k hk).2.1; omega
      have hK2 : w2.heap[D2]? = some (.deferred (some [])) := (old D2 (by rw [hNe]; have := (Array.getElem?_eq_some_iff.1 hK).1; omega) (by omega)).trans hK
      have hD2N : D2 < N := by have := (Array.getElem?_eq_some_iff.1 hK).1; omega
      have hll : ∀ m ∈ ns, m.id < N := fun m hm => by have := E3.out.lt m hm; omega
      clear hw2 oth old E2 E3 C0 C1 HBW HZN HZB HZ HTZ HTW hZs s0 s0z cbz fbz hbl hmk hmkd hT0 hTB hg0 b0 b1 b2 hB0 hi hz0 hz1 hz2 hK hNe
      obtain ⟨A, cv, rfl, hcv, hAr⟩ := own_slice e22
      have s1 := c12.cell
      have hlen : ns.length ≤ 1000000 := by
        have := congrArg List.length E1.out
        simp only [List.length_map] at this
        have := HN.out
        omega
      have C02 := Aside0.mk c02
      have HA2 := Aside0.mk hA2
      have HM2 := Aside0.mk hM2
      have E32 := Aside0.mk e32
      have HAR := Aside0.mk hAr
      have hcv2 : ∀ m ∈ ns, ch m.key < q ∧ hash_Chain.f m.sp m.va m.sz (q : Int) = some ((ch m.key : Nat) : Int) := fun m hm => by
        have h1 : kv m ∈ L.flatten.map kv := by rw [← E1.out]; exact List.mem_map_of_mem hm
        obtain ⟨m', hm', h2⟩ := List.mem_map.1 h1
        have h3 := HCH.out m' hm'
        simp only [kv, Nd.key, Prod.mk.injEq] at h2
        obtain ⟨⟨h4, h5, h6⟩, _⟩ := h2
        simp only [Nd.key] at h3 ⊢
        rw [h4, h5, h6] at h3
        exact h3
      have HCV := Aside0.mk hcv2
      have HLL := Aside0.mk hll
      have C12 := Aside0.mk c12
      have HK2 := Aside0.mk hK2
      clear hcv2 c02 c12 hA2 hM2 e22 e32 hAr hll hK2
      gi_wp2_with (refine ⟨trivial, ?_⟩; gi_at_call 78; refine (back_calls Fence.wide _ trivial rfl _ _ _ _).mono ?_; rintro e w' ⟨rfl, rfl⟩)
      have c03 := C02.out.alloc (.cells #[.slice A ns.length cv] 114)
      have bn := Boxed.new w2 114 (.slice A ns.length cv)
      have hz3 : Below w2.heap.size w2 (w2.alloc (.cells #[.slice A ns.length cv] 114)) := (Below.refl _ w2).alloc (Nat.le_refl _) _
      have hA3 := HA2.out.below hz3
      have hM3 : Mv [b] w (w2.alloc (.cells #[.slice A ns.length cv] 114)) := HM2.out.trans (Mv.of_below (S := [b]) hz3) (fun k hk => .inl hk)
      have e33 : Loose (w2.alloc (.cells #[.slice A ns.length cv] 114)) D ns := E32.out.move (fun m hm => hz3.block _ (E32.out.lt m hm))
      have hs3 : (w2.alloc (.cells #[.slice A ns.length cv] 114)).heap.size = N + 2 := by rw [World.size_alloc, hs2]
      have hK3 := (hz3.block D2 (by omega)).trans HK2.out
      have hAr3 : ∀ i (hi : i < ns.length), ∃ g, A = some ⟨g, 0, none⟩ ∧ g < N ∧ (w2.alloc (.cells #[.slice A ns.length cv] 114)).cell? ⟨g, i, none⟩ = some (pv ns[i].id) := fun i hi => by
        obtain ⟨g, h1, h2, h3, h4⟩ := HAR.out i hi
        exact ⟨g, h1, hvl g (by rw [h1]; rfl), (hz3.cell (p := ⟨g, i, none⟩) h3).trans h4⟩
      rw [hs2] at bn
      try simp only [hs2]
      generalize w2.alloc (.cells #[.slice A ns.length cv] 114) = W3 at *
      obtain ⟨Q, hQ⟩ := lift_list (fun x : Int × Nd => x.2 ∈ ns) (bkN ns) (fun x hx => bkN_mem hx)
      have hQf : Q.map (fun x : { x : Int × Nd // x.2 ∈ ns } => (x.1.1, x.1.2.id)) = bkQ (ns.map Nd.id) := by
        rw [← bkN_map, ← hQ, List.map_map]; rfl
      have hQn : Q.map (fun x => x.1.2) = ns.reverse := by
        rw [← bkN_snd, ← hQ, List.map_map]; rfl
      have hQl : Q.length = ns.length := by
        have := congrArg List.length hQn
        simpa using this
      have hd0 : Dist (fun x : { x : Int × Nd // x.2 ∈ ns } => x.1.2) W3 D b N q ch free n [] W3 := by
        refine ⟨c03, ⟨List.replicate q [], ?_, hA3, ?_⟩, Mv.of_below (Below.refl _ _)⟩
        · rw [List.map_nil, List.reverse_nil, redo_nil, List.map_replicate]; rfl
        · intro k hk
          simp only [ids, List.mem_cons, List.mem_map, List.mem_flatten] at hk
          rcases hk with rfl | rfl | ⟨m, ⟨l, hl, hml⟩, rfl⟩
          · exact .inl rfl
          · exact .inr (by omega)
          · rw [(List.mem_replicate.1 hl).2] at hml; cases hml
      have HQN := Aside0.mk hQn
      have HE1 := E1
      have HD0 := Aside0.mk hd0
      have HM3 := Aside0.mk hM3
      have E33 := Aside0.mk e33
      have hst := back_stops (fun x : { x : Int × Nd // x.2 ∈ ns } => (x.1.1, x.1.2.id)) 4 (by omega) (N + 1) (N + 2) [N] A cv (ns.map Nd.id) (by rw [List.length_map]; omega) (by rw [List.length_map]; exact hcv) Q hQf W3 (by omega) (by omega) (by simp) (by rw [List.length_map]; exact bn.cell)
        (fun i hi => by
          rw [List.length_map] at hi
          obtain ⟨g, g1, g2, g3⟩ := hAr3 i hi
          exact ⟨g, g1, by omega, by simp; omega, by rw [List.getElem_map]; exact g3⟩)
      clear hd0 hM3 e33 hQn hQf hQ hAr3 hz3 hA3 c03 bn C02 HA2 HM2 E32 HAR C12 HK2 s1
      refine wpIn_rangeFunc_ownH rfl h1 (gf := 94) (lb := #[.pointer (some ⟨N + 1, 0, none⟩)]) rfl trivial (enters_of Try.func94 (by kernel_rfl) rfl)
        hst (fun h k => KpB.trans h k) (fun X l o o' hl _ _ _ => kpb_put X l o' (by omega)) (Below.refl _ _) (fun _ => rfl)
        (Dist (fun x : { x : Int × Nd // x.2 ∈ ns } => x.1.2) W3 D b N q ch free n) (fun cd pre W => False) ?hI ?hIx ?h0
        (fun x a' W => a' = { tmps := #[.pointer (some ⟨b, 0, none⟩), .int .i64 (q : Int), .pointer (some ⟨D, 0, none⟩), undef, .int .i64 0, .pointer (some ⟨D + 1, 0, none⟩), undef, undef, undef, (.pointer (some ⟨x.1.2.id, 0, none⟩)), .int .i64 (q : Int), .bool false, .pointer (some ⟨b, 0, none⟩), .func (.func 92) #[] #[.pointer (some ⟨D + 2, 0, none⟩)], undef, undef, undef, undef, undef, undef, undef, undef, undef, x23, x24, x25, x26, x27, .slice A ns.length cv, .func (.func 94) #[] #[.pointer (some ⟨N + 1, 0, none⟩)], .int .i64 x.1.1, (.pointer (some ⟨x.1.2.id, 0, none⟩)), undef, undef, undef, undef, undef, undef, undef, undef, undef, undef], defers := [] })
        ?hAx ?assign ?body ?done ?stop
      case hI => exact dist_own _ _ _ _ _ _ _ _ _ _ (Nat.le_refl _)
      case hIx => exact fun cd s X Y row hs hg hr => hs
      case h0 => exact HD0.out
      case hAx => exact fun x a' _ X Y row hs hg hr => hs
      case assign =>
        rintro l pre x W4 K hI hK4
        dsimp only [pv]
        gi_wp2
        exact hK4 _ _ (KeepsFrom.refl _ _) (KpB.refl _ _ _) hI rfl
      case body =>
        rintro l pre ⟨⟨xi, m⟩, hmem⟩ a' W ha hr ⟨d0, ⟨L', d1, d2, d3⟩, d4⟩ rfl hlt
        dsimp only
        dsimp only at hmem
        have hm4 := (d4.block m.id (by have := HLL.out m hmem; omega) (by have := HLL.out m hmem; simp; omega)).trans (E33.out m hmem).2
        have s0 := d0.cell
        have s1 : W.cell? ⟨m.id, 0, none⟩ = some (.int .i64 m.sp) := by rw [Lib.cell_of_heap hm4]; rfl
        have s2 : W.cell? ⟨m.id, 1, none⟩ = some (.int .u64 m.va) := by rw [Lib.cell_of_heap hm4]; rfl
        have s3 : W.cell? ⟨m.id, 2, none⟩ = some (.int .i64 m.sz) := by rw [Lib.cell_of_heap hm4]; rfl
        have s4 : W.cell? ⟨m.id, 3, none⟩ = some (.int .i64 m.v) := by rw [Lib.cell_of_heap hm4]; rfl
        obtain ⟨hcq, hcf⟩ := HCV.out m hmem
        obtain ⟨l, hl1, hl2, hl3⟩ := dist_chain d1 hcq
        have hfew : l.length + 1 ≤ 10000000 := by
          simp only [List.length_reverse, List.length_map] at hl3
          omega
        have D0 := Aside0.mk d0
        have D1 := Aside0.mk d1
        have HA4 := Aside0.mk d2
        have D3 := Aside0.mk d3
        have D4 := Aside0.mk d4
        have HL := Aside0.mk hl1
        have HL2 := Aside0.mk hl2
        have HLQ := Aside0.mk (dist_len d1)
        have HCM := Aside0.mk hcf
        clear d0 d1 d2 d3 d4 hl1 hl2 hl3 hcq hcf hm4 hst hr
        gi_wp2
        refine Code.wpIn_mono (Q := fun e a' w' => match e with | .normal => KeepsFrom W3.heap.size W w' ∧ KpB (N + 2) [N] W w' ∧ Dist (fun x : { x : Int × Nd // x.2 ∈ ns } => x.1.2) W3 D b N q ch free n (pre ++ [⟨(xi, m), hmem⟩]) w' | _ => False) ?_ ?_
        rotate_left
        · skip
          refine startIn_ wide_round (fun _ => trivial) rfl (by kernel_rfl) (fun _ _ h => h) (n := 10) (S := fun w' => w'.cell? ⟨D, 0, none⟩ = some (.pointer (some ⟨b, 0, none⟩)) ∧ w'.cell? ⟨m.id, 0, none⟩ = some (.int .i64 m.sp) ∧ w'.cell? ⟨m.id, 1, none⟩ = some (.int .u64 m.va) ∧ w'.cell? ⟨m.id, 2, none⟩ = some (.int .i64 m.sz) ∧ w'.cell? ⟨m.id, 3, none⟩ = some (.int .i64 m.v)) (ds := [9]) #[false, false, false, false, false, false, false, false, false, false] (by kernel_rfl) rfl rfl ⟨s0, s1, s2, s3, s4⟩ (fun hHeld => ?_)
          refine pure_ (i := 1) (N := some 33) (v := ?_) (a' := ?_) #[false, true, false, false, false, false, false, false, false, false] rfl rfl (by kernel_rfl) (fun _ _ _ h => h) (Or.inl ⟨by rfl, ?_⟩) ?_ ?_
          rotate_left
          · intro w'
            go_simp
            with_reducible rfl
          rotate_left
          · simp only [Act.put, List.setIfInBounds_toArray, List.set_cons_zero, List.set_cons_succ, i64_w, i32_w]
            rfl
          refine pure_ (i := 2) (N := some 34) (v := ?_) (a' := ?_) #[false, true, true, false, false, false, false, false, false, false] rfl rfl (by kernel_rfl) (fun _ _ _ h => h) (Or.inl ⟨by rfl, ?_⟩) ?_ ?_
          rotate_left
          · intro w'
            go_simp
            with_reducible rfl
          rotate_left
          · simp only [Act.put, List.setIfInBounds_toArray, List.set_cons_zero, List.set_cons_succ, i64_w, i32_w]
            rfl
          refine pure_ (i := 3) (N := some 35) (v := ?_) (a' := ?_) #[false, true, true, true, false, false, false, false, false, false] rfl rfl (by kernel_rfl) (fun _ _ _ h => h) (Or.inl ⟨by rfl, ?_⟩) ?_ ?_
          rotate_left
          · intro w'
            go_simp
            with_reducible rfl
          rotate_left
          · simp only [Act.put, List.setIfInBounds_toArray, List.set_cons_zero, List.set_cons_succ, i64_w, i32_w]
            rfl
          refine pure_ (i := 5) (N := some 37) (v := ?_) (a' := ?_) #[false, true, true, true, false, true, false, false, false, false] rfl rfl (by kernel_rfl) (fun _ _ _ h => h) (Or.inl ⟨by rfl, ?_⟩) ?_ ?_
          rotate_left
          · intro w'
            go_simp
            with_reducible rfl
          rotate_left
          · simp only [Act.put, List.setIfInBounds_toArray, List.set_cons_zero, List.set_cons_succ, i64_w, i32_w]
            rfl
          refine pure_ (i := 6) (N := some 38) (v := ?_) (a' := ?_) #[false, true, true, true, false, true, true, false, false, false] rfl rfl (by kernel_rfl) (fun _ _ _ h => h) (Or.inl ⟨by rfl, ?_⟩) ?_ ?_
          rotate_left
          · intro w'
            go_simp
            with_reducible rfl
          rotate_left
          · simp only [Act.put, List.setIfInBounds_toArray, List.set_cons_zero, List.set_cons_succ, i64_w, i32_w]
            rfl
          refine pure_ (i := 7) (N := some 39) (v := ?_) (a' := ?_) #[false, true, true, true, false, true, true, true, false, false] rfl rfl (by kernel_rfl) (fun _ _ _ h => h) (Or.inl ⟨by rfl, ?_⟩) ?_ ?_
          rotate_left
          · intro w'
            go_simp
            with_reducible rfl
          rotate_left
          · simp only [Act.put, List.setIfInBounds_toArray, List.set_cons_zero, List.set_cons_succ, i64_w, i32_w]
            rfl
          refine take_ (i := 0) (N := some 32) (v := ?_) (a' := ?_) #[true, true, true, true, false, true, true, true, false, false] rfl rfl (by kernel_rfl) (fun _ _ _ h => h) (Or.inl ⟨by rfl, ?_⟩) hHeld ?_ ?_
          rotate_left
          · rintro w' ⟨s0, s1, s2, s3, s4⟩
            go_simp
            with_reducible rfl
          rotate_left
          · simp only [Act.put, List.setIfInBounds_toArray, List.set_cons_zero, List.set_cons_succ, i64_w, i32_w]
            rfl
          refine take_ (i := 4) (N := some 36) (v := ?_) (a' := ?_) #[true, true, true, true, true, true, true, true, false, false] rfl rfl (by kernel_rfl) (fun _ _ _ h => h) (Or.inl ⟨by rfl, ?_⟩) hHeld ?_ ?_
          rotate_left
          · rintro w' ⟨s0, s1, s2, s3, s4⟩
            go_simp
            with_reducible rfl
          rotate_left
          · simp only [Act.put, List.setIfInBounds_toArray, List.set_cons_zero, List.set_cons_succ, i64_w, i32_w]
            rfl
          refine take_ (i := 8) (N := some 40) (v := ?_) (a' := ?_) #[true, true, true, true, true, true, true, true, true, false] rfl rfl (by kernel_rfl) (fun _ _ _ h => h) (Or.inl ⟨by rfl, ?_⟩) hHeld ?_ ?_
          rotate_left
          · rintro w' ⟨s0, s1, s2, s3, s4⟩
            go_simp
            with_reducible rfl
          rotate_left
          · simp only [Act.put, List.setIfInBounds_toArray, List.set_cons_zero, List.set_cons_succ, i64_w, i32_w]
            rfl
          refine last_ (i := 9) (N := some 41) #[true, true, true, true, true, true, true, true, true, true] rfl rfl (by kernel_rfl) (by decide) (fun K hK => ?_)
          refine goes_ Try.func67 (by kernel_rfl) rfl #[.pointer (some ⟨b, 0, none⟩), .agg #[.int .i64 m.sp, .int .u64 m.va, .int .i64 m.sz], .int .i64 m.v] (by rfl) rfl rfl (by (try simp only [List.map_toArray, List.map_cons, List.map_nil]); first | done | rfl) ?_
          refine (push_calls W.drew b N L' free n (HA4.out.move (fun k hk => rfl)) m.sp m.va m.sz m.v (ch m.key) l HL.out hfew (by rw [HLQ.out]; exact HCM.out)).mono ?_
          rintro e w5 ⟨rfl, g, hg, hA5, hM5⟩
          refine ⟨_, rfl, ?_⟩
          refine hK.out _ _ ?_
          clear hK K
          refine norm_ (a' := ?_) ?_ ?_
          rotate_left
          · show Act.put _ (some 41) _ = _
            simp only [Act.put, List.setIfInBounds_toArray, List.set_cons_zero, List.set_cons_succ, i64_w, i32_w]
            rfl
          refine done_ (by kernel_rfl) ?_
          have hM6 : Mv [N] W w5 := ⟨hM5.os, hM5.tape, hM5.output, hM5.size, hM5.block⟩
          obtain ⟨k1, k2, k3⟩ := dist_step (nd := fun x : { x : Int × Nd // x.2 ∈ ns } => x.1.2) (x := ⟨(xi, m), hmem⟩) D0.out D1.out HA4.out D3.out D4.out HL.out HL2.out hg hA5 hM6
          rw [hs3] at k2
          exact ⟨k3, k2, k1⟩
        · rintro e a3 w3 hq
          cases e with
          | normal => 
            obtain ⟨q1, q2, q3⟩ := hq
            gi_wp2
            exact ⟨q1, q2, q3⟩
          | _ => exact hq.elim
      case stop =>
        rintro D3 cd pre W hD3 hpre hF hK
        exact hF.elim
      case done =>
        rintro D3 xs W4 hD3 rfl ⟨d0, ⟨L', d1, d2, d3⟩, d4⟩ hKd
        have hK2 : W4.heap[D2]? = some (.deferred (some [])) := (d4.block D2 (by omega) (by simp; omega)).trans hK3
        have hK2' : (W4.putObj D3 (.deferred none)).heap[D2]? = some (.deferred (some [])) := (World.putObj_heap_other (by omega)).trans hK2
        gi_wp2
        refine ⟨by simp, .inl ⟨_, _, rfl, run_takeDeferred hKd, ?_⟩⟩
        refine ⟨by simp, .inl ⟨_, _, rfl, run_takeDeferred hK2', ?_⟩⟩
        refine ⟨.int .i64 0, by simp [results, Try.f47, go_sem], rfl, N, L', ?_, ?_, ?_, ?_⟩
        · rw [d1]
          have e : xs.map (fun x => kv x.1.2) = (xs.map (fun x => x.1.2)).map kv := by rw [List.map_map]; rfl
          rw [e, HQN.out, List.map_reverse, List.reverse_reverse, E1.out, List.map_flatten]
        · exact (d2.grownR (grownBy_putObj' W4 D3 (.deferred none)) (fun r e => by cases e; exact ⟨_, hKd, rfl⟩)).grownR (grownBy_putObj' _ D2 (.deferred none)) (fun r e => by cases e; exact ⟨_, hK2', rfl⟩)
        · exact d3
        · have h5 := HM3.out.trans d4 (fun k hk => .inr (by obtain rfl := List.mem_singleton.1 hk; omega))
          exact (h5.grownR (grownBy_putObj' W4 D3 (.deferred none)) (fun r e => by cases e; omega)).grownR (grownBy_putObj' _ D2 (.deferred none)) (fun r e => by cases e; omega)
    | _ => exact hq.elim
end Go.Proofs.Ytgmdlndiilibpaa.PH

