import Derived.Test.YtgmdlndiilibpaaZHp9
import Derived.Test.YtgmdlndiilibpaaZHp3
import Derived.Test.YtgmdlndiilibpaaZHp6
import Derived.RangeFuncNested
import Derived.Test.YtgmdlndiilibpaaZHp4
import Derived.Deep.DeepCutAuto
import Derived.Deep.Light
/- hash.Table.Resize: its walk. -/
set_option linter.unusedVariables false
set_option linter.unusedSimpArgs false
namespace Go.Proofs.Ytgmdlndiilibpaa.PH
open Go.RowKit Go.Shelf Go.Proofs.YtgmdlndiilibpaaW.PrintWords Go.Proofs.YtgmdlndiilibpaaW.PrintLast Go.Proofs.YtgmdlndiilibpaaW.PrintMore Go.Proofs.Ytgmdlndiilibpaa.Tab
attribute [local go_sem] Oper.semAt_some
theorem own27r {β : Type} (B : Nat) (v : Value) (a b c : Value) : Own (fun (_ : β) W => W.heap[B]? = some (.cells #[a, b, c] 27 (0, 0))) := fun s X Y row hs hg hr =>
  (grownBy_keeps_cells hg hr hs rfl).trans hs
set_option maxHeartbeats 4000000 in
set_option maxRecDepth 100000 in
theorem resize_calls (w : World) (b c : Nat) (L : List (List Nd)) (free n : Int) (hT : At 116 120 123 w b c L free n) (hN : L.flatten.length ≤ 1000000) (q : Nat) (hq1 : 1 ≤ q) (hq2 : q ≤ 10000000) (ch : Int × Int × Int → Nat)
    (hch : ∀ m ∈ L.flatten, ch m.key < q ∧ hash_Chain.f m.sp m.va m.sz (q : Int) = some ((ch m.key : Nat) : Int)) :
    Calls Try.prog 47 #[.pointer (some ⟨b, 0, none⟩), .int .i64 (q : Int)] w fun e w' => e = .returned (.int .i64 0) ∧
      ∃ c' L', L'.map (List.map kv) = redo ch q (L.flatten.map kv) ∧ At 116 120 123 w' b c' L' free n ∧ (∀ k ∈ ids b c' L', k = b ∨ w.heap.size ≤ k) ∧ Mv [b] w w' := by
  have HT := Aside0.mk hT
  have HCH := Aside0.mk hch
  have HN := Aside0.mk hN
  clear hT hch hN
  obtain ⟨i0, hi, hz0, hz1, hz2⟩ := info_parts info120
  refine (callsIn_wide (n := 5)).1 ?_
  have h1 : 1 ≤ 5 := by omega
  refine callsIn_of_wp_marks Try.func47 rfl trivial ?_ rfl
  simp only [Try.ntmps47, List.size_toArray, List.length_cons, List.length_nil, Nat.reduceAdd, Nat.reduceSub, Array.replicate_succ, Array.replicate_zero, List.push_toArray, List.append_toArray, List.nil_append, List.cons_append]
  have hq0 : decide ((q : Int) < 1) = false := by simp; omega
  gi_wp2_with (refine ⟨trivial, ?_⟩; gi_at_call 71; refine (all_in Fence.wide _ trivial rfl _ _).mono ?_; rintro e w' ⟨rfl, rfl⟩)
  obtain ⟨D, hD⟩ : ∃ D, w.heap.size = D := ⟨_, rfl⟩
  have b0 := ((Boxed.new w 58 (.pointer (some ⟨b, 0, none⟩))).alloc (.cells #[.slice none 0 0] 114)).alloc (.cells #[.pointer (some ⟨b, 0, none⟩)] 58)
  have b1 := (Boxed.new (w.alloc (.cells #[.pointer (some ⟨b, 0, none⟩)] 58)) 114 (.slice none 0 0)).alloc (.cells #[.pointer (some ⟨b, 0, none⟩)] 58)
  have b2 := Boxed.new ((w.alloc (.cells #[.pointer (some ⟨b, 0, none⟩)] 58)).alloc (.cells #[.slice none 0 0] 114)) 58 (.pointer (some ⟨b, 0, none⟩))
  simp only [World.size_alloc] at b1 b2
  have hB0 : Below w.heap.size w (((w.alloc (.cells #[.pointer (some ⟨b, 0, none⟩)] 58)).alloc (.cells #[.slice none 0 0] 114)).alloc (.cells #[.pointer (some ⟨b, 0, none⟩)] 58)) :=
    (((Below.refl _ w).alloc (Nat.le_refl _) _).alloc (by simp) _).alloc (by simp; omega) _
  have hsz : (((w.alloc (.cells #[.pointer (some ⟨b, 0, none⟩)] 58)).alloc (.cells #[.slice none 0 0] 114)).alloc (.cells #[.pointer (some ⟨b, 0, none⟩)] 58)).heap.size = w.heap.size + 3 := by simp
  obtain ⟨W0, hW0⟩ : ∃ W0, ((w.alloc (.cells #[.pointer (some ⟨b, 0, none⟩)] 58)).alloc (.cells #[.slice none 0 0] 114)).alloc (.cells #[.pointer (some ⟨b, 0, none⟩)] 58) = W0 := ⟨_, rfl⟩
  rw [hW0] at b0 b1 b2 hB0 hsz ⊢
  clear hW0
  have hTB : ∀ k ∈ ids b c L, k < w.heap.size := HT.out.lt
  have hT0 := HT.out.below hB0
  rw [hD] at b0 b1 b2 hB0 hsz hTB ⊢
  simp only [Nat.add_assoc, Nat.reduceAdd] at b1 b2 ⊢
  have hg0 : Gath w D b [] W0 := ⟨b0, ⟨_, [], rfl, b1, World.ownsRow_nil _ _ _ _, fun m hm => by cases hm⟩, hB0, by omega⟩
  refine wpIn_rangeFunc_ownH rfl h1 (gf := 92) (lb := #[.pointer (some ⟨D + 2, 0, none⟩)]) rfl trivial (enters_of Try.func92 (by kernel_rfl) rfl)
    (all_stops 4 (by omega) (D + 2) D b c L free n W0 (by omega) (by omega) b2.cell hT0 hTB) belowK_t (belowK_b (by omega)) (Below.refl _ _) (fun _ => rfl)
    (Gath w D b) (fun cd pre W => False) ?hI ?hIx ?h0
    (fun x a' W => ∃ Bx, D + 2 < Bx ∧ W.heap[Bx]? = some (.cells #[.int .i64 x.sp, .int .u64 x.va, .int .i64 x.sz] 27 (0, 0)) ∧ a' = { tmps := #[.pointer (some ⟨b, 0, none⟩), .int .i64 (q : Int), .pointer (some ⟨D, 0, none⟩), undef, .int .i64 0, .pointer (some ⟨D + 1, 0, none⟩), .pointer (some ⟨Bx, 0, none⟩), .int .i64 x.v, undef, undef, .int .i64 (q : Int), .bool false, .pointer (some ⟨b, 0, none⟩), .func (.func 92) #[] #[.pointer (some ⟨D + 2, 0, none⟩)], .agg #[.int .i64 x.sp, .int .u64 x.va, .int .i64 x.sz], .int .i64 x.v, undef, undef, undef, undef, undef, undef, undef, undef, undef, undef, undef, undef, undef, undef, undef, undef, undef, undef, undef, undef, undef, undef, undef, undef, undef, undef], defers := [] })
    ?hAx ?assign ?body ?done ?stop
  case hI => exact gath_own w D b _ (by omega) (by omega)
  case hIx => exact fun cd s X Y row hs hg hr => hs
  case h0 => exact hg0
  case hAx =>
    rintro x a' _ X Y row ⟨Bx, h1, h2, h3⟩ hg hr
    exact ⟨Bx, h1, own27r (β := Unit) Bx .nilFunc _ _ _ () X Y row h2 hg (fun r e => (hr r e).2), h3⟩
  case assign =>
    rintro l pre x W K ⟨c0, ⟨v, ns, e1, c1, e2, e3⟩, hBW, hsW⟩ hK
    dsimp only [encN]
    have hl4 := c1.lt
    gi_wp2
    exact hK _ _ ((KeepsOthers.alloc _ _).from _) ((Below.refl _ W).alloc (by omega) _) ⟨c0.alloc _, ⟨v, ns, e1, c1.alloc _, e2.alloc _, e3.move (fun m hm => Below.heap_alloc _ _ _ (e3.lt m hm))⟩, hBW.alloc (by omega) _, by simp; omega⟩ ⟨W.heap.size, by omega, World.alloc_heap_new W _, rfl⟩
  case body =>
    rintro l pre x a' W hl ⟨r, hr⟩ ⟨c0, ⟨v, ns, e1, c1, e2, e3⟩, hBW, hsW⟩ ⟨Bx, hBx, cx, rfl⟩ hlt
    dsimp only
    have hlen : ns.length ≤ 1000000 := by
      have := congrArg List.length e1
      simp only [List.length_map] at this
      have := HN.out
      omega
    have s1 := c1.cell
    have s2 : W.cell? ⟨Bx, 0, none⟩ = some (.int .i64 x.sp) := by rw [Lib.cell_of_heap cx]; rfl
    have s3 : W.cell? ⟨Bx, 1, none⟩ = some (.int .u64 x.va) := by rw [Lib.cell_of_heap cx]; rfl
    have s4 : W.cell? ⟨Bx, 2, none⟩ = some (.int .i64 x.sz) := by rw [Lib.cell_of_heap cx]; rfl
    have hDW : D + 1 < W.heap.size := c1.lt
    have E1 := Aside0.mk e1
    have E2 := Aside0.mk e2
    have E3 := Aside0.mk e3
    have C0 := Aside0.mk c0
    have C1 := Aside0.mk c1
    have HBW := Aside0.mk hBW
    clear e1 e2 e3 c0 c1 hBW cx hr
    gi_wp2_with (gi_at_builtin; refine wpListIn_append_own _ rfl _ _ 114 rfl D 120 i0 (.pointer none) 1 8 Try.underlying114 hi hz0 hz1 hz2 rfl (by decide) v ns.length (ns.map (fun m => pv m.id)) rfl ((E2.out.alloc _).alloc _) ⟨W.heap.size + 1, 0, none⟩ 1 1 [.pointer (some ⟨W.heap.size, 0, none⟩)] (by simp [Act.eval]) rfl (by have := cell_one_new (W.alloc (.cells #[.int .i64 x.sp, .int .u64 x.va, .int .i64 x.sz, .int .i64 x.v, .pointer none] 123)) (.pointer (some ⟨W.heap.size, 0, none⟩)) 120; simpa using this) (by simp [Value.oneCell']) (by simp [maxLen]; omega) (by omega) (by simp; omega) ?_; intro v' w3 hown' hg3 hnil3; obtain ⟨g', cap', rfl⟩ := own_form hown' (by omega); obtain ⟨f1, f2, f3, f4⟩ := gath_step C0.out E1.out C1.out E2.out E3.out HBW.out (by omega) hsW hg3 hown'; have f1c := f1.cell; have f1f := f1.frozen; replace f1 := Aside0.mk f1; replace f2 := Aside0.mk f2; replace f3 := Aside0.mk f3; replace f4 := Aside0.mk f4; clear hown' hg3 hnil3)
    exact ⟨by simpa [hsz] using f2.out, f3.out, f4.out⟩
  case stop =>
    rintro D2 cd pre W hD2 hpre hF hK
    exact hF.elim
  case done =>
    rintro D2 xs W hD2 rfl ⟨c0, ⟨v, ns, e1, c1, e2, e3⟩, hBW, hsW⟩ hK
    have s0 := c0.cell
    have hTW := HT.out.below (by rw [hD]; exact hBW)
    have hbl : b < W.heap.size := hTW.lt b (by simp [ids])
    have hbD : b < D := hTB b (by simp [ids])
    obtain ⟨Z, hZ⟩ : ∃ Z, W.alloc (.cells (madeCells #[.pointer none] q) 120) = Z := ⟨_, rfl⟩
    have hmk : (Instr.makeSlice 114 (.int .i64 (q : Int)) (.int .i64 (q : Int))).run Try.prog W = .ok (.slice (some ⟨W.heap.size, 0, none⟩) q q) Z := by rw [← hZ]; exact run_make_row' (P := Try.prog) 114 120 (.pointer none) 8 Try.underlying114 info120 rfl .i64 .i64 q (by omega) (by omega) W
    have hmkd : (Instr.makeSlice 114 (.int .i64 (q : Int)) (.int .i64 (q : Int))).run Try.prog W.drew = .ok (.slice (some ⟨W.heap.size, 0, none⟩) q q) Z.drew := by rw [← hZ]; exact run_make_row' (P := Try.prog) 114 120 (.pointer none) 8 Try.underlying114 info120 rfl .i64 .i64 q (by omega) (by omega) W.drew
    have hZb : Below W.heap.size W Z := by rw [← hZ]; exact (Below.refl _ W).alloc (Nat.le_refl _) _
    have hZn : Z.heap[W.heap.size]? = some (.cells (madeCells #[.pointer none] q) 120 (0, 0)) := by rw [← hZ]; exact World.alloc_heap_new W _
    have hZs : Z.heap.size = W.heap.size + 1 := by rw [← hZ]; simp
    have s0z : Z.cell? ⟨D, 0, none⟩ = some (.pointer (some ⟨b, 0, none⟩)) := (hZb.cell (p := ⟨D, 0, none⟩) c0.lt).trans s0
    have hTZ := hTW.below hZb
    have cbz : Z.cell? ⟨b, 0, none⟩ = some (.slice (some ⟨c, 0, none⟩) L.length L.length) := by rw [Lib.cell_of_heap hTZ.hb]; rfl
    have fbz : Z.frozen? ⟨b, 0, none⟩ = false := Lib.frozen_of_heap hTZ.hb 0
    have HTW := Aside0.mk hTW
    have HTZ := Aside0.mk hTZ
    have E1 := Aside0.mk e1
    have E2 := Aside0.mk e2
    have E3 := Aside0.mk e3
    have C0 := Aside0.mk c0
    have C1 := Aside0.mk c1
    have HBW := Aside0.mk hBW
    have HZN := Aside0.mk hZn
    have HZB := Aside0.mk hZb
    have HZ := Aside0.mk hZ
    clear e1 e2 e3 c0 c1 hBW hTW hTZ hZ hZn hZb
    gi_wp2
    refine Code.wpIn_mono (Q := fun e a' w' => match e with | .normal => (∃ (x23 x24 x25 x26 x27 : Value), a' = { tmps := #[.pointer (some ⟨b, 0, none⟩), .int .i64 (q : Int), .pointer (some ⟨D, 0, none⟩), undef, .int .i64 0, .pointer (some ⟨D + 1, 0, none⟩), undef, undef, undef, undef, .int .i64 (q : Int), .bool false, .pointer (some ⟨b, 0, none⟩), .func (.func 92) #[] #[.pointer (some ⟨D + 2, 0, none⟩)], undef, undef, undef, undef, undef, undef, undef, undef, undef, x23, x24, x25, x26, x27, undef, undef, undef, undef, undef, undef, undef, undef, undef, undef, undef, undef, undef, undef], defers := [{ target := .collected D2, args := #[] }] }) ∧ w' = (Z.setCell ⟨b, 0, none⟩ (.slice (some ⟨W.heap.size, 0, none⟩) q q)).drew | _ => False) ?_ ?_
    rotate_left
    · clear hT0 hTB hg0 b0 b1 b2 hB0 hi hz0 hz1 hz2 hK
      gi_region
      all_goals exact ⟨⟨_, _, _, _, _, rfl⟩, rfl⟩
    rintro e a2 w2 hq
    cases e with
    | normal =>
      obtain ⟨⟨x23, x24, x25, x26, x27, rfl⟩, hw2⟩ := hq
      have hbN : b ≠ W.heap.size := by omega
      have oth : ∀ k, k ≠ b → w2.heap[k]? = Z.heap[k]? := fun k hk => by rw [hw2]; exact Below.heap_setCell Z ⟨b, 0, none⟩ _ k hk
      have old : ∀ k, k < W.heap.size → k ≠ b → w2.heap[k]? = W.heap[k]? := fun k hk hkb => (oth k hkb).trans (HZB.out.block k hk)
      have hs2 : w2.heap.size = W.heap.size + 1 := by rw [hw2, ← hZs]; simp [World.setCell, World.drew]
      have hA2 : At 116 120 123 w2 b W.heap.size (List.replicate q []) free n := HTW.out.redone hq1 hq2 hbN
        (by rw [hw2]; exact (heap_set_same _ HTZ.out.hb).trans rfl) ((oth _ (Ne.symm hbN)).trans HZN.out)
      have hM2 : Mv [b] w w2 := by
        have hb := HBW.out
        have hz := HZB.out
        refine ⟨?_, ?_, ?_, by have := hb.size; omega, fun k hk hkb => ?_⟩
        · rw [hw2]; exact hz.os.trans hb.os
        · rw [hw2]; exact hz.tape.trans hb.tape
        · rw [hw2]; exact hz.output.trans hb.output
        · exact (old k (by omega) (by simpa using hkb)).trans (hb.block k (by omega))
      have c02 : Boxed w2 D 58 (.pointer (some ⟨b, 0, none⟩)) := (old D (by omega) (by omega)).trans C0.out
      have c12 : Boxed w2 (D + 1) 114 v := (old (D + 1) (by omega) (by omega)).trans C1.out
      have e22 : w2.ownsRow D 120 1 v ns.length (ns.map (fun m => pv m.id)) := own_move E2.out (fun k hk => by
        obtain ⟨h1, h2, _⟩ := own_lt E2.out k hk
        exact old k h2 (by omega))
      have e32 : Loose w2 D ns := E3.out.move (fun m hm => old m.id (E3.out.lt m hm) (by have := (E3.out m hm).1; omega))
      obtain ⟨N, hNe⟩ : ∃ N, W.heap.size = N := ⟨_, rfl⟩
      rw [hNe] at hs2 hA2 hbN hsW
      have hvl : ∀ k, v.ownBlock = some k → k < N := fun k hk => by have := (own_lt E2.out k hk).2.1; omega
      have hK2 : w2.heap[D2]? = some (.deferred (some [])) := (old D2 (by rw [hNe]; have := (Array.getElem?_eq_some_iff.1 hK).1; omega) (by omega)).trans hK
      have hD2N : D2 < N := by have := (Array.getElem?_eq_some_iff.1 hK).1; omega
      have hll : ∀ m ∈ ns, m.id < N := fun m hm => by have := E3.out.lt m hm; omega
      clear hw2 oth old E2 E3 C0 C1 HBW HZN HZB HZ HTZ HTW hZs s0 s0z cbz fbz hbl hmk hmkd hT0 hTB hg0 b0 b1 b2 hB0 hi hz0 hz1 hz2 hK hNe
      obtain ⟨A, cv, rfl, hcv, hAr⟩ := own_slice e22
      have s1 := c12.cell
      have hlen : ns.length ≤ 1000000 := by
        have := congrArg List.length E1.out
        simp only [List.length_map] at this
        have := HN.out
        omega
      have C02 := Aside0.mk c02
      have HA2 := Aside0.mk hA2
      have HM2 := Aside0.mk hM2
      have E32 := Aside0.mk e32
      have HAR := Aside0.mk hAr
      have hcv2 : ∀ m ∈ ns, ch m.key < q ∧ hash_Chain.f m.sp m.va m.sz (q : Int) = some ((ch m.key : Nat) : Int) := fun m hm => by
        have h1 : kv m ∈ L.flatten.map kv := by rw [← E1.out]; exact List.mem_map_of_mem hm
        obtain ⟨m', hm', h2⟩ := List.mem_map.1 h1
        have h3 := HCH.out m' hm'
        simp only [kv, Nd.key, Prod.mk.injEq] at h2
        obtain ⟨⟨h4, h5, h6⟩, _⟩ := h2
        simp only [Nd.key] at h3 ⊢
        rw [h4, h5, h6] at h3
        exact h3
      have HCV := Aside0.mk hcv2
      have HLL := Aside0.mk hll
      have C12 := Aside0.mk c12
      have HK2 := Aside0.mk hK2
      clear hcv2 c02 c12 hA2 hM2 e22 e32 hAr hll hK2
      gi_wp2_with (refine ⟨trivial, ?_⟩; gi_at_call 78; refine (back_calls Fence.wide _ trivial rfl _ _ _ _).mono ?_; rintro e w' ⟨rfl, rfl⟩)
      have c03 := C02.out.alloc (.cells #[.slice A ns.length cv] 114)
      have bn := Boxed.new w2 114 (.slice A ns.length cv)
      have hz3 : Below w2.heap.size w2 (w2.alloc (.cells #[.slice A ns.length cv] 114)) := (Below.refl _ w2).alloc (Nat.le_refl _) _
      have hA3 := HA2.out.below hz3
      have hM3 : Mv [b] w (w2.alloc (.cells #[.slice A ns.length cv] 114)) := HM2.out.trans (Mv.of_below (S := [b]) hz3) (fun k hk => .inl hk)
      have e33 : Loose (w2.alloc (.cells #[.slice A ns.length cv] 114)) D ns := E32.out.move (fun m hm => hz3.block _ (E32.out.lt m hm))
      have hs3 : (w2.alloc (.cells #[.slice A ns.length cv] 114)).heap.size = N + 2 := by rw [World.size_alloc, hs2]
      have hK3 := (hz3.block D2 (by omega)).trans HK2.out
      have hAr3 : ∀ i (hi : i < ns.length), ∃ g, A = some ⟨g, 0, none⟩ ∧ g < N ∧ (w2.alloc (.cells #[.slice A ns.length cv] 114)).cell? ⟨g, i, none⟩ = some (pv ns[i].id) := fun i hi => by
        obtain ⟨g, h1, h2, h3, h4⟩ := HAR.out i hi
        exact ⟨g, h1, hvl g (by rw [h1]; rfl), (hz3.cell (p := ⟨g, i, none⟩) h3).trans h4⟩
      rw [hs2] at bn
      try simp only [hs2]
      generalize w2.alloc (.cells #[.slice A ns.length cv] 114) = W3 at *
      obtain ⟨Q, hQ⟩ := lift_list (fun x : Int × Nd => x.2 ∈ ns) (bkN ns) (fun x hx => bkN_mem hx)
      have hQf : Q.map (fun x : { x : Int × Nd // x.2 ∈ ns } => (x.1.1, x.1.2.id)) = bkQ (ns.map Nd.id) := by
        rw [← bkN_map, ← hQ, List.map_map]; rfl
      have hQn : Q.map (fun x => x.1.2) = ns.reverse := by
        rw [← bkN_snd, ← hQ, List.map_map]; rfl
      have hQl : Q.length = ns.length := by
        have := congrArg List.length hQn
        simpa using this
      have hd0 : Dist (fun x : { x : Int × Nd // x.2 ∈ ns } => x.1.2) W3 D b N q ch free n [] W3 := by
        refine ⟨c03, ⟨List.replicate q [], ?_, hA3, ?_⟩, Mv.of_below (Below.refl _ _)⟩
        · rw [List.map_nil, List.reverse_nil, redo_nil, List.map_replicate]; rfl
        · intro k hk
          simp only [ids, List.mem_cons, List.mem_map, List.mem_flatten] at hk
          rcases hk with rfl | rfl | ⟨m, ⟨l, hl, hml⟩, rfl⟩
          · exact .inl rfl
          · exact .inr (by omega)
          · rw [(List.mem_replicate.1 hl).2] at hml; cases hml
      have HQN := Aside0.mk hQn
      have HE1 := E1
      have HD0 := Aside0.mk hd0
      have HM3 := Aside0.mk hM3
      have E33 := Aside0.mk e33
      have hst := back_stops (fun x : { x : Int × Nd // x.2 ∈ ns } => (x.1.1, x.1.2.id)) 4 (by omega) (N + 1) (N + 2) [N] A cv (ns.map Nd.id) (by rw [List.length_map]; omega) (by rw [List.length_map]; exact hcv) Q hQf W3 (by omega) (by omega) (by simp) (by rw [List.length_map]; exact bn.cell)
        (fun i hi => by
          rw [List.length_map] at hi
          obtain ⟨g, g1, g2, g3⟩ := hAr3 i hi
          exact ⟨g, g1, by omega, by simp; omega, by rw [List.getElem_map]; exact g3⟩)
      clear hd0 hM3 e33 hQn hQf hQ hAr3 hz3 hA3 c03 bn C02 HA2 HM2 E32 HAR C12 HK2 s1
      refine wpIn_rangeFunc_ownH rfl h1 (gf := 94) (lb := #[.pointer (some ⟨N + 1, 0, none⟩)]) rfl trivial (enters_of Try.func94 (by kernel_rfl) rfl)
        hst (fun h k => KpB.trans h k) (fun X l o o' hl _ _ _ => kpb_put X l o' (by omega)) (Below.refl _ _) (fun _ => rfl)
        (Dist (fun x : { x : Int × Nd // x.2 ∈ ns } => x.1.2) W3 D b N q ch free n) (fun cd pre W => False) ?hI ?hIx ?h0
        (fun x a' W => a' = { tmps := #[.pointer (some ⟨b, 0, none⟩), .int .i64 (q : Int), .pointer (some ⟨D, 0, none⟩), undef, .int .i64 0, .pointer (some ⟨D + 1, 0, none⟩), undef, undef, undef, (.pointer (some ⟨x.1.2.id, 0, none⟩)), .int .i64 (q : Int), .bool false, .pointer (some ⟨b, 0, none⟩), .func (.func 92) #[] #[.pointer (some ⟨D + 2, 0, none⟩)], undef, undef, undef, undef, undef, undef, undef, undef, undef, x23, x24, x25, x26, x27, .slice A ns.length cv, .func (.func 94) #[] #[.pointer (some ⟨N + 1, 0, none⟩)], .int .i64 x.1.1, (.pointer (some ⟨x.1.2.id, 0, none⟩)), undef, undef, undef, undef, undef, undef, undef, undef, undef, undef], defers := [] })
        ?hAx ?assign ?body ?done ?stop
      case hI => exact dist_own _ _ _ _ _ _ _ _ _ _ (Nat.le_refl _)
      case hIx => exact fun cd s X Y row hs hg hr => hs
      case h0 => exact HD0.out
      case hAx => exact fun x a' _ X Y row hs hg hr => hs
      case assign =>
        rintro l pre x W4 K hI hK4
        dsimp only [pv]
        gi_wp2
        exact hK4 _ _ (KeepsFrom.refl _ _) (KpB.refl _ _ _) hI rfl
      case body =>
        rintro l pre ⟨⟨xi, m⟩, hmem⟩ a' W ha hr ⟨d0, ⟨L', d1, d2, d3⟩, d4⟩ rfl hlt
        dsimp only
        dsimp only at hmem
        have hm4 := (d4.block m.id (by have := HLL.out m hmem; omega) (by have := HLL.out m hmem; simp; omega)).trans (E33.out m hmem).2
        have s0 := d0.cell
        have s1 : W.cell? ⟨m.id, 0, none⟩ = some (.int .i64 m.sp) := by rw [Lib.cell_of_heap hm4]; rfl
        have s2 : W.cell? ⟨m.id, 1, none⟩ = some (.int .u64 m.va) := by rw [Lib.cell_of_heap hm4]; rfl
        have s3 : W.cell? ⟨m.id, 2, none⟩ = some (.int .i64 m.sz) := by rw [Lib.cell_of_heap hm4]; rfl
        have s4 : W.cell? ⟨m.id, 3, none⟩ = some (.int .i64 m.v) := by rw [Lib.cell_of_heap hm4]; rfl
        obtain ⟨hcq, hcf⟩ := HCV.out m hmem
        obtain ⟨l, hl1, hl2, hl3⟩ := dist_chain d1 hcq
        have hfew : l.length + 1 ≤ 10000000 := by
          simp only [List.length_reverse, List.length_map] at hl3
          omega
        have D0 := Aside0.mk d0
        have D1 := Aside0.mk d1
        have HA4 := Aside0.mk d2
        have D3 := Aside0.mk d3
        have D4 := Aside0.mk d4
        have HL := Aside0.mk hl1
        have HL2 := Aside0.mk hl2
        have HLQ := Aside0.mk (dist_len d1)
        have HCM := Aside0.mk hcf
        clear d0 d1 d2 d3 d4 hl1 hl2 hl3 hcq hcf hm4 hst hr
        gi_wp2
        refine Code.wpIn_mono (Q := fun e a' w' => match e with | .normal => KeepsFrom W3.heap.size W w' ∧ KpB (N + 2) [N] W w' ∧ Dist (fun x : { x : Int × Nd // x.2 ∈ ns } => x.1.2) W3 D b N q ch free n (pre ++ [⟨(xi, m), hmem⟩]) w' | _ => False) ?_ ?_
        rotate_left
        · skip
          refine startIn_ wide_round (fun _ => trivial) rfl (by kernel_rfl) (fun _ _ h => h) (n := 10) (S := fun w' => w'.cell? ⟨D, 0, none⟩ = some (.pointer (some ⟨b, 0, none⟩)) ∧ w'.cell? ⟨m.id, 0, none⟩ = some (.int .i64 m.sp) ∧ w'.cell? ⟨m.id, 1, none⟩ = some (.int .u64 m.va) ∧ w'.cell? ⟨m.id, 2, none⟩ = some (.int .i64 m.sz) ∧ w'.cell? ⟨m.id, 3, none⟩ = some (.int .i64 m.v)) (ds := [9]) #[false, false, false, false, false, false, false, false, false, false] (by kernel_rfl) rfl rfl ⟨s0, s1, s2, s3, s4⟩ (fun hHeld => ?_)
          refine pure_ (i := 1) (N := some 33) (v := ?_) (a' := ?_) #[false, true, false, false, false, false, false, false, false, false] rfl rfl (by kernel_rfl) (fun _ _ _ h => h) (Or.inl ⟨by rfl, ?_⟩) ?_ ?_
          rotate_left
          · intro w'
            go_simp
            with_reducible rfl
          rotate_left
          · simp only [Act.put, List.setIfInBounds_toArray, List.set_cons_zero, List.set_cons_succ, i64_w, i32_w]
            rfl
          refine pure_ (i := 2) (N := some 34) (v := ?_) (a' := ?_) #[false, true, true, false, false, false, false, false, false, false] rfl rfl (by kernel_rfl) (fun _ _ _ h => h) (Or.inl ⟨by rfl, ?_⟩) ?_ ?_
          rotate_left
          · intro w'
            go_simp
            with_reducible rfl
          rotate_left
          · simp only [Act.put, List.setIfInBounds_toArray, List.set_cons_zero, List.set_cons_succ, i64_w, i32_w]
            rfl
          refine pure_ (i := 3) (N := some 35) (v := ?_) (a' := ?_) #[false, true, true, true, false, false, false, false, false, false] rfl rfl (by kernel_rfl) (fun _ _ _ h => h) (Or.inl ⟨by rfl, ?_⟩) ?_ ?_
          rotate_left
          · intro w'
            go_simp
            with_reducible rfl
          rotate_left
          · simp only [Act.put, List.setIfInBounds_toArray, List.set_cons_zero, List.set_cons_succ, i64_w, i32_w]
            rfl
          refine pure_ (i := 5) (N := some 37) (v := ?_) (a' := ?_) #[false, true, true, true, false, true, false, false, false, false] rfl rfl (by kernel_rfl) (fun _ _ _ h => h) (Or.inl ⟨by rfl, ?_⟩) ?_ ?_
          rotate_left
          · intro w'
            go_simp
            with_reducible rfl
          rotate_left
          · simp only [Act.put, List.setIfInBounds_toArray, List.set_cons_zero, List.set_cons_succ, i64_w, i32_w]
            rfl
          refine pure_ (i := 6) (N := some 38) (v := ?_) (a' := ?_) #[false, true, true, true, false, true, true, false, false, false] rfl rfl (by kernel_rfl) (fun _ _ _ h => h) (Or.inl ⟨by rfl, ?_⟩) ?_ ?_
          rotate_left
          · intro w'
            go_simp
            with_reducible rfl
          rotate_left
          · simp only [Act.put, List.setIfInBounds_toArray, List.set_cons_zero, List.set_cons_succ, i64_w, i32_w]
            rfl
          refine pure_ (i := 7) (N := some 39) (v := ?_) (a' := ?_) #[false, true, true, true, false, true, true, true, false, false] rfl rfl (by kernel_rfl) (fun _ _ _ h => h) (Or.inl ⟨by rfl, ?_⟩) ?_ ?_
          rotate_left
          · intro w'
            go_simp
            with_reducible rfl
          rotate_left
          · simp only [Act.put, List.setIfInBounds_toArray, List.set_cons_zero, List.set_cons_succ, i64_w, i32_w]
            rfl
          refine take_ (i := 0) (N := some 32) (v := ?_) (a' := ?_) #[true, true, true, true, false, true, true, true, false, false] rfl rfl (by kernel_rfl) (fun _ _ _ h => h) (Or.inl ⟨by rfl, ?_⟩) hHeld ?_ ?_
          rotate_left
          · rintro w' ⟨s0, s1, s2, s3, s4⟩
            go_simp
            with_reducible rfl
          rotate_left
          · simp only [Act.put, List.setIfInBounds_toArray, List.set_cons_zero, List.set_cons_succ, i64_w, i32_w]
            rfl
          refine take_ (i := 4) (N := some 36) (v := ?_) (a' := ?_) #[true, true, true, true, true, true, true, true, false, false] rfl rfl (by kernel_rfl) (fun _ _ _ h => h) (Or.inl ⟨by rfl, ?_⟩) hHeld ?_ ?_
          rotate_left
          · rintro w' ⟨s0, s1, s2, s3, s4⟩
            go_simp
            with_reducible rfl
          rotate_left
          · simp only [Act.put, List.setIfInBounds_toArray, List.set_cons_zero, List.set_cons_succ, i64_w, i32_w]
            rfl
          refine take_ (i := 8) (N := some 40) (v := ?_) (a' := ?_) #[true, true, true, true, true, true, true, true, true, false] rfl rfl (by kernel_rfl) (fun _ _ _ h => h) (Or.inl ⟨by rfl, ?_⟩) hHeld ?_ ?_
          rotate_left
          · rintro w' ⟨s0, s1, s2, s3, s4⟩
            go_simp
            with_reducible rfl
          rotate_left
          · simp only [Act.put, List.setIfInBounds_toArray, List.set_cons_zero, List.set_cons_succ, i64_w, i32_w]
            rfl
          refine last_ (i := 9) (N := some 41) #[true, true, true, true, true, true, true, true, true, true] rfl rfl (by kernel_rfl) (by decide) (fun K hK => ?_)
          refine goes_ Try.func67 (by kernel_rfl) rfl #[.pointer (some ⟨b, 0, none⟩), .agg #[.int .i64 m.sp, .int .u64 m.va, .int .i64 m.sz], .int .i64 m.v] (by rfl) rfl rfl (by (try simp only [List.map_toArray, List.map_cons, List.map_nil]); first | done | rfl) ?_
          refine (push_calls W.drew b N L' free n (HA4.out.move (fun k hk => rfl)) m.sp m.va m.sz m.v (ch m.key) l HL.out hfew (by rw [HLQ.out]; exact HCM.out)).mono ?_
          rintro e w5 ⟨rfl, g, hg, hA5, hM5⟩
          refine ⟨_, rfl, ?_⟩
          refine hK.out _ _ ?_
          clear hK K
          refine norm_ (a' := ?_) ?_ ?_
          rotate_left
          · show Act.put _ (some 41) _ = _
            simp only [Act.put, List.setIfInBounds_toArray, List.set_cons_zero, List.set_cons_succ, i64_w, i32_w]
            rfl
          refine done_ (by kernel_rfl) ?_
          have hM6 : Mv [N] W w5 := ⟨hM5.os, hM5.tape, hM5.output, hM5.size, hM5.block⟩
          obtain ⟨k1, k2, k3⟩ := dist_step (nd := fun x : { x : Int × Nd // x.2 ∈ ns } => x.1.2) (x := ⟨(xi, m), hmem⟩) D0.out D1.out HA4.out D3.out D4.out HL.out HL2.out hg hA5 hM6
          rw [hs3] at k2
          exact ⟨k3, k2, k1⟩
        · rintro e a3 w3 hq
          cases e with
          | normal => 
            obtain ⟨q1, q2, q3⟩ := hq
            gi_wp2
            exact ⟨q1, q2, q3⟩
          | _ => exact hq.elim
      case stop =>
        rintro D3 cd pre W hD3 hpre hF hK
        exact hF.elim
      case done =>
        rintro D3 xs W4 hD3 rfl ⟨d0, ⟨L', d1, d2, d3⟩, d4⟩ hKd
        have hK2 : W4.heap[D2]? = some (.deferred (some [])) := (d4.block D2 (by omega) (by simp; omega)).trans hK3
        have hK2' : (W4.putObj D3 (.deferred none)).heap[D2]? = some (.deferred (some [])) := (World.putObj_heap_other (by omega)).trans hK2
        gi_wp2
        refine ⟨by simp, .inl ⟨_, _, rfl, run_takeDeferred hKd, ?_⟩⟩
        refine ⟨by simp, .inl ⟨_, _, rfl, run_takeDeferred hK2', ?_⟩⟩
        refine ⟨.int .i64 0, by simp [results, Try.f47, go_sem], rfl, N, L', ?_, ?_, ?_, ?_⟩
        · rw [d1]
          have e : xs.map (fun x => kv x.1.2) = (xs.map (fun x => x.1.2)).map kv := by rw [List.map_map]; rfl
          rw [e, HQN.out, List.map_reverse, List.reverse_reverse, E1.out, List.map_flatten]
        · exact (d2.grownR (grownBy_putObj' W4 D3 (.deferred none)) (fun r e => by cases e; exact ⟨_, hKd, rfl⟩)).grownR (grownBy_putObj' _ D2 (.deferred none)) (fun r e => by cases e; exact ⟨_, hK2', rfl⟩)
        · exact d3
        · have h5 := HM3.out.trans d4 (fun k hk => .inr (by obtain rfl := List.mem_singleton.1 hk; omega))
          exact (h5.grownR (grownBy_putObj' W4 D3 (.deferred none)) (fun r e => by cases e; omega)).grownR (grownBy_putObj' _ D2 (.deferred none)) (fun r e => by cases e; omega)
    | _ => exact hq.elim
end Go.Proofs.Ytgmdlndiilibpaa.PH


namespace Go.Proofs.Ytgmdlndiilibpaa.PH
open Go.RowKit Go.Proofs.YtgmdlndiilibpaaW.PrintWords Go.Proofs.YtgmdlndiilibpaaW.PrintLast Go.Proofs.YtgmdlndiilibpaaW.PrintMore Go.Proofs.Ytgmdlndiilibpaa.Tab
attribute [local go_sem] max2_int min2_int max_two min_two max_three min_three max_four min_four   -- for this text's walks alone
set_option linter.unusedVariables false
set_option linter.unusedSimpArgs false
open Go.Proofs.Ytgmdlndiilibpaa.KeyG
attribute [local go_sem high] eqA27
theorem info27 : (Try.prog.info? 27).map (fun i => (i.zero, i.size, i.bytes)) = some (some (.agg #[(.int .i64 0), (.int .u64 0), (.int .i64 0)]), 3, 24) := by kernel_rfl
def nk (n : Nd) : S24 := ⟨n.sp, n.va, n.sz⟩
def slen : Value → Nat
  | .slice _ n _ => n
  | _ => 0
set_option maxHeartbeats 8000000 in
set_option maxRecDepth 100000 in
theorem row_no (w : World) (b c : Nat) (L : List (List Nd)) (free n : Int) (hT : At 116 120 123 w b c L free n) (i : Int) (hi : i < 0 ∨ (L.length : Int) ≤ i) :
    Calls Try.prog 38 #[.pointer (some ⟨b, 0, none⟩), .int .i64 i] w fun e w' => e = .returned (.slice none 0 0) ∧ w = w' := by
  have cb : w.cell? ⟨b, 0, none⟩ = some (.slice (some ⟨c, 0, none⟩) L.length L.length) := by rw [Lib.cell_of_heap hT.hb]; rfl
  by_cases h0 : i < 0
  · go_enter Try.func38, Try.ntmps38
    go_wp2
    go_ret
    exact ⟨rfl, rfl⟩
  · have h1 : (L.length : Int) ≤ i := by omega
    go_enter Try.func38, Try.ntmps38
    go_wp2
    go_ret
    exact ⟨rfl, rfl⟩
set_option maxHeartbeats 8000000 in
set_option maxRecDepth 100000 in
theorem row_calls (w : World) (b c : Nat) (L : List (List Nd)) (free n : Int) (hT : At 116 120 123 w b c L free n) (i : Nat) (l : List Nd) (hli : L[i]? = some l) :
    Calls Try.prog 38 #[.pointer (some ⟨b, 0, none⟩), .int .i64 i] w fun e w' => ∃ v, e = .returned v ∧ Kd.R k24 27 w' w.heap.size (fun _ => True) v (l.map nk) ∧ Below w.heap.size w w' := by
  obtain ⟨hi, hl⟩ := List.getElem?_eq_some_iff.1 hli
  have cb : w.cell? ⟨b, 0, none⟩ = some (.slice (some ⟨c, 0, none⟩) L.length L.length) := by rw [Lib.cell_of_heap hT.hb]; rfl
  have hsm := hT.small
  have hfew : l.length ≤ 10000000 := hT.few l (by rw [← hl]; exact List.getElem_mem hi)
  have hi0 : (0 : Int) ≤ (i : Int) := by omega
  have hi1 : (i : Int) < (L.length : Int) := by omega
  have hc0 : w.cell? ⟨c, i, none⟩ = some (ptr l) := by rw [hT.cell_ptr i hi, hl]
  have HT := Aside0.mk hT
  have HL := Aside0.mk hli
  obtain ⟨pa, hpa⟩ : ∃ pa : Option Addr, ptr l = .pointer pa := by cases l <;> exact ⟨_, rfl⟩
  rw [hpa] at hc0
  have HPA := Aside0.mk hpa
  have hd1 : decide (L.length ≤ i) = false := decide_eq_false (by omega)
  clear hl hli hT hpa
  go_enter Try.func38, Try.ntmps38
  go_wp2_with fail
  go_loopw [5, 6] (fun ov pv wr => ∃ j : Nat, j ≤ l.length ∧ pv = ptr (l.drop j) ∧ slen ov = j ∧ Aside0 (Kd.R k24 27 wr w.heap.size (fun _ => True) ov ((l.take j).map nk)) ∧ Aside0 (Below w.heap.size w wr)) (fun ov _ _ => l.length - slen ov)
  case atStart => exact ⟨0, by omega, HPA.out.symm, rfl, ⟨Kd.R_nil _ _ _ _ _⟩, ⟨Below.refl _ _⟩⟩
  case round =>
    obtain ⟨j, hj, rfl, hsl, HO, HB⟩ := hrel
    obtain ⟨A, cc, hov, hcc, hcr⟩ := Kd.R_reads HO.out
    clear hcr
    subst hov
    rw [List.length_map, List.length_take, Nat.min_eq_left hj] at hcc
    have HO' : Aside0 (Kd.R k24 27 wr w.heap.size (fun _ => True) (.slice A j cc) ((l.take j).map nk)) := ⟨by have := HO.out; rwa [List.length_map, List.length_take, Nat.min_eq_left hj] at this⟩
    rw [List.length_map, List.length_take, Nat.min_eq_left hj]
    clear HO
    clear hsl
    by_cases hlt : j < l.length
    · have hnd := HT.out.node HB.out HL.out j hlt
      have hdr : l.drop j = l[j] :: l.drop (j + 1) := List.drop_eq_getElem_cons hlt
      have htk : (l.take (j + 1)).map nk = (l.take j).map nk ++ [nk l[j]] := by rw [List.take_succ_eq_append_getElem hlt, List.map_append]; rfl
      obtain ⟨m, hm⟩ : ∃ m, l[j] = m := ⟨_, rfl⟩
      rw [hm] at hnd hdr htk
      rw [hdr]
      simp only [ptr]
      have d0 : wr.cell? ⟨m.id, 0, none⟩ = some (.int .i64 m.sp) := by rw [Lib.cell_of_heap hnd]; rfl
      have d1 : wr.cell? ⟨m.id, 1, none⟩ = some (.int .u64 m.va) := by rw [Lib.cell_of_heap hnd]; rfl
      have d2 : wr.cell? ⟨m.id, 2, none⟩ = some (.int .i64 m.sz) := by rw [Lib.cell_of_heap hnd]; rfl
      have HN := Aside0.mk hnd
      have HTK := Aside0.mk htk
      obtain ⟨pa2, hpa2⟩ : ∃ pa2 : Option Addr, ptr (l.drop (j + 1)) = .pointer pa2 := by cases l.drop (j + 1) <;> exact ⟨_, rfl⟩
      have HPA2 := Aside0.mk hpa2
      have HMM := Aside0.mk hm
      clear hnd hm hdr htk hpa2
      go_wp2_with (first | ((with_reducible refine gate_builtin (b := .append) (xs := #[.tmp 31, .tmp 36]) rfl ?_); at_builtin; refine Kd.R_append k24 (w0 := w) w.heap.size rfl (.tmp 31) (.tmp 36) 66 27 (.agg #[(.int .i64 0), (.int .u64 0), (.int .i64 0)]) 24 rfl Try.underlying66 info27 rfl (by decide) (by omega) (.slice A j cc) ((l.take j).map nk) (nk m) [.int .i64 m.sp, .int .u64 m.va, .int .i64 m.sz] (fun _ => True) (fun _ => False) rfl rfl ?aP (fun _ hk => hk.elim) ?aF ?aO ?aB ?aS ?aL ?_; (case aP => exact k24_mkM _ _ _ (nk m)); (case aB => exact HB.out); (case aF => exact (fun _ _ => trivial)); (case aO => exact HO'.out); (case aS => exact HB.out.size); (case aL => rw [List.length_map, List.length_take, Nat.min_eq_left hj]; omega); intro v5 w5 ho5 hb5 hg5 hat5; have hn5 := HT.out.node hb5 HL.out j hlt; rw [HMM.out] at hn5; have d4 : w5.cell? ⟨m.id, 4, none⟩ = some (.pointer pa2) := (by rw [Lib.cell_of_heap hn5, ← HPA2.out]; rfl); have HO5 := Aside0.mk ho5; have HB5 := Aside0.mk hb5; clear hn5 ho5 hb5 hg5 hat5))
      obtain ⟨A5, c5, hv5, _, _⟩ := Kd.R_reads HO5.out
      have hs5 : slen v5 = j + 1 := by rw [hv5]; simp [slen]; omega
      go_wp2
      go_roundw
      case rel => exact ⟨j + 1, by omega, HPA2.out.symm, hs5, ⟨by rw [HTK.out]; exact HO5.out⟩, HB5⟩
      case measure => rw [hs5]; simp [slen]; omega
    · have hdr : l.drop j = [] := List.drop_of_length_le (by omega)
      have hjl : j = l.length := by omega
      rw [hdr]
      simp only [ptr]
      clear hdr
      go_wp2
      go_ret
      refine ⟨_, rfl, ?_, HB.out⟩
      have := HO'.out
      rwa [List.take_of_length_le (by omega)] at this
end Go.Proofs.Ytgmdlndiilibpaa.PH

/- hash.Table.Longest. -/
namespace Go.Proofs.Ytgmdlndiilibpaa.PH
open Go.RowKit Go.Proofs.YtgmdlndiilibpaaW.PrintWords Go.Proofs.YtgmdlndiilibpaaW.PrintLast Go.Proofs.YtgmdlndiilibpaaW.PrintMore Go.Proofs.Ytgmdlndiilibpaa.Tab
attribute [local go_sem] max2_int min2_int max_two min_two max_three min_three max_four min_four   -- for this text's walks alone
set_option linter.unusedVariables false
set_option linter.unusedSimpArgs false
/-- How many blocks the longest of the first i chains has. -/
def longL (L : List (List Nd)) (i : Nat) : Nat := ((L.take i).map List.length).foldl max 0
theorem longL_succ {L : List (List Nd)} {i : Nat} (h : i < L.length) : longL L (i + 1) = max (longL L i) L[i].length := by
  unfold longL
  rw [List.take_succ_eq_append_getElem h, List.map_append, List.foldl_append]
  rfl
theorem foldl_max_le {l : List Nat} {a b : Nat} (ha : a ≤ b) (h : ∀ x ∈ l, x ≤ b) : l.foldl max a ≤ b := by
  induction l generalizing a with
  | nil => exact ha
  | cons x l ih => exact ih (by have := h x (by simp); omega) (fun y hy => h y (by simp [hy]))
theorem longL_bd {L : List (List Nd)} (hL : ∀ l ∈ L, l.length ≤ 10000000) (i : Nat) : longL L i ≤ 10000000 := by
  unfold longL
  refine foldl_max_le (by omega) (fun x hx => ?_)
  obtain ⟨l, hl, rfl⟩ := List.mem_map.1 hx
  exact hL l (List.mem_of_mem_take hl)
set_option maxHeartbeats 8000000 in
set_option maxRecDepth 100000 in
theorem longest_calls (w : World) (b c : Nat) (L : List (List Nd)) (free n : Int) (hT : At 116 120 123 w b c L free n) :
    Calls Try.prog 49 #[.pointer (some ⟨b, 0, none⟩)] w fun e w' => e = .returned (.int .i64 (longL L L.length : Nat)) ∧ Below w.heap.size w w' := by
  have cb : w.cell? ⟨b, 0, none⟩ = some (.slice (some ⟨c, 0, none⟩) L.length L.length) := by rw [Lib.cell_of_heap hT.hb]; rfl
  have HT := Aside0.mk hT
  have hsm := hT.small
  clear hT
  go_enter Try.func49, Try.ntmps49
  go_wp2_with fail
  clear cb
  go_loopg [3, 10] L.length (fun k nv iv wr => ∃ i : Nat, iv = .int .i64 i ∧ nv = .int .i64 (longL L i : Nat) ∧ i + k = L.length ∧ Aside0 (Below w.heap.size w wr))
  case atStart => exact ⟨0, rfl, rfl, by omega, ⟨Below.refl _ _⟩⟩
  case round =>
    obtain ⟨i, rfl, rfl, hik, HB⟩ := hrel
    have HIK := Aside0.mk hik
    clear hik
    by_cases hi : (i : Int) < (L.length : Int)
    · have hil : i < L.length := by omega
      obtain ⟨l, hl⟩ : ∃ l, L[i]? = some l := ⟨_, List.getElem?_eq_getElem hil⟩
      have hl2 : L[i] = l := (List.getElem?_eq_some_iff.1 hl).2
      have hls := longL_succ hil
      rw [hl2] at hls
      have HLS := Aside0.mk hls
      have hlb := longL_bd HT.out.few i
      have hll : l.length ≤ 10000000 := HT.out.few l (hl2 ▸ List.getElem_mem hil)
      have HR := Aside0.mk (row_calls wr b c L free n (HT.out.below HB.out) i l hl)
      clear hls hl hl2
      generalize longL L i = m at *
      go_wp2_with fail
      refine HR.out.mono ?_
      rintro e w2 ⟨v, rfl, hR, hb2⟩
      obtain ⟨A, cc, rfl⟩ := Kd.R_slice hR
      have HB2 := Aside0.mk (HB.out.trans (hb2.mono HB.out.size))
      clear hR hb2 HB
      have hln : (l.map nk).length = l.length := List.length_map _
      rw [hln]
      clear hln
      by_cases hm : (m : Int) < (l.length : Int)
      · go_wp2
        have hik := HIK.out
        go_roundg (gk - 1)
        case measure => omega
        case rel => exact ⟨i + 1, by push_cast; rfl, by rw [HLS.out, Nat.max_eq_right (by omega)], by omega, HB2⟩
      · go_wp2
        have hik := HIK.out
        go_roundg (gk - 1)
        case measure => omega
        case rel => exact ⟨i + 1, by push_cast; rfl, by rw [HLS.out, Nat.max_eq_left (by omega)], by omega, HB2⟩
    · have hir : i = L.length := by have := HIK.out; omega
      rw [hir]
      rw [hir] at hi
      clear hir
      go_wp2
      go_ret
      exact ⟨rfl, HB.out⟩

end Go.Proofs.Ytgmdlndiilibpaa.PH

/- HashSizes: what the chains have when they are made anew (plain). -/
set_option linter.unusedVariables false
set_option linter.unusedSimpArgs false
namespace Go.Proofs.Ytgmdlndiilibpaa.PH
open Go.RowKit Go.Proofs.YtgmdlndiilibpaaW.PrintWords Go.Proofs.YtgmdlndiilibpaaW.PrintLast Go.Proofs.YtgmdlndiilibpaaW.PrintMore Go.Proofs.Ytgmdlndiilibpaa.Tab
/-- The keys with their places. -/
def prs (xs : List S24) : List ((Int × Int × Int) × Int) := xs.zipIdx.map (fun p => (k3 p.1, (p.2 : Int)))
theorem prs_snoc (xs : List S24) (x : S24) : prs (xs ++ [x]) = prs xs ++ [(k3 x, (xs.length : Int))] := by
  simp [prs, List.zipIdx_append]
theorem prs_mem {xs : List S24} {e : (Int × Int × Int) × Int} : e ∈ prs xs ↔ ∃ (j : Nat) (x : S24), xs[j]? = some x ∧ e = (k3 x, (j : Int)) := by
  unfold prs
  rw [List.mem_map]
  constructor
  · rintro ⟨⟨x, j⟩, h1, rfl⟩
    exact ⟨j, x, by simpa [List.mem_zipIdx_iff_getElem?] using h1, rfl⟩
  · rintro ⟨j, x, h1, rfl⟩
    exact ⟨(x, j), by simpa [List.mem_zipIdx_iff_getElem?] using h1, rfl⟩
/-- What all chains have, in whatever row. -/
def PF (L : List (List Nd)) (xs : List S24) : Prop := (L.flatten.map kv).Perm (prs xs)
theorem PF.new (N : Nat) : PF (List.replicate N []) [] := by
  unfold PF
  have : (List.replicate N ([] : List Nd)).flatten = [] := by simp
  rw [this]
  exact List.Perm.refl _
theorem PF.push {L : List (List Nd)} {xs : List S24} (h : PF L xs) {i g : Nat} {l : List Nd} (x : S24) (hl : L[i]? = some l) : PF (L.set i (⟨g, x.f0, x.f1, x.f2, (xs.length : Int)⟩ :: l)) (xs ++ [x]) := by
  unfold PF at h ⊢
  rw [prs_snoc]
  refine ((flatten_set_perm (x := ⟨g, x.f0, x.f1, x.f2, (xs.length : Int)⟩) hl).map kv).trans ?_
  rw [List.map_cons]
  exact (h.cons _).trans (List.perm_append_singleton _ _).symm
/-- The chain of a key, at N chains. -/
def chK (N : Nat) (k : Int × Int × Int) : Nat := cN ⟨k.1, k.2.1, k.2.2⟩ N
theorem chK_k3 (N : Nat) (x : S24) : chK N (k3 x) = cN x N := rfl
theorem PF.ch {L : List (List Nd)} {xs : List S24} (h : PF L xs) (hg : ∀ x ∈ xs, Gk x) {N : Nat} (h0 : 0 < N) (hN : N ≤ 10000000) : ∀ m ∈ L.flatten, chK N m.key < N ∧ hash_Chain.f m.sp m.va m.sz (N : Int) = some ((chK N m.key : Nat) : Int) := by
  intro m hm
  have h1 : kv m ∈ prs xs := h.mem_iff.1 (List.mem_map_of_mem hm)
  obtain ⟨j, x, hj, e⟩ := prs_mem.1 h1
  have hx := hg x (List.mem_of_getElem? hj)
  have e2 : m.key = k3 x := congrArg Prod.fst e
  rw [e2, chK_k3]
  refine ⟨cN_lt x h0, ?_⟩
  have e3 := hx.ch h0 hN
  simp only [Nd.key, k3, Prod.mk.injEq] at e2
  rw [e2.1, e2.2.1, e2.2.2]
  exact e3
theorem PF.len {L : List (List Nd)} {xs : List S24} (h : PF L xs) : L.flatten.length = xs.length := by
  have := h.length_eq
  rw [List.length_map] at this
  exact this.trans (by simp [prs])
theorem mv_of1 {S : List Nat} {b : Nat} {w w' : World} (h : Mv [b] w w') (hb : b ∈ S) : Mv S w w' := ⟨h.os, h.tape, h.output, h.size, fun k hk hn => h.block k hk (fun e => hn (by rw [List.mem_singleton.1 e]; exact hb))⟩
end Go.Proofs.Ytgmdlndiilibpaa.PH


/- The document's Get, Set, Cut, Resize, Longest, over a table's image (plain). -/
set_option linter.unusedVariables false
set_option linter.unusedSimpArgs false
namespace Go.Proofs.Ytgmdlndiilibpaa.PH
open Go.RowKit Go.Proofs.YtgmdlndiilibpaaW.PrintWords Go.Proofs.YtgmdlndiilibpaaW.PrintLast Go.Proofs.YtgmdlndiilibpaaW.PrintMore Go.Proofs.Ytgmdlndiilibpaa.Tab
open Go.Proofs.Ytgmdlndiilibpaa.KeyG
theorem get_f_no (bl : Int) (L : List (List Nd)) (a b c : Int) (k : Nat) (hmay : lookasideref11_May.f a b c = some false) : lookasideref11_Get.f k bl (img L) a b c = some (0, 0, false) := by
  unfold lookasideref11_Get.f
  rw [hmay]
  simp
theorem get_f_yes (bl : Int) (L : List (List Nd)) (a b c : Int) {i : Nat} {l : List Nd} (hmay : lookasideref11_May.f a b c = some true) (hch : lookasideref11_Chain.f a b c (L.length : Int) = some (i : Int)) (hl : L[i]? = some l)
    (hls : l.length ≤ 1000000000000) (k : Nat) (hk : l.length < k) :
    lookasideref11_Get.f k bl (img L) a b c = some ((getN (a, b, c) l).1, (((getN (a, b, c) l).2.1 : Nat) : Int), (getN (a, b, c) l).2.2) := by
  have hc : i < L.length := (List.getElem?_eq_some_iff.1 hl).1
  unfold lookasideref11_Get.f
  rw [hmay]
  simp only [Option.bind_some, if_true]
  rw [img_len, hch]
  simp only [Option.bind_some]
  rw [if_pos (by omega), if_pos (by omega), rd_img hl, at_f _ _ _ l hls k hk]
  unfold getN
  by_cases hp : pos (a, b, c) l < l.length
  · rw [if_pos hp, dif_pos hp]
    simp only [Option.bind_some]
    rw [if_neg (by omega), if_pos (by omega), List.length_map, if_pos (by omega), wi _ (by omega) (by omega)]
    simp [rd_T128, List.getD_eq_getElem?_getD, hp, nd128]
  · rw [if_neg hp, dif_neg hp]
    simp
theorem getN_in {key : Int × Int × Int} {l : List Nd} (h : pos key l < l.length) : getN key l = ((l[pos key l]'h).v, pos key l + 1, true) := by unfold getN; rw [dif_pos h]
theorem getN_out {key : Int × Int × Int} {l : List Nd} (h : ¬ pos key l < l.length) : getN key l = (0, l.length, false) := by unfold getN; rw [dif_neg h]
theorem with_f (bl : Int) (L : List (List Nd)) (hL : L.length ≤ 10000000) {i : Nat} {l : List Nd} (hc : i < L.length) : lookasideref11_with.f bl (img L) (i : Int) (l.map nd128) = some (bl, img (L.set i l)) := by
  unfold lookasideref11_with.f
  rw [img_len, if_pos (by simp; omega)]
  simp only [Option.bind_some, List.nil_append]
  rw [img_len, if_pos (by omega), if_pos (by omega), Int.toNat_natCast, img_set]
theorem set_f_arg (bl : Int) (L : List (List Nd)) (a b c v : Int) (k : Nat) (h : ∃ x n, lookasideref11_Get.f k bl (img L) a b c = some (x, n, false)) : lookasideref11_Set.f k bl (img L) a b c v = some (bl, img L, 10) := by
  obtain ⟨x, n, h⟩ := h
  unfold lookasideref11_Set.f
  rw [h]
  simp
theorem cut_f_arg (bl : Int) (L : List (List Nd)) (a b c : Int) (k : Nat) (h : ∃ x n, lookasideref11_Get.f k bl (img L) a b c = some (x, n, false)) : lookasideref11_Cut.f k bl (img L) a b c = some (bl, img L, 10) := by
  obtain ⟨x, n, h⟩ := h
  unfold lookasideref11_Cut.f
  rw [h]
  simp
theorem set_f_ok (bl : Int) (L : List (List Nd)) (hL : L.length ≤ 10000000) (a b c v : Int) {i : Nat} {l : List Nd} (hmay : lookasideref11_May.f a b c = some true) (hch : lookasideref11_Chain.f a b c (L.length : Int) = some (i : Int)) (hl : L[i]? = some l)
    (hls : l.length ≤ 1000000000) (k : Nat) (hk : l.length < k) (hlt : pos (a, b, c) l < l.length) :
    lookasideref11_Set.f k bl (img L) a b c v = some (bl, img (L.set i (l.set (pos (a, b, c) l) { (l[pos (a, b, c) l]'hlt) with v := v })), 0) := by
  have hc : i < L.length := (List.getElem?_eq_some_iff.1 hl).1
  unfold lookasideref11_Set.f
  rw [get_f_yes bl L a b c hmay hch hl (by omega) k hk, getN_in hlt]
  simp only [Option.bind_some, if_true]
  rw [img_len, hch]
  simp only [Option.bind_some]
  have e1 : wrap64 (((pos (a, b, c) l + 1 : Nat) : Int) - 1) = ((pos (a, b, c) l : Nat) : Int) := by rw [wi _ (by omega) (by omega)]; omega
  rw [if_pos (by omega), if_pos (by omega), rd_img hl, if_pos (by simp; omega), e1]
  simp only [List.nil_append, List.length_map]
  rw [if_pos (by omega), if_pos (by omega)]
  have e2 : (l.map nd128).set ((pos (a, b, c) l : Nat) : Int).toNat (⟨⟨(rd_T128 (l.map nd128) (pos (a, b, c) l : Nat)).f0.f0, (rd_T128 (l.map nd128) (pos (a, b, c) l : Nat)).f0.f1, (rd_T128 (l.map nd128) (pos (a, b, c) l : Nat)).f0.f2⟩, v⟩ : S128) = (l.set (pos (a, b, c) l) { (l[pos (a, b, c) l]'hlt) with v := v }).map nd128 := by
    rw [List.map_set, Int.toNat_natCast]
    congr 1
    simp [rd_T128, List.getD_eq_getElem?_getD, hlt, nd128]
  rw [e2, with_f bl L hL hc]
  rfl
theorem cut_f_ok (bl : Int) (L : List (List Nd)) (hL : L.length ≤ 10000000) (a b c : Int) {i : Nat} {l : List Nd} (hmay : lookasideref11_May.f a b c = some true) (hch : lookasideref11_Chain.f a b c (L.length : Int) = some (i : Int)) (hl : L[i]? = some l)
    (hls : l.length ≤ 1000000000) (k : Nat) (hk : l.length < k) (hlt : pos (a, b, c) l < l.length) :
    lookasideref11_Cut.f k bl (img L) a b c = some (bl, img (L.set i (l.eraseIdx (pos (a, b, c) l))), 0) := by
  have hc : i < L.length := (List.getElem?_eq_some_iff.1 hl).1
  unfold lookasideref11_Cut.f
  rw [get_f_yes bl L a b c hmay hch hl (by omega) k hk, getN_in hlt]
  simp only [Option.bind_some, if_true]
  rw [img_len, hch]
  simp only [Option.bind_some]
  have e1 : wrap64 (((pos (a, b, c) l + 1 : Nat) : Int) - 1) = ((pos (a, b, c) l : Nat) : Int) := by rw [wi _ (by omega) (by omega)]; omega
  rw [if_pos (by omega), if_pos (by omega), rd_img hl, e1, if_pos (by omega), List.length_map, if_pos (by omega)]
  simp only [Int.toNat_natCast]
  rw [if_pos (by simp; omega), if_pos (by omega), if_pos (by omega), if_pos (by simp; omega)]
  have e2 : ([] ++ (l.map nd128).take (pos (a, b, c) l)) ++ (l.map nd128).drop (pos (a, b, c) l + 1) = (l.eraseIdx (pos (a, b, c) l)).map nd128 := by
    rw [List.nil_append, List.eraseIdx_eq_take_drop_succ, List.map_append, List.map_take, List.map_drop]
  rw [e2, with_f bl L hL hc]
  rfl
theorem longest_l0 (bl : Int) (L : List (List Nd)) (hL : L.length ≤ 10000000) : ∀ (k j : Nat), j ≤ L.length → L.length < j + k →
    lookasideref11_Longest.l0 k ((longL L j : Nat) : Int) (j : Int) bl (img L) = some ((longL L L.length : Nat) : Int)
  | 0, j, h1, h2 => by omega
  | k + 1, j, h1, h2 => by
    unfold lookasideref11_Longest.l0
    rw [img_len]
    by_cases hj : j < L.length
    · rw [if_pos (by omega), if_pos (by omega), rd_img (List.getElem?_eq_getElem hj), List.length_map, wi _ (by omega) (by omega)]
      have e : mx ((longL L j : Nat) : Int) (L[j].length : Int) = ((longL L (j + 1) : Nat) : Int) := by
        rw [longL_succ hj]
        unfold mx
        split <;> omega
      rw [e]
      exact longest_l0 bl L hL k (j + 1) (by omega) (by omega)
    · rw [if_neg (by omega), show j = L.length by omega]
theorem longest_f (bl : Int) (L : List (List Nd)) (hL : L.length ≤ 10000000) (k : Nat) (hk : L.length < k) : lookasideref11_Longest.f k bl (img L) = some ((longL L L.length : Nat) : Int) := by
  unfold lookasideref11_Longest.f
  exact longest_l0 bl L hL k 0 (Nat.zero_le _) (by omega)
theorem resize_f_arg (bl : Int) (R : List (List S128)) (q : Int) (k : Nat) (hq : q < 1) : lookasideref11_Resize.f k bl R q = some (bl, R, 1) := by
  unfold lookasideref11_Resize.f
  rw [if_pos hq]
end Go.Proofs.Ytgmdlndiilibpaa.PH


/- The document's Resize, over a table's image (plain). -/
set_option linter.unusedVariables false
set_option linter.unusedSimpArgs false
namespace Go.Proofs.Ytgmdlndiilibpaa.PH
open Go.RowKit Go.Proofs.YtgmdlndiilibpaaW.PrintWords Go.Proofs.YtgmdlndiilibpaaW.PrintLast Go.Proofs.YtgmdlndiilibpaaW.PrintMore Go.Proofs.Ytgmdlndiilibpaa.Tab
open Go.Proofs.Ytgmdlndiilibpaa.KeyG
/-- Blocks, each in its chain, in their row. -/
def redoN (q : Nat) (ns : List Nd) : List (List Nd) := (List.range q).map (fun i => ns.filter (fun n => decide (chK q n.key = i)))
theorem redoN_len (q : Nat) (ns : List Nd) : (redoN q ns).length = q := by simp [redoN]
theorem redoN_nil (q : Nat) : redoN q [] = List.replicate q [] := by
  apply List.ext_getElem
  · simp [redoN]
  · intro i h1 h2
    simp [redoN]
theorem redoN_get {q i : Nat} {ns : List Nd} (h : i < q) : (redoN q ns)[i]? = some (ns.filter (fun n => decide (chK q n.key = i))) := by
  rw [List.getElem?_eq_getElem (by rw [redoN_len]; exact h)]
  simp [redoN]
theorem redoN_cons {q : Nat} (x : Nd) (ns : List Nd) : redoN q (x :: ns) = (redoN q ns).set (chK q x.key) (x :: ns.filter (fun y => decide (chK q y.key = chK q x.key))) := by
  apply List.ext_getElem
  · simp [redoN]
  · intro i h1 h2
    simp only [redoN_len] at h1
    rw [List.getElem_set]
    simp only [redoN, List.getElem_map, List.getElem_range, List.filter_cons]
    by_cases h : chK q x.key = i
    · simp [h]
    · simp [h]
theorem resize_l0 (bl : Int) (q : Nat) (hq : q ≤ 10000000) (ns : List Nd) (hns : ns.length ≤ 1000000000) (hg : ∀ m ∈ ns, chK q m.key < q ∧ lookasideref11_Chain.f m.sp m.va m.sz (q : Int) = some ((chK q m.key : Nat) : Int)) :
    ∀ (k j : Nat), j ≤ ns.length → j < k → lookasideref11_Resize.l0 k (ns.map nd128) ((j : Int) - 1) bl (img (redoN q (ns.drop j))) = some (bl, img (redoN q ns), 0)
  | 0, j, h1, h2 => by omega
  | k + 1, 0, h1, h2 => by
    unfold lookasideref11_Resize.l0
    rw [if_neg (by omega)]
    rfl
  | k + 1, j + 1, h1, h2 => by
    unfold lookasideref11_Resize.l0
    have e1 : ((j + 1 : Nat) : Int) - 1 = (j : Int) := by omega
    have hj : j < ns.length := by omega
    rw [e1, if_pos (by omega), if_pos (by omega), List.length_map, if_pos (by omega)]
    have e2 : rd_T128 (ns.map nd128) (j : Int) = nd128 ns[j] := by simp [rd_T128, List.getD_eq_getElem?_getD, hj]
    rw [e2]
    obtain ⟨c1, c2⟩ := hg ns[j] (List.getElem_mem hj)
    have hp := push_f bl (redoN q (ns.drop (j + 1))) (by rw [redoN_len]; exact hq) ⟨ns[j].sp, ns[j].va, ns[j].sz⟩ ns[j].v (c := chK q ns[j].key) (by rw [redoN_len]; exact c2) (redoN_get c1)
      (Nat.le_trans (List.length_filter_le _ _) (by rw [List.length_drop]; omega)) ns[j].id
    have e3 : (redoN q (ns.drop (j + 1))).set (chK q ns[j].key) (⟨ns[j].id, ns[j].sp, ns[j].va, ns[j].sz, ns[j].v⟩ :: (ns.drop (j + 1)).filter (fun n => decide (chK q n.key = chK q ns[j].key))) = redoN q (ns.drop j) := by
      rw [List.drop_eq_getElem_cons hj, redoN_cons]
    dsimp only at hp
    rw [e3] at hp
    rw [show lookasideref11_push.f bl (img (redoN q (ns.drop (j + 1)))) (nd128 ns[j]).f0.f0 (nd128 ns[j]).f0.f1 (nd128 ns[j]).f0.f2 (nd128 ns[j]).f1 = _ from hp]
    simp only [Option.bind_some]
    rw [wi _ (by omega) (by omega)]
    exact resize_l0 bl q hq ns hns hg k j (by omega) (by omega)
def kvS (e : (Int × Int × Int) × Int) : S128 := ⟨⟨e.1.1, e.1.2.1, e.1.2.2⟩, e.2⟩
theorem img_kv (L : List (List Nd)) : img L = (L.map (List.map kv)).map (List.map kvS) := by
  unfold img
  rw [List.map_map]
  congr 1
  funext l
  simp only [Function.comp, List.map_map]
  rfl
theorem img_redo {q : Nat} {L L' : List (List Nd)} (hr : L'.map (List.map kv) = redo (chK q) q (L.flatten.map kv)) : img L' = img (redoN q L.flatten) := by
  rw [img_kv L', img_kv (redoN q L.flatten), hr]
  congr 1
  unfold redo redoN
  rw [List.map_map]
  congr 1
  funext i
  simp only [Function.comp]
  rw [List.filter_map]
  rfl
theorem resize_f (bl : Int) {L L' : List (List Nd)} (hs : L.flatten.length ≤ 1000000000) (hL : L.length ≤ 10000000) {q : Nat} (hq1 : 1 ≤ q) (hq : q ≤ 10000000)
    (hg : ∀ m ∈ L.flatten, chK q m.key < q ∧ lookasideref11_Chain.f m.sp m.va m.sz (q : Int) = some ((chK q m.key : Nat) : Int)) (hr : L'.map (List.map kv) = redo (chK q) q (L.flatten.map kv)) (k : Nat) (hk : L.length < k) (hk2 : L.flatten.length < k) :
    lookasideref11_Resize.f k bl (img L) (q : Int) = some (bl, img L', 0) := by
  unfold lookasideref11_Resize.f
  rw [if_neg (by omega), all_f bl L (by omega) hL k hk]
  simp only [Option.bind_some]
  rw [if_pos (by omega), Int.toNat_natCast, if_pos (by omega), List.length_map, wi _ (by omega) (by omega)]
  have h := resize_l0 bl q hq L.flatten hs hg k L.flatten.length (Nat.le_refl _) hk2
  rw [List.drop_of_length_le (Nat.le_refl _), redoN_nil] at h
  have e : img (List.replicate q []) = List.replicate q [] := by simp [img]
  rw [e] at h
  rw [img_redo hr]
  exact h
end Go.Proofs.Ytgmdlndiilibpaa.PH


/- hash.Table.Resize, of no chains: 1. -/
namespace Go.Proofs.Ytgmdlndiilibpaa.PH
open Go.RowKit Go.Proofs.YtgmdlndiilibpaaW.PrintWords Go.Proofs.YtgmdlndiilibpaaW.PrintLast Go.Proofs.YtgmdlndiilibpaaW.PrintMore Go.Proofs.Ytgmdlndiilibpaa.Tab
attribute [local go_sem] max2_int min2_int max_two min_two max_three min_three max_four min_four   -- for this text's walks alone
set_option linter.unusedVariables false
set_option linter.unusedSimpArgs false
set_option maxHeartbeats 4000000 in
set_option maxRecDepth 100000 in
theorem resize_arg (w : World) (b : Nat) (q : Int) (hq : q < 1) :
    Calls Try.prog 47 #[.pointer (some ⟨b, 0, none⟩), .int .i64 q] w fun e w' => e = .returned (.int .i64 1) ∧ Below w.heap.size w w' := by
  have hd : decide (q < 1) = true := decide_eq_true hq
  refine (callsIn_wide (n := 5)).1 ?_
  refine callsIn_of_wp_marks Try.func47 rfl trivial ?_ rfl
  simp only [Try.ntmps47, List.size_toArray, List.length_cons, List.length_nil, Nat.reduceAdd, Nat.reduceSub, Array.replicate_succ, Array.replicate_zero, List.push_toArray, List.append_toArray, List.nil_append, List.cons_append]
  gi_wp2
  refine ⟨.int .i64 1, by simp [results, Try.f47, go_sem], rfl, ?_⟩
  exact (Below.refl _ w).alloc (Nat.le_refl _) _

end Go.Proofs.Ytgmdlndiilibpaa.PH

/- A table and the document's table: each deed, of both. -/
set_option linter.unusedVariables false
set_option linter.unusedSimpArgs false
namespace Go.Proofs.Ytgmdlndiilibpaa.PH
open Go.RowKit Go.Proofs.YtgmdlndiilibpaaW.PrintWords Go.Proofs.YtgmdlndiilibpaaW.PrintLast Go.Proofs.YtgmdlndiilibpaaW.PrintMore Go.Proofs.Ytgmdlndiilibpaa.Tab
open Go.Proofs.Ytgmdlndiilibpaa.KeyG
def ky (n : Nd) : S24 := ⟨n.sp, n.va, n.sz⟩
/-- What a table's chains are, always. -/
structure Wt (bl : Int) (L : List (List Nd)) : Prop where
  gk : ∀ m ∈ L.flatten, Gk (ky m)
  pos : 0 < L.length
  sm : L.length ≤ 10000
  few : (L.flatten.length : Int) ≤ bl
  bl20 : bl ≤ 20
theorem Wt.ll {bl : Int} {L : List (List Nd)} (h : Wt bl L) {i : Nat} {l : List Nd} (hl : L[i]? = some l) : l.length ≤ 20 := by
  have h1 := h.few
  have h2 := h.bl20
  have : l.length ≤ L.flatten.length := by rw [flat_split hl]; simp only [List.length_append]; omega
  omega
theorem may_all {x : S24} (h : Ok24 x) : ∃ r : Bool, hash_May.f x.f0 x.f1 x.f2 = some r ∧ lookasideref11_May.f x.f0 x.f1 x.f2 = some r ∧ (r = true → Gk x) := by
  obtain ⟨a, b, c⟩ := x
  obtain ⟨h0, ⟨v, hb, hv⟩, h2⟩ := h
  dsimp only at hb h0 h2 ⊢
  subst hb
  refine ⟨mayB a v c, may_p a v c hv, may_r a v c hv, fun hr => ?_⟩
  have hr2 := hr
  unfold mayB startsB at hr
  simp only [Bool.and_eq_true, decide_eq_true_eq] at hr
  refine ⟨a.toNat, v, c.toNat, ?_, by omega, hv, by omega, ?_⟩
  · rw [Int.toNat_of_nonneg (by omega), Int.toNat_of_nonneg (by omega)]
  · rw [Int.toNat_of_nonneg (by omega), Int.toNat_of_nonneg (by omega)]; exact hr2
theorem Wt.push {bl : Int} {L : List (List Nd)} (h : Wt bl L) {i g : Nat} {l : List Nd} {x : S24} (hx : Gk x) (hl : L[i]? = some l) (v : Int) (hr : (L.flatten.length : Int) < bl) : Wt bl (L.set i (⟨g, x.f0, x.f1, x.f2, v⟩ :: l)) ∧ (L.set i (⟨g, x.f0, x.f1, x.f2, v⟩ :: l)).flatten.length = L.flatten.length + 1 := by
  have hp := flatten_set_perm (x := ⟨g, x.f0, x.f1, x.f2, v⟩) hl
  have hlen := hp.length_eq
  rw [List.length_cons] at hlen
  refine ⟨⟨fun m hm => ?_, by rw [List.length_set]; exact h.pos, by rw [List.length_set]; exact h.sm, by omega, h.bl20⟩, hlen⟩
  rcases List.mem_cons.1 (hp.mem_iff.1 hm) with rfl | hm
  · exact hx
  · exact h.gk m hm
theorem Wt.edit {bl : Int} {L : List (List Nd)} (h : Wt bl L) {i : Nat} {l l' : List Nd} (hl : L[i]? = some l) (hk : ∀ m ∈ l', ∃ m' ∈ l, ky m = ky m') (hll : l'.length ≤ l.length) : Wt bl (L.set i l') := by
  have hlen := flat_len_set (l' := l') hl
  refine ⟨fun m hm => ?_, by rw [List.length_set]; exact h.pos, by rw [List.length_set]; exact h.sm, by have := h.few; omega, h.bl20⟩
  obtain ⟨q, hq, hmq⟩ := List.mem_flatten.1 hm
  rcases List.mem_or_eq_of_mem_set hq with hq | rfl
  · exact h.gk m (List.mem_flatten.2 ⟨q, hq, hmq⟩)
  · obtain ⟨m', hm', e⟩ := hk m hmq
    rw [e]
    exact h.gk m' (List.mem_flatten.2 ⟨l, List.mem_of_getElem? hl, hm'⟩)
theorem redoN_flat {q : Nat} : ∀ (ns : List Nd), (∀ m ∈ ns, chK q m.key < q) → (redoN q ns).flatten.length = ns.length
  | [], _ => by rw [redoN_nil]; simp
  | x :: ns, h => by
    rw [redoN_cons]
    have h1 := redoN_flat ns (fun m hm => h m (List.mem_cons_of_mem _ hm))
    have h2 := flat_len_set (l' := x :: ns.filter (fun y => decide (chK q y.key = chK q x.key))) (redoN_get (ns := ns) (h x List.mem_cons_self))
    rw [List.length_cons] at h2 ⊢
    omega
theorem img_flat (L : List (List Nd)) : (img L).flatten.length = L.flatten.length := by
  unfold img
  rw [← List.map_flatten, List.length_map]
theorem Wt.redo {bl : Int} {L L' : List (List Nd)} (h : Wt bl L) {q : Nat} (hq1 : 1 ≤ q) (hq : q ≤ 10000) (hr : L'.map (List.map kv) = PH.redo (chK q) q (L.flatten.map kv)) : Wt bl L' ∧ L'.flatten.length = L.flatten.length := by
  have hlen : L'.flatten.length = L.flatten.length := by
    rw [← img_flat L', img_redo hr, img_flat]
    exact redoN_flat _ (fun m hm => cN_lt _ hq1)
  have hl := dist_len hr
  refine ⟨⟨fun m hm => ?_, by omega, by omega, by rw [hlen]; exact h.few, h.bl20⟩, hlen⟩
  obtain ⟨l, hl1, hl2⟩ := List.mem_flatten.1 hm
  obtain ⟨i, hi, rfl⟩ := List.getElem_of_mem hl1
  obtain ⟨l2, e1, e2, e3⟩ := dist_chain hr (show i < q by omega)
  rw [List.getElem?_eq_getElem hi] at e1
  obtain rfl := Option.some.inj e1
  have h1 : kv m ∈ (L'[i]).map kv := List.mem_map_of_mem hl2
  rw [e2] at h1
  obtain ⟨m', hm', e⟩ := List.mem_map.1 (List.mem_filter.1 h1).1
  have := h.gk m' hm'
  have e4 : ky m = ky m' := by
    have e5 : m'.key = m.key := congrArg Prod.fst e
    simp only [Nd.key, Prod.mk.injEq] at e5
    unfold ky
    rw [e5.1, e5.2.1, e5.2.2]
  rw [e4]
  exact this
end Go.Proofs.Ytgmdlndiilibpaa.PH


/- A table and the document's table: each deed, of both: the contracts. -/
set_option linter.unusedVariables false
set_option linter.unusedSimpArgs false
namespace Go.Proofs.Ytgmdlndiilibpaa.PH
open Go.RowKit Go.Proofs.YtgmdlndiilibpaaW.PrintWords Go.Proofs.YtgmdlndiilibpaaW.PrintLast Go.Proofs.YtgmdlndiilibpaaW.PrintMore Go.Proofs.Ytgmdlndiilibpaa.Tab
open Go.Proofs.Ytgmdlndiilibpaa.KeyG
def Tb (bl : Int) (w : World) (b c : Nat) (L : List (List Nd)) : Prop := At 116 120 123 w b c L (bl - (L.flatten.length : Int)) (L.flatten.length : Int)
/-- What a deed leaves: the table that the document has. -/
def Out (bl : Int) (w : World) (b c : Nat) (L : List (List Nd)) (R : List (List S128)) (w' : World) : Prop :=
  ∃ c' L', img L' = R ∧ Wt bl L' ∧ Tb bl w' b c' L' ∧ (∀ k ∈ ids b c' L', k ∈ ids b c L ∨ w.heap.size ≤ k) ∧ Mv (ids b c L) w w'
theorem Out.same {bl : Int} {w w' : World} {b c : Nat} {L : List (List Nd)} (h : Wt bl L) (hT : Tb bl w b c L) (hb : Below w.heap.size w w') : Out bl w b c L (img L) w' :=
  ⟨c, L, rfl, h, At.below hT hb, fun k hk => .inl hk, Mv.of_below hb⟩
theorem put_f_arg (bl : Int) (L : List (List Nd)) (a b c v : Int) (k : Nat) (hmay : lookasideref11_May.f a b c = some false) : lookasideref11_Put.f k bl (img L) a b c v = some (bl, img L, 1) := by
  unfold lookasideref11_Put.f
  rw [hmay]
  simp
theorem put_both {bl : Int} {L : List (List Nd)} (h : Wt bl L) {x : S24} (hx : Ok24 x) (v : Int) (k : Nat) (hk : 20000 < k) :
    ∃ R f, lookasideref11_Put.f k bl (img L) x.f0 x.f1 x.f2 v = some (bl, R, f) ∧ ∀ (w : World) (b c : Nat), Tb bl w b c L →
      Calls Try.prog 32 #[.pointer (some ⟨b, 0, none⟩), .agg #[.int .i64 x.f0, .int .u64 x.f1, .int .i64 x.f2], .int .i64 v] w fun e w' => e = .returned (.int .i64 f) ∧ Out bl w b c L R w' := by
  obtain ⟨r, hm1, hm2, hg⟩ := may_all hx
  have hsm := h.sm
  have hfew := h.few
  have h20 := h.bl20
  cases r with
  | false => exact ⟨_, _, put_f_arg bl L _ _ _ v k hm2, fun w b c hT => (put_arg w _ _ _ _ v hm1).mono fun e w' he => ⟨he.1, Out.same h hT he.2⟩⟩
  | true =>
    have hgx := hg rfl
    have hc := cN_lt x h.pos
    obtain ⟨l, hl⟩ : ∃ l, L[cN x L.length]? = some l := ⟨_, List.getElem?_eq_getElem hc⟩
    have hll := h.ll hl
    have hch := hgx.ch h.pos (by omega)
    have hrc := PH.Gk.rch hgx h.pos (by omega)
    by_cases hp : pos (x.f0, x.f1, x.f2) l < l.length
    · exact ⟨_, _, put_f_exist bl L (by omega) x v hm2 hrc hl (by omega) k (by omega) hp, fun w b c hT => (put_exist w b c L _ _ hT _ _ _ v _ l hl hm1 hch hp).mono fun e w' he => ⟨he.1, Out.same h hT he.2⟩⟩
    · by_cases hr : (L.flatten.length : Int) < bl
      · refine ⟨_, _, put_f_ok bl L (by omega) x v hm2 hrc hl (by omega) k (by omega) (by omega) hp hr 0, fun w b c hT => (put_ok w b c L _ _ hT _ _ _ v _ l hl hm1 hch hp (by omega) (by omega) (by omega) (by omega) (by omega)).mono fun e w' he => ⟨he.1, ?_⟩⟩
        obtain ⟨g, hg2, hA, hM⟩ := he.2
        obtain ⟨hw, hn⟩ := h.push (g := g) hgx hl v hr
        refine ⟨c, _, ?_, hw, ?_, fun k hk => ?_, hM⟩
        · rw [← img_set, ← img_set]; rfl
        · unfold Tb
          rw [hn]
          have e1 : bl - ((L.flatten.length + 1 : Nat) : Int) = bl - (L.flatten.length : Int) - 1 := by omega
          have e2 : ((L.flatten.length + 1 : Nat) : Int) = (L.flatten.length : Int) + 1 := by omega
          rw [e1, e2]
          exact hA
        · rcases ids_set hk with hk | hk
          · exact .inl hk
          · rw [List.map_cons, List.mem_cons] at hk
            rcases hk with rfl | hk
            · exact .inr hg2
            · obtain ⟨m', hm', rfl⟩ := List.mem_map.1 hk
              exact .inl (mem_ids hl hm')
      · exact ⟨_, _, put_f_mem bl L (by omega) x v hm2 hrc hl (by omega) k (by omega) (by omega) hp (by omega), fun w b c hT => (put_mem w b c L _ _ hT _ _ _ v _ l hl hm1 hch hp (by omega)).mono fun e w' he => ⟨he.1, Out.same h hT he.2⟩⟩
theorem get_both {bl : Int} {L : List (List Nd)} (h : Wt bl L) {x : S24} (hx : Ok24 x) (k : Nat) (hk : 20000 < k) :
    ∃ a m one, lookasideref11_Get.f k bl (img L) x.f0 x.f1 x.f2 = some (a, m, one) ∧ ∀ (w : World) (b c : Nat), Tb bl w b c L →
      Calls Try.prog 35 #[.pointer (some ⟨b, 0, none⟩), .agg #[.int .i64 x.f0, .int .u64 x.f1, .int .i64 x.f2]] w fun e w' => e = .returned (.tuple #[.int .i64 a, .int .i64 m, .bool one]) ∧ Below w.heap.size w w' := by
  obtain ⟨r, hm1, hm2, hg⟩ := may_all hx
  have hsm := h.sm
  cases r with
  | false => exact ⟨_, _, _, get_f_no bl L _ _ _ k hm2, fun w b c hT => get_no w _ _ _ _ hm1⟩
  | true =>
    have hgx := hg rfl
    have hc := cN_lt x h.pos
    obtain ⟨l, hl⟩ : ∃ l, L[cN x L.length]? = some l := ⟨_, List.getElem?_eq_getElem hc⟩
    have hll := h.ll hl
    exact ⟨_, _, _, get_f_yes bl L _ _ _ hm2 (PH.Gk.rch hgx h.pos (by omega)) hl (by omega) k (by omega), fun w b c hT => get_yes w b c L _ _ hT _ _ _ _ l hl hm1 (hgx.ch h.pos (by omega))⟩
theorem set_both {bl : Int} {L : List (List Nd)} (h : Wt bl L) {x : S24} (hx : Ok24 x) (v : Int) (k : Nat) (hk : 20000 < k) :
    ∃ R f, lookasideref11_Set.f k bl (img L) x.f0 x.f1 x.f2 v = some (bl, R, f) ∧ ∀ (w : World) (b c : Nat), Tb bl w b c L →
      Calls Try.prog 34 #[.pointer (some ⟨b, 0, none⟩), .agg #[.int .i64 x.f0, .int .u64 x.f1, .int .i64 x.f2], .int .i64 v] w fun e w' => e = .returned (.int .i64 f) ∧ Out bl w b c L R w' := by
  obtain ⟨r, hm1, hm2, hg⟩ := may_all hx
  have hsm := h.sm
  cases r with
  | false => exact ⟨_, _, set_f_arg bl L _ _ _ v k ⟨_, _, get_f_no bl L _ _ _ k hm2⟩, fun w b c hT => (set_arg w _ _ _ _ v hm1).mono fun e w' he => ⟨he.1, Out.same h hT he.2⟩⟩
  | true =>
    have hgx := hg rfl
    have hc := cN_lt x h.pos
    obtain ⟨l, hl⟩ : ∃ l, L[cN x L.length]? = some l := ⟨_, List.getElem?_eq_getElem hc⟩
    have hll := h.ll hl
    have hch := hgx.ch h.pos (by omega)
    have hrc := PH.Gk.rch hgx h.pos (by omega)
    by_cases hp : pos (x.f0, x.f1, x.f2) l < l.length
    · refine ⟨_, _, set_f_ok bl L (by omega) _ _ _ v hm2 hrc hl (by omega) k (by omega) hp, fun w b c hT => (set_ok w b c L _ _ hT _ _ _ v _ l hl hm1 hch hp).mono fun e w' he => ⟨he.1, ?_⟩⟩
      obtain ⟨hA, hM⟩ := he.2
      have hlen := flat_len_set (l' := l.set (pos (x.f0, x.f1, x.f2) l) { (l[pos (x.f0, x.f1, x.f2) l]'hp) with v := v }) hl
      rw [List.length_set] at hlen
      have hmem : ∀ m ∈ l.set (pos (x.f0, x.f1, x.f2) l) { (l[pos (x.f0, x.f1, x.f2) l]'hp) with v := v }, ∃ m' ∈ l, ky m = ky m' ∧ m.id = m'.id := fun m hm => by
        rcases List.mem_or_eq_of_mem_set hm with hm | rfl
        · exact ⟨m, hm, rfl, rfl⟩
        · exact ⟨_, List.getElem_mem hp, rfl, rfl⟩
      refine ⟨c, _, rfl, h.edit hl (fun m hm => by obtain ⟨m', h1, h2, _⟩ := hmem m hm; exact ⟨m', h1, h2⟩) (by simp), ?_, fun k hk => ?_, hM⟩
      · unfold Tb
        rw [show (L.set (cN x L.length) (l.set (pos (x.f0, x.f1, x.f2) l) { (l[pos (x.f0, x.f1, x.f2) l]'hp) with v := v })).flatten.length = L.flatten.length by omega]
        exact hA
      · rcases ids_set hk with hk | hk
        · exact .inl hk
        · obtain ⟨m, hm, rfl⟩ := List.mem_map.1 hk
          obtain ⟨m', h1, _, h3⟩ := hmem m hm
          rw [h3]
          exact .inl (mem_ids hl h1)
    · exact ⟨_, _, set_f_arg bl L _ _ _ v k ⟨_, _, by rw [get_f_yes bl L _ _ _ hm2 hrc hl (by omega) k (by omega), getN_out hp]⟩, fun w b c hT => (set_none w b c L _ _ hT _ _ _ v _ l hl hm1 hch hp).mono fun e w' he => ⟨he.1, Out.same h hT he.2⟩⟩
theorem cut_both {bl : Int} {L : List (List Nd)} (h : Wt bl L) {x : S24} (hx : Ok24 x) (k : Nat) (hk : 20000 < k) :
    ∃ R f, lookasideref11_Cut.f k bl (img L) x.f0 x.f1 x.f2 = some (bl, R, f) ∧ ∀ (w : World) (b c : Nat), Tb bl w b c L →
      Calls Try.prog 33 #[.pointer (some ⟨b, 0, none⟩), .agg #[.int .i64 x.f0, .int .u64 x.f1, .int .i64 x.f2]] w fun e w' => e = .returned (.int .i64 f) ∧ Out bl w b c L R w' := by
  obtain ⟨r, hm1, hm2, hg⟩ := may_all hx
  have hsm := h.sm
  have hfew := h.few
  have h20 := h.bl20
  cases r with
  | false => exact ⟨_, _, cut_f_arg bl L _ _ _ k ⟨_, _, get_f_no bl L _ _ _ k hm2⟩, fun w b c hT => (cut_arg w _ _ _ _ hm1).mono fun e w' he => ⟨he.1, Out.same h hT he.2⟩⟩
  | true =>
    have hgx := hg rfl
    have hc := cN_lt x h.pos
    obtain ⟨l, hl⟩ : ∃ l, L[cN x L.length]? = some l := ⟨_, List.getElem?_eq_getElem hc⟩
    have hll := h.ll hl
    have hch := hgx.ch h.pos (by omega)
    have hrc := PH.Gk.rch hgx h.pos (by omega)
    by_cases hp : pos (x.f0, x.f1, x.f2) l < l.length
    · have hlf : l.length ≤ L.flatten.length := by rw [flat_split hl]; simp only [List.length_append]; omega
      refine ⟨_, _, cut_f_ok bl L (by omega) _ _ _ hm2 hrc hl (by omega) k (by omega) hp, fun w b c hT => (cut_ok w b c L _ _ hT _ _ _ _ l hl hm1 hch hp (by omega) (by omega) (by omega) (by omega)).mono fun e w' he => ⟨he.1, ?_⟩⟩
      obtain ⟨hA, hM⟩ := he.2
      have hlen := flat_len_set (l' := l.eraseIdx (pos (x.f0, x.f1, x.f2) l)) hl
      have hle : (l.eraseIdx (pos (x.f0, x.f1, x.f2) l)).length = l.length - 1 := List.length_eraseIdx_of_lt hp
      refine ⟨c, _, rfl, h.edit hl (fun m hm => ⟨m, List.mem_of_mem_eraseIdx hm, rfl⟩) (by omega), ?_, fun k hk => ?_, hM⟩
      · unfold Tb
        have e1 : bl - (((L.set (cN x L.length) (l.eraseIdx (pos (x.f0, x.f1, x.f2) l))).flatten.length : Nat) : Int) = bl - (L.flatten.length : Int) + 1 := by omega
        have e2 : (((L.set (cN x L.length) (l.eraseIdx (pos (x.f0, x.f1, x.f2) l))).flatten.length : Nat) : Int) = (L.flatten.length : Int) - 1 := by omega
        rw [e1, e2]
        exact hA
      · rcases ids_set hk with hk | hk
        · exact .inl hk
        · obtain ⟨m', hm', rfl⟩ := List.mem_map.1 hk
          exact .inl (mem_ids hl (List.mem_of_mem_eraseIdx hm'))
    · exact ⟨_, _, cut_f_arg bl L _ _ _ k ⟨_, _, by rw [get_f_yes bl L _ _ _ hm2 hrc hl (by omega) k (by omega), getN_out hp]⟩, fun w b c hT => (cut_none w b c L _ _ hT _ _ _ _ l hl hm1 hch hp).mono fun e w' he => ⟨he.1, Out.same h hT he.2⟩⟩
end Go.Proofs.Ytgmdlndiilibpaa.PH


/- A table and the document's table: Resize, of both. -/
set_option linter.unusedVariables false
set_option linter.unusedSimpArgs false
namespace Go.Proofs.Ytgmdlndiilibpaa.PH
open Go.RowKit Go.Proofs.YtgmdlndiilibpaaW.PrintWords Go.Proofs.YtgmdlndiilibpaaW.PrintLast Go.Proofs.YtgmdlndiilibpaaW.PrintMore Go.Proofs.Ytgmdlndiilibpaa.Tab
open Go.Proofs.Ytgmdlndiilibpaa.KeyG
theorem redoN_kv (q : Nat) (ns : List Nd) : (redoN q ns).map (List.map kv) = redo (chK q) q (ns.map kv) := by
  unfold redo redoN
  rw [List.map_map]
  congr 1
  funext i
  simp only [Function.comp]
  rw [List.filter_map]
  rfl
theorem gk_ch {m : Nd} (h : Gk (ky m)) {N : Nat} (h0 : 0 < N) (hN : N ≤ 10000000) : (chK N m.key < N ∧ hash_Chain.f m.sp m.va m.sz (N : Int) = some ((chK N m.key : Nat) : Int)) ∧ (chK N m.key < N ∧ lookasideref11_Chain.f m.sp m.va m.sz (N : Int) = some ((chK N m.key : Nat) : Int)) :=
  ⟨⟨cN_lt (ky m) h0, h.ch h0 hN⟩, ⟨cN_lt (ky m) h0, PH.Gk.rch h h0 hN⟩⟩
theorem resize_both {bl : Int} {L : List (List Nd)} (h : Wt bl L) (q : Int) (hq : q ≤ 10000) (k : Nat) (hk : 20000 < k) :
    ∃ R f, lookasideref11_Resize.f k bl (img L) q = some (bl, R, f) ∧ ∀ (w : World) (b c : Nat), Tb bl w b c L →
      Calls Try.prog 47 #[.pointer (some ⟨b, 0, none⟩), .int .i64 q] w fun e w' => e = .returned (.int .i64 f) ∧ Out bl w b c L R w' := by
  have hsm := h.sm
  have hfew := h.few
  have h20 := h.bl20
  by_cases h1 : q < 1
  · exact ⟨_, _, resize_f_arg bl _ q k h1, fun w b c hT => (resize_arg w b q h1).mono fun e w' he => ⟨he.1, Out.same h hT he.2⟩⟩
  · obtain ⟨n, rfl⟩ : ∃ n : Nat, q = (n : Int) := ⟨q.toNat, by omega⟩
    refine ⟨_, _, resize_f bl (by omega) (by omega) (show 1 ≤ n by omega) (by omega) (fun m hm => (gk_ch (h.gk m hm) (by omega) (by omega)).2) (redoN_kv n L.flatten) k (by omega) (by omega), fun w b c hT =>
      (resize_calls w b c L _ _ hT (by omega) n (by omega) (by omega) (chK n) (fun m hm => (gk_ch (h.gk m hm) (by omega) (by omega)).1)).mono fun e w' he => ⟨he.1, ?_⟩⟩
    obtain ⟨c', L', hr, hA, hid, hM⟩ := he.2
    obtain ⟨hw, hn⟩ := h.redo (show 1 ≤ n by omega) (by omega) hr
    refine ⟨c', L', img_redo hr, hw, ?_, fun k hk => (hid k hk).imp (fun e => by rw [e]; simp [ids]) id, mv_of1 hM (by simp [ids])⟩
    unfold Tb
    rw [hn]
    exact hA
end Go.Proofs.Ytgmdlndiilibpaa.PH


/- HashAll's walk: the table, the document's table, and all. -/
namespace Go.Proofs.Ytgmdlndiilibpaa.PH
open Go.RowKit Go.Proofs.YtgmdlndiilibpaaW.PrintWords Go.Proofs.YtgmdlndiilibpaaW.PrintLast Go.Proofs.YtgmdlndiilibpaaW.PrintMore Go.Proofs.Ytgmdlndiilibpaa.Tab
attribute [local go_sem] max2_int min2_int max_two min_two max_three min_three max_four min_four   -- for this text's walks alone
set_option linter.unusedVariables false
set_option linter.unusedSimpArgs false
open Go.Proofs.Ytgmdlndiilibpaa.KeyG
attribute [local go_sem high] eqA27
/-- The document's table, as the walk has it: its place r8, its chains. -/
structure RefAt (w : World) (r8 : Nat) (bl : Int) (S : Nat → Prop) (R : List (List S128)) : Prop where
  cells : ∃ v, w.heap[r8]? = some (.cells #[.int .i64 bl, v] 71 (0, 0)) ∧ Kd.V (Kd.slice 128 k128) 76 w 0 (fun k => ¬ S k ∧ k ≠ r8) v R
  off : ¬ S r8
theorem RefAt.below {w w' : World} {r8 : Nat} {bl : Int} {S : Nat → Prop} {R : List (List S128)} (h : RefAt w r8 bl S R) (hb : Below w.heap.size w w') : RefAt w' r8 bl S R := by
  obtain ⟨v, h1, h2⟩ := h.cells
  exact ⟨⟨v, (hb.block _ (Array.getElem?_eq_some_iff.1 h1).1).trans h1, Kd.V_below h2 hb⟩, h.off⟩
theorem RefAt.get {w : World} {r8 : Nat} {bl : Int} {S : Nat → Prop} {R : List (List S128)} (h : RefAt w r8 bl S R) : ∃ A c, w.heap[r8]? = some (.cells #[.int .i64 bl, .slice A R.length c] 71 (0, 0)) ∧ R.length ≤ c ∧
    Kd.V (Kd.slice 128 k128) 76 w w.heap.size (fun k => (¬ S k ∧ k ≠ r8) ∧ k < w.heap.size) (.slice A R.length c) R := by
  obtain ⟨v, h1, h2⟩ := h.cells
  have h3 : Kd.V (Kd.slice 128 k128) 76 w w.heap.size (fun k => (¬ S k ∧ k ≠ r8) ∧ k < w.heap.size) v R := Kd.V_map h2 (fun A hF => Kd.F_bound hF)
  obtain ⟨A, c, rfl, hl, _⟩ := h2
  exact ⟨A, c, h1, hl, h3⟩
theorem RefAt.store {w : World} {r8 : Nat} {bl bl' : Int} {S : Nat → Prop} {R R' : List (List S128)} (h : RefAt w r8 bl S R) {v' : Value} {ok : Nat → Prop} {base : Nat} (hv : Kd.V (Kd.slice 128 k128) 76 w base ok v' R') (hok : ∀ k, ok k → ¬ S k ∧ k ≠ r8) :
    RefAt ((w.setCell ⟨r8, 0, none⟩ (.int .i64 bl')).setCell ⟨r8, 1, none⟩ v') r8 bl' S R' := by
  obtain ⟨v, h1, h2⟩ := h.cells
  refine ⟨⟨v', ?_, ?_⟩, h.off⟩
  · rw [heap_set_same v' (heap_set_same (.int .i64 bl') h1)]; rfl
  · refine Kd.V_map (Kd.V_far (p := ⟨r8, 1, none⟩) (Kd.V_far (p := ⟨r8, 0, none⟩) (Kd.V_mono hv hok) (fun k hk => hk.2) (.int .i64 bl')) (fun k hk => hk.2) v') (fun A h => h)
end Go.Proofs.Ytgmdlndiilibpaa.PH

/- HashPlays: a deed, of both: the walk of does. -/
namespace Go.Proofs.Ytgmdlndiilibpaa.PH
open Go.RowKit Go.Proofs.YtgmdlndiilibpaaW.PrintWords Go.Proofs.YtgmdlndiilibpaaW.PrintLast Go.Proofs.YtgmdlndiilibpaaW.PrintMore Go.Proofs.Ytgmdlndiilibpaa.Tab
attribute [local go_sem] max2_int min2_int max_two min_two max_three min_three max_four min_four   -- for this text's walks alone
set_option linter.unusedVariables false
set_option linter.unusedSimpArgs false
open Go.Proofs.Ytgmdlndiilibpaa.KeyG
/-- The document's table, apart from the program's blocks. -/
def Vr (W : World) (S : List Nat) (X : Nat → Prop) (v : Value) (R : List (List S128)) : Prop := Kd.V (Kd.slice 128 k128) 76 W 0 (fun k => k ∉ S ∧ ¬ X k) v R
theorem of_key {x : S24} (hx : Ok24 x) (raw : Bool) (a n : Int) : ∃ y : S24, lookasidelaw11_Deed_of.f a n x.f0 x.f1 x.f2 raw = some (y.f0, y.f1, y.f2) ∧ Ok24 y := by
  unfold lookasidelaw11_Deed_of.f
  cases raw with
  | true => exact ⟨x, by simp, hx⟩
  | false =>
    obtain ⟨y, h1, h2⟩ := good24 hx
    obtain ⟨g, v, z, rfl, g1, g2, g3, g4⟩ := h2
    refine ⟨⟨g, v, z⟩, ?_, ⟨by dsimp only; omega, ⟨v, rfl, g2⟩, by dsimp only; omega⟩⟩
    rw [if_neg (by simp), h1]
    rfl
/-- What does leaves. -/
def DoP (bl : Int) (w : World) (b c : Nat) (L : List (List Nd)) (X : Nat → Prop) (e : Ending) (w' : World) : Prop :=
  ∃ v1 c' L', e = .returned (.tuple #[.agg #[.int .i64 bl, v1], .bool true]) ∧ Wt bl L' ∧ Tb bl w' b c' L' ∧ (∀ k ∈ ids b c' L', k ∈ ids b c L ∨ w.heap.size ≤ k) ∧ Mv (ids b c L) w w' ∧ Vr w' (ids b c' L') X v1 (img L')
theorem Vr.below {W W' : World} {S : List Nat} {X : Nat → Prop} {v : Value} {R : List (List S128)} (h : Vr W S X v R) (hb : Below W.heap.size W W') : Vr W' S X v R := Kd.V_below h hb
set_option maxHeartbeats 8000000 in
set_option maxRecDepth 100000 in
theorem does_get (w : World) (bl : Int) (b c : Nat) (L : List (List Nd)) (h : Wt bl L) (hT : Tb bl w b c L) (A0 : Option Addr) (c0 : Nat) (X : Nat → Prop) (hX : ∀ k, X k → k < w.heap.size) (hv : Vr w (ids b c L) X (.slice A0 (img L).length c0) (img L))
    (kd n : Int) (x : S24) (raw : Bool) (hx : Ok24 x) (hk0 : kd ≠ 0) (hk1 : kd ≠ 1) (hk2 : kd ≠ 2) (hk3 : kd ≠ 3) :
    Calls Try.prog 50 #[.pointer (some ⟨b, 0, none⟩), .agg #[.int .i64 bl, .slice A0 (img L).length c0], .agg #[.int .i64 kd, .int .i64 n, .int .i64 x.f0, .int .u64 x.f1, .int .i64 x.f2, .bool raw]] w (DoP bl w b c L X) := by
  obtain ⟨y, hy, hoy⟩ := of_key hx raw kd n
  obtain ⟨a, m, one, hg, hcall⟩ := get_both h hoy 100000 (by omega)
  have d0 : (kd == 0) = false := by simp [hk0]
  have d1 : (kd == 1) = false := by simp [hk1]
  have d2 : (kd == 2) = false := by simp [hk2]
  have d3 : (kd == 3) = false := by simp [hk3]
  have HY := Aside0.mk hy
  have HW := Aside0.mk h
  have HT := Aside0.mk hT
  have HV := Aside0.mk hv
  have HX := Aside0.mk hX
  clear hX
  have HG := Aside0.mk hg
  have HC := Aside0.mk hcall
  have HLT := Aside0.mk (At.lt hT)
  clear hy hx hoy h hT hv hg hcall hk0 hk1 hk2 hk3
  obtain ⟨D, hD⟩ : ∃ D, w.heap.size = D := ⟨_, rfl⟩
  have hb0 := (((Below.refl w.heap.size w).alloc (Nat.le_refl _) (.cells #[.int .i64 bl, .slice A0 (img L).length c0] 71)).alloc (by simp) (.cells #[.int .i64 kd, .int .i64 n, .int .i64 x.f0, .int .u64 x.f1, .int .i64 x.f2, .bool raw] 93)).alloc (by simp; omega) (.cells #[.int .i64 0, .slice none 0 0] 71)
  have hk4 := blk_alloc (blk_alloc (blk_new w (.cells #[.int .i64 bl, .slice A0 (img L).length c0] 71)) (.cells #[.int .i64 kd, .int .i64 n, .int .i64 x.f0, .int .u64 x.f1, .int .i64 x.f2, .bool raw] 93)) (.cells #[.int .i64 0, .slice none 0 0] 71)
  have hk5 := blk_alloc (blk_new (w.alloc (.cells #[.int .i64 bl, .slice A0 (img L).length c0] 71)) (.cells #[.int .i64 kd, .int .i64 n, .int .i64 x.f0, .int .u64 x.f1, .int .i64 x.f2, .bool raw] 93)) (.cells #[.int .i64 0, .slice none 0 0] 71)
  have hk6 := blk_new ((w.alloc (.cells #[.int .i64 bl, .slice A0 (img L).length c0] 71)).alloc (.cells #[.int .i64 kd, .int .i64 n, .int .i64 x.f0, .int .u64 x.f1, .int .i64 x.f2, .bool raw] 93)) (.cells #[.int .i64 0, .slice none 0 0] 71)
  have hsz : (w.alloc (.cells #[.int .i64 bl, .slice A0 (img L).length c0] 71)).heap.size = D + 1 := by simp [hD]
  have hsz2 : ((w.alloc (.cells #[.int .i64 bl, .slice A0 (img L).length c0] 71)).alloc (.cells #[.int .i64 kd, .int .i64 n, .int .i64 x.f0, .int .u64 x.f1, .int .i64 x.f2, .bool raw] 93)).heap.size = D + 1 + 1 := by simp [hD]
  rw [hsz] at hk5
  rw [hsz2] at hk6
  rw [hD] at hk4
  have HB0 := Aside0.mk hb0
  have HK4 := Aside0.mk hk4
  have HK5 := Aside0.mk hk5
  have HK6 := Aside0.mk hk6
  clear hb0 hk4 hk5 hk6 hsz hsz2
  go_enter Try.func50, Try.ntmps50
  go_wp2_with fail
  generalize ((w.alloc (.cells #[.int .i64 bl, .slice A0 (img L).length c0] 71)).alloc (.cells #[.int .i64 kd, .int .i64 n, .int .i64 x.f0, .int .u64 x.f1, .int .i64 x.f2, .bool raw] 93)).alloc (.cells #[.int .i64 0, .slice none 0 0] 71) = wD at *
  refine (lookasidelaw11_Deed_of.calls _ _ _ _ _ _ _ _ _ _ HY.out).mono ?_
  rintro e w1 ⟨rfl, hb1⟩
  have hk8 := blk_new w1 (.cells #[.int .i64 y.f0, .int .u64 y.f1, .int .i64 y.f2] 24)
  have hb2 : Below wD.heap.size wD (w1.alloc (.cells #[.int .i64 y.f0, .int .u64 y.f1, .int .i64 y.f2] 24)) := hb1.alloc hb1.size _
  have hk4 := blk_below HK4.out hb2
  have hk5 := blk_below HK5.out hb2
  have hk6 := blk_below HK6.out hb2
  have hb3 := below_step HB0.out hb2
  obtain ⟨x0, x1⟩ := And.intro ((blk_cell hk4 0).trans rfl) ((blk_cell hk4 1).trans rfl)
  obtain ⟨y0, y1⟩ := And.intro ((blk_cell hk5 0).trans rfl) ((blk_cell hk5 1).trans rfl)
  obtain ⟨z0, z1, z2⟩ := And.intro ((blk_cell hk8 0).trans rfl) (And.intro ((blk_cell hk8 1).trans rfl) ((blk_cell hk8 2).trans rfl))
  replace HK4 := Aside0.mk hk4
  replace HK5 := Aside0.mk hk5
  replace HK6 := Aside0.mk hk6
  have HK8 := Aside0.mk hk8
  replace HB0 := Aside0.mk hb3
  clear hk4 hk5 hk6 hk8 hb1 hb2 hb3
  go_wp2_with fail
  generalize hG8 : w1.heap.size = g8 at *
  generalize w1.alloc (.cells #[.int .i64 y.f0, .int .u64 y.f1, .int .i64 y.f2] 24) = w2 at *
  refine (lookasidelaw11_key.calls y.f0 y.f1 y.f2 y.f0 y.f1 y.f2 _ rfl).mono ?_
  rintro e w3 ⟨rfl, hb3⟩
  have hB3 := below_step HB0.out hb3
  go_wp2_with fail
  refine (HC.out w3 b c (At.below HT.out hB3)).mono ?_
  rintro e w4 ⟨rfl, hb4⟩
  have hb5 := below_step hb3 hb4
  have hB4 := below_step HB0.out hb5
  have hk4 := blk_below HK4.out hb5
  have hk6 := blk_below HK6.out hb5
  have hk8 := blk_below HK8.out hb5
  clear hb3 hB3 hb4 hb5 x0 x1 y0 y1 z0 z1 z2 HK4 HK5 HK6 HK8 hG8
  obtain ⟨x0, x1⟩ := And.intro ((blk_cell hk4 0).trans rfl) ((blk_cell hk4 1).trans rfl)
  obtain ⟨z0, z1, z2⟩ := And.intro ((blk_cell hk8 0).trans rfl) (And.intro ((blk_cell hk8 1).trans rfl) ((blk_cell hk8 2).trans rfl))
  have HK4 := Aside0.mk hk4
  have HK6 := Aside0.mk hk6
  have HB4 := Aside0.mk hB4
  clear hk4 hk6 hk8 hB4
  go_wp2_with fail
  refine (lookasideref11_Get.calls 100000 bl A0 c0 (img L) y.f0 y.f1 y.f2 a m one w4 (Kd.V_reads' (HV.out.below HB4.out)).2.2 (Kd.V_reads' HV.out).2.1 HG.out).mono ?_
  rintro e w5 ⟨rfl, hb5⟩
  have hk4 := blk_below HK4.out hb5
  have hk6 := blk_below HK6.out hb5
  have HB5 := Aside0.mk (below_step HB4.out hb5)
  clear x0 x1 z0 z1 z2 HK4 HK6 HB4 hb5
  obtain ⟨x0, x1⟩ := And.intro ((blk_cell hk4 0).trans rfl) ((blk_cell hk4 1).trans rfl)
  obtain ⟨r0, r1⟩ := And.intro ((blk_cell hk6 0).trans rfl) ((blk_cell hk6 1).trans rfl)
  have f6 := blk_frozen hk6
  clear hk4
  have hkf := blk_put (blk_put hk6 0 (.int .i64 bl) rfl) 1 (.slice A0 (img L).length c0) rfl
  have hbf : Below w.heap.size w ((w5.setCell ⟨D + 1 + 1, 0, none⟩ (.int .i64 bl)).setCell ⟨D + 1 + 1, 1, none⟩ (.slice A0 (img L).length c0)) := below_set (below_set HB5.out (by omega)) (by omega)
  have HKF := Aside0.mk hkf
  have HBF := Aside0.mk hbf
  clear hkf hbf hk6
  go_wp2_with fail
  refine bodyPost_ret (results_ct rfl _ _ (D + 1 + 1) 71 #[.int .i64 bl, .slice A0 (img L).length c0] (0, 0) _ rfl HKF.out Try.underlying71 rfl (by kernel_rfl)) rfl ?_
  exact ⟨_, c, L, rfl, HW.out, At.below HT.out HBF.out, fun k hk => .inl hk, Mv.of_below HBF.out, HV.out.below HBF.out⟩

end Go.Proofs.Ytgmdlndiilibpaa.PH

namespace Go.Proofs.Ytgmdlndiilibpaa.PH
open Go.RowKit Go.Proofs.YtgmdlndiilibpaaW.PrintWords Go.Proofs.YtgmdlndiilibpaaW.PrintLast Go.Proofs.YtgmdlndiilibpaaW.PrintMore Go.Proofs.Ytgmdlndiilibpaa.Tab
attribute [local go_sem] max2_int min2_int max_two min_two max_three min_three max_four min_four   -- for this text's walks alone
set_option linter.unusedVariables false
set_option linter.unusedSimpArgs false
open Go.Proofs.Ytgmdlndiilibpaa.KeyG
theorem mv_cell {S : List Nat} {w w' : World} {p : Addr} (h : Mv S w w') (h1 : p.block < w.heap.size) (h2 : p.block ∉ S) : w'.cell? p = w.cell? p := by
  unfold World.cell?
  rw [h.block _ h1 h2]
theorem mv_set {w : World} (g o : Nat) (v : Value) : Mv [g] w (w.setCell ⟨g, o, none⟩ v) :=
  ⟨rfl, rfl, rfl, by simp [World.setCell], fun k _ hn => Below.heap_setCell w ⟨g, o, none⟩ v k (fun e => hn (List.mem_singleton.2 e))⟩
/-- The end of a deed that writes. -/
theorem dop_end {X : Nat → Prop} {bl : Int} {w w4 w5 : World} {b c c' D : Nat} {L L' : List (List Nd)} {R : List (List S128)} {v1 : Value} (hlt : ∀ k ∈ ids b c L, k < w.heap.size) (hD : w.heap.size = D) (hB : Below w.heap.size w w4) (hM : Mv (ids b c L) w4 w5)
    (hid : ∀ k ∈ ids b c' L', k ∈ ids b c L ∨ w4.heap.size ≤ k) (hL : img L' = R) (hw : Wt bl L') (hT : Tb bl w5 b c' L') (hv : Kd.V (Kd.slice 128 k128) 76 w4 0 (fun k => (k ∉ ids b c L ∧ ¬ X k) ∧ k ≠ D + 1 + 1) v1 R) (hl : D + 1 + 1 < w4.heap.size) :
    DoP bl w b c L X (.returned (.tuple #[.agg #[.int .i64 bl, v1], .bool true])) ((w5.setCell ⟨D + 1 + 1, 0, none⟩ (.int .i64 bl)).setCell ⟨D + 1 + 1, 1, none⟩ v1) := by
  have hn : ∀ k ∈ ids b c' L', k ≠ D + 1 + 1 := fun k hk e => by
    rcases hid k hk with h | h
    · have := hlt k h; omega
    · omega
  have hset : ∀ k, k ≠ D + 1 + 1 → ((w5.setCell ⟨D + 1 + 1, 0, none⟩ (.int .i64 bl)).setCell ⟨D + 1 + 1, 1, none⟩ v1).heap[k]? = w5.heap[k]? := fun k hk =>
    (Below.heap_setCell _ ⟨D + 1 + 1, 1, none⟩ v1 k hk).trans (Below.heap_setCell w5 ⟨D + 1 + 1, 0, none⟩ (.int .i64 bl) k hk)
  refine ⟨v1, c', L', rfl, hw, At.move hT (fun k hk => hset k (hn k hk)), fun k hk => (hid k hk).imp id (fun h => Nat.le_trans hB.size h), ?_, ?_⟩
  · refine (((Mv.of_below hB).trans hM (fun k hk => .inl hk)).trans (mv_set (D + 1 + 1) 0 (.int .i64 bl)) ?_).trans (mv_set (D + 1 + 1) 1 v1) ?_ <;>
    · intro k hk
      rw [List.mem_singleton.1 hk]
      exact .inr (by omega)
  · rw [hL]
    have h1 := Kd.V_bound hv
    have h2 := Kd.V_step (w1 := (w5.setCell ⟨D + 1 + 1, 0, none⟩ (.int .i64 bl)).setCell ⟨D + 1 + 1, 1, none⟩ v1) h1 (fun k hk hlt => (hset k hk.1.2).trans (hM.block k hlt hk.1.1.1))
    exact Kd.V_mono h2 (fun k hk => ⟨fun hm => (hid k hm).elim hk.1.1.1 (fun h => by have := hk.2; omega), hk.1.1.2⟩)
set_option maxHeartbeats 8000000 in
set_option maxRecDepth 100000 in
theorem does_put (w : World) (bl : Int) (b c : Nat) (L : List (List Nd)) (h : Wt bl L) (hT : Tb bl w b c L) (A0 : Option Addr) (c0 : Nat) (X : Nat → Prop) (hX : ∀ k, X k → k < w.heap.size) (hv : Vr w (ids b c L) X (.slice A0 (img L).length c0) (img L))
    (n : Int) (x : S24) (raw : Bool) (hx : Ok24 x) :
    Calls Try.prog 50 #[.pointer (some ⟨b, 0, none⟩), .agg #[.int .i64 bl, .slice A0 (img L).length c0], .agg #[.int .i64 0, .int .i64 n, .int .i64 x.f0, .int .u64 x.f1, .int .i64 x.f2, .bool raw]] w (DoP bl w b c L X) := by
  obtain ⟨y, hy, hoy⟩ := of_key hx raw 0 n
  obtain ⟨R, f, hg, hcall⟩ := put_both h hoy n 100000 (by omega)
  have HY := Aside0.mk hy
  have HW := Aside0.mk h
  have HT := Aside0.mk hT
  have HV := Aside0.mk hv
  have HX := Aside0.mk hX
  clear hX
  have HG := Aside0.mk hg
  have HC := Aside0.mk hcall
  have HLT := Aside0.mk (At.lt hT)
  clear hy hx hoy h hT hv hg hcall
  obtain ⟨D, hD⟩ : ∃ D, w.heap.size = D := ⟨_, rfl⟩
  have hb0 := (((Below.refl w.heap.size w).alloc (Nat.le_refl _) (.cells #[.int .i64 bl, .slice A0 (img L).length c0] 71)).alloc (by simp) (.cells #[.int .i64 0, .int .i64 n, .int .i64 x.f0, .int .u64 x.f1, .int .i64 x.f2, .bool raw] 93)).alloc (by simp; omega) (.cells #[.int .i64 0, .slice none 0 0] 71)
  have hk4 := blk_alloc (blk_alloc (blk_new w (.cells #[.int .i64 bl, .slice A0 (img L).length c0] 71)) (.cells #[.int .i64 0, .int .i64 n, .int .i64 x.f0, .int .u64 x.f1, .int .i64 x.f2, .bool raw] 93)) (.cells #[.int .i64 0, .slice none 0 0] 71)
  have hk5 := blk_alloc (blk_new (w.alloc (.cells #[.int .i64 bl, .slice A0 (img L).length c0] 71)) (.cells #[.int .i64 0, .int .i64 n, .int .i64 x.f0, .int .u64 x.f1, .int .i64 x.f2, .bool raw] 93)) (.cells #[.int .i64 0, .slice none 0 0] 71)
  have hk6 := blk_new ((w.alloc (.cells #[.int .i64 bl, .slice A0 (img L).length c0] 71)).alloc (.cells #[.int .i64 0, .int .i64 n, .int .i64 x.f0, .int .u64 x.f1, .int .i64 x.f2, .bool raw] 93)) (.cells #[.int .i64 0, .slice none 0 0] 71)
  have hsz : (w.alloc (.cells #[.int .i64 bl, .slice A0 (img L).length c0] 71)).heap.size = D + 1 := by simp [hD]
  have hsz2 : ((w.alloc (.cells #[.int .i64 bl, .slice A0 (img L).length c0] 71)).alloc (.cells #[.int .i64 0, .int .i64 n, .int .i64 x.f0, .int .u64 x.f1, .int .i64 x.f2, .bool raw] 93)).heap.size = D + 1 + 1 := by simp [hD]
  rw [hsz] at hk5
  rw [hsz2] at hk6
  rw [hD] at hk4
  have HB0 := Aside0.mk hb0
  have HK4 := Aside0.mk hk4
  have HK5 := Aside0.mk hk5
  have HK6 := Aside0.mk hk6
  clear hb0 hk4 hk5 hk6 hsz hsz2
  go_enter Try.func50, Try.ntmps50
  go_wp2_with fail
  generalize ((w.alloc (.cells #[.int .i64 bl, .slice A0 (img L).length c0] 71)).alloc (.cells #[.int .i64 0, .int .i64 n, .int .i64 x.f0, .int .u64 x.f1, .int .i64 x.f2, .bool raw] 93)).alloc (.cells #[.int .i64 0, .slice none 0 0] 71) = wD at *
  refine (lookasidelaw11_Deed_of.calls _ _ _ _ _ _ _ _ _ _ HY.out).mono ?_
  rintro e w1 ⟨rfl, hb1⟩
  have hg8z : D + 1 + 1 < w1.heap.size := Nat.lt_of_lt_of_le (blk_lt HK6.out) hb1.size
  have hwz : (w1.alloc (.cells #[.int .i64 y.f0, .int .u64 y.f1, .int .i64 y.f2] 24)).heap.size = w1.heap.size + 1 := World.size_alloc _ _
  have hk8 := blk_new w1 (.cells #[.int .i64 y.f0, .int .u64 y.f1, .int .i64 y.f2] 24)
  have hb2 : Below wD.heap.size wD (w1.alloc (.cells #[.int .i64 y.f0, .int .u64 y.f1, .int .i64 y.f2] 24)) := hb1.alloc hb1.size _
  have hk4 := blk_below HK4.out hb2
  have hk5 := blk_below HK5.out hb2
  have hk6 := blk_below HK6.out hb2
  have hb3 := below_step HB0.out hb2
  obtain ⟨x0, x1⟩ := And.intro ((blk_cell hk4 0).trans rfl) ((blk_cell hk4 1).trans rfl)
  obtain ⟨y0, y1⟩ := And.intro ((blk_cell hk5 0).trans rfl) ((blk_cell hk5 1).trans rfl)
  obtain ⟨z0, z1, z2⟩ := And.intro ((blk_cell hk8 0).trans rfl) (And.intro ((blk_cell hk8 1).trans rfl) ((blk_cell hk8 2).trans rfl))
  replace HK4 := Aside0.mk hk4
  replace HK5 := Aside0.mk hk5
  replace HK6 := Aside0.mk hk6
  have HK8 := Aside0.mk hk8
  replace HB0 := Aside0.mk hb3
  clear hk4 hk5 hk6 hk8 hb1 hb2 hb3
  go_wp2_with fail
  generalize hG8 : w1.heap.size = g8 at *
  generalize w1.alloc (.cells #[.int .i64 y.f0, .int .u64 y.f1, .int .i64 y.f2] 24) = w2z at *
  have hg8 : D + 1 + 1 < g8 := hg8z
  have hvp : Kd.V (Kd.slice 128 k128) 76 w2z w2z.heap.size (fun k_ => (k_ ∉ ids b c L ∧ ¬ X k_) ∧ k_ < D) (.slice A0 (img L).length c0) (img L) := by
    have h1 := Kd.V_bound HV.out
    rw [hD] at h1
    exact Kd.V_below (Kd.V_step h1 (fun _ _ _ => rfl)) HB0.out
  refine (lookasideref11_Put.calls 100000 bl (fun k_ => (k_ ∉ ids b c L ∧ ¬ X k_) ∧ k_ < D) A0 c0 (img L) y.f0 y.f1 y.f2 n bl R f w2z hvp HG.out).mono ?_
  rintro e w3 ⟨v1, rfl, hv1, hb3⟩
  obtain ⟨A1, c1, rfl, hl1, _⟩ := id hv1
  have hb4 : Below w2z.heap.size w2z (w3.alloc (.cells #[.int .i64 bl, .slice A1 R.length c1] 71)) := hb3.alloc hb3.size _
  have hk9 := blk_new w3 (.cells #[.int .i64 bl, .slice A1 R.length c1] 71)
  have hk5 := blk_below HK5.out hb4
  have hk6 := blk_below HK6.out hb4
  have hk8 := blk_below HK8.out hb4
  have hb5 := below_step HB0.out hb4
  have hv4 : Kd.V (Kd.slice 128 k128) 76 (w3.alloc (.cells #[.int .i64 bl, .slice A1 R.length c1] 71)) 0 (fun k => (k ∉ ids b c L ∧ ¬ X k) ∧ k ≠ D + 1 + 1) (.slice A1 R.length c1) R := Kd.V_mono (Kd.V_alloc hv1 _) (fun k hk => ⟨⟨fun hm => by have := HLT.out k hm; rcases hk with hk | hk; exact hk.1.1 hm; omega, fun hx => by have := HX.out k hx; rcases hk with hk | hk; exact hk.1.2 hx; omega⟩, by rcases hk with hk | hk <;> omega⟩)
  have hs9 : w3.heap.size < (w3.alloc (.cells #[.int .i64 bl, .slice A1 R.length c1] 71)).heap.size := by simp
  have hg9 : g8 < w3.heap.size := by have := hb3.size; omega
  generalize hG9 : w3.heap.size = g9 at *
  obtain ⟨W, hW⟩ : ∃ W, w3.alloc (.cells #[.int .i64 bl, .slice A1 R.length c1] 71) = W := ⟨_, rfl⟩
  rw [hW] at hb4 hk9 hk5 hk6 hk8 hb5 hv4 hs9
  clear x0 x1 y0 y1 z0 z1 z2 HK4 HK5 HK6 HK8 hG8 hv1 hb3 hb4 hvp hwz hg8z
  have HV4 := Aside0.mk hv4
  have HB3 := Aside0.mk hb5
  have HK6 := Aside0.mk hk6
  have v0 := (blk_cell hk9 0).trans rfl
  have v1 := (blk_cell hk9 1).trans rfl
  have z0 := (blk_cell hk8 0).trans rfl
  have z1 := (blk_cell hk8 1).trans rfl
  have z2 := (blk_cell hk8 2).trans rfl
  have y1 := (blk_cell hk5 1).trans rfl
  clear hv4 hb5 hk6 hk9 hk8 hk5 hl1
  go_wp2_with fail
  clear hW hG9
  refine start_ (n := 11) (S := fun w' => w'.cell? ⟨g9, 0, none⟩ = some (.int .i64 bl) ∧ w'.cell? ⟨g9, 1, none⟩ = some (.slice A1 R.length c1) ∧ w'.cell? ⟨g8, 0, none⟩ = some (.int .i64 y.f0) ∧ w'.cell? ⟨g8, 1, none⟩ = some (.int .u64 y.f1) ∧ w'.cell? ⟨g8, 2, none⟩ = some (.int .i64 y.f2) ∧ w'.cell? ⟨D + 1, 1, none⟩ = some (.int .i64 n)) (ds := [9]) #[false, false, false, false, false, false, false, false, false, false, false] (by kernel_rfl) rfl rfl ⟨v0, v1, z0, z1, z2, y1⟩ (fun hHeld => ?_)
  refine pure_ (i := 1) (N := some 39) (v := ?_) (a' := ?_) #[false, true, false, false, false, false, false, false, false, false, false] rfl rfl (by kernel_rfl) (fun _ _ _ h => h) (Or.inl ⟨by rfl, ?_⟩) ?_ ?_
  rotate_left
  · intro w'
    go_simp
    with_reducible rfl
  rotate_left
  · simp only [Act.put, List.setIfInBounds_toArray, List.set_cons_zero, List.set_cons_succ, i64_w, i32_w]
    rfl
  refine pure_ (i := 4) (N := some 42) (v := ?_) (a' := ?_) #[false, true, false, false, true, false, false, false, false, false, false] rfl rfl (by kernel_rfl) (fun _ _ _ h => h) (Or.inl ⟨by rfl, ?_⟩) ?_ ?_
  rotate_left
  · intro w'
    go_simp
    with_reducible rfl
  rotate_left
  · simp only [Act.put, List.setIfInBounds_toArray, List.set_cons_zero, List.set_cons_succ, i64_w, i32_w]
    rfl
  refine pure_ (i := 7) (N := some 45) (v := ?_) (a' := ?_) #[false, true, false, false, true, false, false, true, false, false, false] rfl rfl (by kernel_rfl) (fun _ _ _ h => h) (Or.inl ⟨by rfl, ?_⟩) ?_ ?_
  rotate_left
  · intro w'
    go_simp
    with_reducible rfl
  rotate_left
  · simp only [Act.put, List.setIfInBounds_toArray, List.set_cons_zero, List.set_cons_succ, i64_w, i32_w]
    rfl
  refine take_ (i := 0) (N := some 38) (v := ?_) (a' := ?_) #[true, true, false, false, true, false, false, true, false, false, false] rfl rfl (by kernel_rfl) (fun _ _ _ h => h) (Or.inl ⟨by rfl, ?_⟩) hHeld ?_ ?_
  rotate_left
  · rintro w' ⟨s0, s1, s2, s3, s4, s5⟩
    go_simp
    with_reducible rfl
  rotate_left
  · simp only [Act.put, List.setIfInBounds_toArray, List.set_cons_zero, List.set_cons_succ, i64_w, i32_w]
    rfl
  refine take_ (i := 2) (N := some 40) (v := ?_) (a' := ?_) #[true, true, true, false, true, false, false, true, false, false, false] rfl rfl (by kernel_rfl) (fun _ _ _ h => h) (Or.inl ⟨by rfl, ?_⟩) hHeld ?_ ?_
  rotate_left
  · rintro w' ⟨s0, s1, s2, s3, s4, s5⟩
    go_simp
    with_reducible rfl
  rotate_left
  · simp only [Act.put, List.setIfInBounds_toArray, List.set_cons_zero, List.set_cons_succ, i64_w, i32_w]
    rfl
  refine take_ (i := 5) (N := some 43) (v := ?_) (a' := ?_) #[true, true, true, false, true, true, false, true, false, false, false] rfl rfl (by kernel_rfl) (fun _ _ _ h => h) (Or.inl ⟨by rfl, ?_⟩) hHeld ?_ ?_
  rotate_left
  · rintro w' ⟨s0, s1, s2, s3, s4, s5⟩
    go_simp
    with_reducible rfl
  rotate_left
  · simp only [Act.put, List.setIfInBounds_toArray, List.set_cons_zero, List.set_cons_succ, i64_w, i32_w]
    rfl
  refine one_ (i := 3) (N := some 41) #[true, true, true, true, true, true, false, true, false, false, false] rfl rfl (by kernel_rfl) (by decide) (fun K hK => ?_)
  refine goes_ Try.func16 (by kernel_rfl) rfl #[.agg #[.int .i64 y.f0, .int .u64 y.f1, .int .i64 y.f2]] (by rfl) rfl rfl (by (try simp only [List.map_toArray, List.map_cons, List.map_nil]); first | done | rfl) ?_
  refine (lookasidelaw11_key.calls y.f0 y.f1 y.f2 _ _ _ _ rfl).mono ?_
  rintro e w4 ⟨rfl, hb4⟩
  refine ⟨_, rfl, ?_⟩
  have HB4 := Aside0.mk hb4
  obtain ⟨s0, s1, s2, s3, s4, s5⟩ := hHeld
  refine hK.out _ _ ⟨(HB4.out.cell (World.block_lt_of_cell? _ _ s0)).trans s0, (HB4.out.cell (World.block_lt_of_cell? _ _ s1)).trans s1, (HB4.out.cell (World.block_lt_of_cell? _ _ s2)).trans s2, (HB4.out.cell (World.block_lt_of_cell? _ _ s3)).trans s3, (HB4.out.cell (World.block_lt_of_cell? _ _ s4)).trans s4, (HB4.out.cell (World.block_lt_of_cell? _ _ s5)).trans s5⟩ (fun hHeld => ?_)
  clear hK K
  refine norm_ (a' := ?_) ?_ ?_
  rotate_left
  · show Act.put _ (some 41) _ = _
    simp only [Act.put, List.setIfInBounds_toArray, List.set_cons_zero, List.set_cons_succ, i64_w, i32_w]
    rfl
  refine one_ (i := 6) (N := some 44) #[true, true, true, true, true, true, true, true, false, false, false] rfl rfl (by kernel_rfl) (by decide) (fun K hK => ?_)
  refine goes_ Try.func32 (by kernel_rfl) rfl #[.pointer (some ⟨b, 0, none⟩), .agg #[.int .i64 y.f0, .int .u64 y.f1, .int .i64 y.f2], .int .i64 n] (by rfl) rfl rfl (by (try simp only [List.map_toArray, List.map_cons, List.map_nil]); first | done | rfl) ?_
  have hbz := below_step HB3.out ((Below.refl _ _).drew.trans HB4.out)
  refine (HC.out w4 b c (At.below HT.out hbz)).mono ?_
  rintro e w5 ⟨rfl, hout⟩
  refine ⟨_, rfl, ?_⟩
  have HOUT := Aside0.mk hout
  have HBZ := Aside0.mk hbz
  obtain ⟨c', L', hL', hWt', hTb', hid', hMv'⟩ := hout
  have HMV := Aside0.mk hMv'
  have hbW : Below W.heap.size W w4 := (Below.refl _ W).drew.trans HB4.out
  have hn6 : D + 1 + 1 ∉ ids b c L := fun hm => by have := HLT.out _ hm; omega
  have hk6' := (HMV.out.block (D + 1 + 1) (Nat.lt_of_lt_of_le (blk_lt HK6.out) hbW.size) hn6).trans ((hbW.block (D + 1 + 1) (blk_lt HK6.out)).trans HK6.out)
  have HK6' := Aside0.mk hk6'
  clear hbW hn6 hk6'
  clear hL' hWt' hTb' hid' hMv' hbz
  obtain ⟨s0, s1, s2, s3, s4, s5⟩ := hHeld
  refine hK.out _ _ ⟨(mv_cell HMV.out (World.block_lt_of_cell? _ _ s0) (fun hm => by have := HLT.out _ hm; dsimp only at this; omega)).trans s0, (mv_cell HMV.out (World.block_lt_of_cell? _ _ s1) (fun hm => by have := HLT.out _ hm; dsimp only at this; omega)).trans s1, (mv_cell HMV.out (World.block_lt_of_cell? _ _ s2) (fun hm => by have := HLT.out _ hm; dsimp only at this; omega)).trans s2, (mv_cell HMV.out (World.block_lt_of_cell? _ _ s3) (fun hm => by have := HLT.out _ hm; dsimp only at this; omega)).trans s3, (mv_cell HMV.out (World.block_lt_of_cell? _ _ s4) (fun hm => by have := HLT.out _ hm; dsimp only at this; omega)).trans s4, (mv_cell HMV.out (World.block_lt_of_cell? _ _ s5) (fun hm => by have := HLT.out _ hm; dsimp only at this; omega)).trans s5⟩ (fun hHeld => ?_)
  clear hK K
  refine norm_ (a' := ?_) ?_ ?_
  rotate_left
  · show Act.put _ (some 44) _ = _
    simp only [Act.put, List.setIfInBounds_toArray, List.set_cons_zero, List.set_cons_succ, i64_w, i32_w]
    rfl
  refine pure_ (i := 8) (N := some 46) (v := ?_) (a' := ?_) #[true, true, true, true, true, true, true, true, true, false, false] rfl rfl (by kernel_rfl) (fun _ _ _ h => h) (Or.inl ⟨by rfl, ?_⟩) ?_ ?_
  rotate_left
  · intro w'
    go_simp
    with_reducible rfl
  rotate_left
  · simp only [Act.put, List.setIfInBounds_toArray, List.set_cons_zero, List.set_cons_succ, i64_w, i32_w]
    rfl
  refine last_ (i := 9) (N := none) #[true, true, true, true, true, true, true, true, true, true, false] rfl rfl (by kernel_rfl) (by decide) (fun K hK => ?_)
  obtain ⟨s0, s1, s2, s3, s4, s5⟩ := hHeld
  have f6 := blk_frozen HK6'.out
  obtain ⟨r0, r1⟩ := And.intro ((blk_cell HK6'.out 0).trans rfl) ((blk_cell HK6'.out 1).trans rfl)
  refine skip_ (w1 := ?_) (by rfl) rfl ?_ ?_
  rotate_left
  · go_simp
    with_reducible rfl
  refine hK.out _ _ ?_
  clear hK K
  refine pure_ (i := 10) (N := some 7) (v := ?_) (a' := ?_) #[true, true, true, true, true, true, true, true, true, true, true] rfl rfl (by kernel_rfl) (fun _ _ _ h => h) (Or.inl ⟨by rfl, ?_⟩) ?_ ?_
  rotate_left
  · intro w'
    go_simp
    with_reducible rfl
  rotate_left
  · simp only [Act.put, List.setIfInBounds_toArray, List.set_cons_zero, List.set_cons_succ, i64_w, i32_w]
    rfl
  refine done_ (by kernel_rfl) ?_
  obtain ⟨c', L', hL', hWt', hTb', hid', hMv'⟩ := HOUT.out
  have hDP := dop_end HLT.out hD HBZ.out hMv' hid' hL' hWt' hTb' (Kd.V_below (Kd.V_drew HV4.out) HB4.out) (by have := (blk_lt HK6.out); have h2 := HB4.out.size; exact Nat.lt_of_lt_of_le this h2) (v1 := .slice A1 R.length c1)
  have HKF := Aside0.mk (blk_put (blk_put HK6'.out 0 (.int .i64 bl) rfl) 1 (.slice A1 R.length c1) rfl)
  have HDP := Aside0.mk hDP
  clear hDP hL' hWt' hTb' hid' hMv'
  go_wp2_with fail
  refine bodyPost_ret (results_ct rfl _ _ (D + 1 + 1) 71 #[.int .i64 bl, .slice A1 R.length c1] (0, 0) _ rfl HKF.out Try.underlying71 rfl (by kernel_rfl)) rfl ?_
  exact HDP.out

end Go.Proofs.Ytgmdlndiilibpaa.PH

namespace Go.Proofs.Ytgmdlndiilibpaa.PH
open Go.RowKit Go.Proofs.YtgmdlndiilibpaaW.PrintWords Go.Proofs.YtgmdlndiilibpaaW.PrintLast Go.Proofs.YtgmdlndiilibpaaW.PrintMore Go.Proofs.Ytgmdlndiilibpaa.Tab
attribute [local go_sem] max2_int min2_int max_two min_two max_three min_three max_four min_four   -- for this text's walks alone
set_option linter.unusedVariables false
set_option linter.unusedSimpArgs false
open Go.Proofs.Ytgmdlndiilibpaa.KeyG
set_option maxHeartbeats 8000000 in
set_option maxRecDepth 100000 in
theorem does_set (w : World) (bl : Int) (b c : Nat) (L : List (List Nd)) (h : Wt bl L) (hT : Tb bl w b c L) (A0 : Option Addr) (c0 : Nat) (X : Nat → Prop) (hX : ∀ k, X k → k < w.heap.size) (hv : Vr w (ids b c L) X (.slice A0 (img L).length c0) (img L))
    (n : Int) (x : S24) (raw : Bool) (hx : Ok24 x) :
    Calls Try.prog 50 #[.pointer (some ⟨b, 0, none⟩), .agg #[.int .i64 bl, .slice A0 (img L).length c0], .agg #[.int .i64 1, .int .i64 n, .int .i64 x.f0, .int .u64 x.f1, .int .i64 x.f2, .bool raw]] w (DoP bl w b c L X) := by
  obtain ⟨y, hy, hoy⟩ := of_key hx raw 1 n
  obtain ⟨R, f, hg, hcall⟩ := set_both h hoy n 100000 (by omega)
  have HY := Aside0.mk hy
  have HW := Aside0.mk h
  have HT := Aside0.mk hT
  have HV := Aside0.mk hv
  have HX := Aside0.mk hX
  clear hX
  have HG := Aside0.mk hg
  have HC := Aside0.mk hcall
  have HLT := Aside0.mk (At.lt hT)
  clear hy hx hoy h hT hv hg hcall
  obtain ⟨D, hD⟩ : ∃ D, w.heap.size = D := ⟨_, rfl⟩
  have hb0 := (((Below.refl w.heap.size w).alloc (Nat.le_refl _) (.cells #[.int .i64 bl, .slice A0 (img L).length c0] 71)).alloc (by simp) (.cells #[.int .i64 1, .int .i64 n, .int .i64 x.f0, .int .u64 x.f1, .int .i64 x.f2, .bool raw] 93)).alloc (by simp; omega) (.cells #[.int .i64 0, .slice none 0 0] 71)
  have hk4 := blk_alloc (blk_alloc (blk_new w (.cells #[.int .i64 bl, .slice A0 (img L).length c0] 71)) (.cells #[.int .i64 1, .int .i64 n, .int .i64 x.f0, .int .u64 x.f1, .int .i64 x.f2, .bool raw] 93)) (.cells #[.int .i64 0, .slice none 0 0] 71)
  have hk5 := blk_alloc (blk_new (w.alloc (.cells #[.int .i64 bl, .slice A0 (img L).length c0] 71)) (.cells #[.int .i64 1, .int .i64 n, .int .i64 x.f0, .int .u64 x.f1, .int .i64 x.f2, .bool raw] 93)) (.cells #[.int .i64 0, .slice none 0 0] 71)
  have hk6 := blk_new ((w.alloc (.cells #[.int .i64 bl, .slice A0 (img L).length c0] 71)).alloc (.cells #[.int .i64 1, .int .i64 n, .int .i64 x.f0, .int .u64 x.f1, .int .i64 x.f2, .bool raw] 93)) (.cells #[.int .i64 0, .slice none 0 0] 71)
  have hsz : (w.alloc (.cells #[.int .i64 bl, .slice A0 (img L).length c0] 71)).heap.size = D + 1 := by simp [hD]
  have hsz2 : ((w.alloc (.cells #[.int .i64 bl, .slice A0 (img L).length c0] 71)).alloc (.cells #[.int .i64 1, .int .i64 n, .int .i64 x.f0, .int .u64 x.f1, .int .i64 x.f2, .bool raw] 93)).heap.size = D + 1 + 1 := by simp [hD]
  rw [hsz] at hk5
  rw [hsz2] at hk6
  rw [hD] at hk4
  have HB0 := Aside0.mk hb0
  have HK4 := Aside0.mk hk4
  have HK5 := Aside0.mk hk5
  have HK6 := Aside0.mk hk6
  clear hb0 hk4 hk5 hk6 hsz hsz2
  go_enter Try.func50, Try.ntmps50
  go_wp2_with fail
  generalize ((w.alloc (.cells #[.int .i64 bl, .slice A0 (img L).length c0] 71)).alloc (.cells #[.int .i64 1, .int .i64 n, .int .i64 x.f0, .int .u64 x.f1, .int .i64 x.f2, .bool raw] 93)).alloc (.cells #[.int .i64 0, .slice none 0 0] 71) = wD at *
  refine (lookasidelaw11_Deed_of.calls _ _ _ _ _ _ _ _ _ _ HY.out).mono ?_
  rintro e w1 ⟨rfl, hb1⟩
  have hg8z : D + 1 + 1 < w1.heap.size := Nat.lt_of_lt_of_le (blk_lt HK6.out) hb1.size
  have hwz : (w1.alloc (.cells #[.int .i64 y.f0, .int .u64 y.f1, .int .i64 y.f2] 24)).heap.size = w1.heap.size + 1 := World.size_alloc _ _
  have hk8 := blk_new w1 (.cells #[.int .i64 y.f0, .int .u64 y.f1, .int .i64 y.f2] 24)
  have hb2 : Below wD.heap.size wD (w1.alloc (.cells #[.int .i64 y.f0, .int .u64 y.f1, .int .i64 y.f2] 24)) := hb1.alloc hb1.size _
  have hk4 := blk_below HK4.out hb2
  have hk5 := blk_below HK5.out hb2
  have hk6 := blk_below HK6.out hb2
  have hb3 := below_step HB0.out hb2
  obtain ⟨x0, x1⟩ := And.intro ((blk_cell hk4 0).trans rfl) ((blk_cell hk4 1).trans rfl)
  obtain ⟨y0, y1⟩ := And.intro ((blk_cell hk5 0).trans rfl) ((blk_cell hk5 1).trans rfl)
  obtain ⟨z0, z1, z2⟩ := And.intro ((blk_cell hk8 0).trans rfl) (And.intro ((blk_cell hk8 1).trans rfl) ((blk_cell hk8 2).trans rfl))
  replace HK4 := Aside0.mk hk4
  replace HK5 := Aside0.mk hk5
  replace HK6 := Aside0.mk hk6
  have HK8 := Aside0.mk hk8
  replace HB0 := Aside0.mk hb3
  clear hk4 hk5 hk6 hk8 hb1 hb2 hb3
  go_wp2_with fail
  generalize hG8 : w1.heap.size = g8 at *
  generalize w1.alloc (.cells #[.int .i64 y.f0, .int .u64 y.f1, .int .i64 y.f2] 24) = w2z at *
  have hg8 : D + 1 + 1 < g8 := hg8z
  have hvp : Kd.V (Kd.slice 128 k128) 76 w2z w2z.heap.size (fun k_ => (k_ ∉ ids b c L ∧ ¬ X k_) ∧ k_ < D) (.slice A0 (img L).length c0) (img L) := by
    have h1 := Kd.V_bound HV.out
    rw [hD] at h1
    exact Kd.V_below (Kd.V_step h1 (fun _ _ _ => rfl)) HB0.out
  refine (lookasideref11_Set.calls 100000 bl (fun k_ => (k_ ∉ ids b c L ∧ ¬ X k_) ∧ k_ < D) A0 c0 (img L) y.f0 y.f1 y.f2 n bl R f w2z hvp HG.out).mono ?_
  rintro e w3 ⟨v1, rfl, hv1, hb3⟩
  obtain ⟨A1, c1, rfl, hl1, _⟩ := id hv1
  have hb4 : Below w2z.heap.size w2z (w3.alloc (.cells #[.int .i64 bl, .slice A1 R.length c1] 71)) := hb3.alloc hb3.size _
  have hk9 := blk_new w3 (.cells #[.int .i64 bl, .slice A1 R.length c1] 71)
  have hk5 := blk_below HK5.out hb4
  have hk6 := blk_below HK6.out hb4
  have hk8 := blk_below HK8.out hb4
  have hb5 := below_step HB0.out hb4
  have hv4 : Kd.V (Kd.slice 128 k128) 76 (w3.alloc (.cells #[.int .i64 bl, .slice A1 R.length c1] 71)) 0 (fun k => (k ∉ ids b c L ∧ ¬ X k) ∧ k ≠ D + 1 + 1) (.slice A1 R.length c1) R := Kd.V_mono (Kd.V_alloc hv1 _) (fun k hk => ⟨⟨fun hm => by have := HLT.out k hm; rcases hk with hk | hk; exact hk.1.1 hm; omega, fun hx => by have := HX.out k hx; rcases hk with hk | hk; exact hk.1.2 hx; omega⟩, by rcases hk with hk | hk <;> omega⟩)
  have hs9 : w3.heap.size < (w3.alloc (.cells #[.int .i64 bl, .slice A1 R.length c1] 71)).heap.size := by simp
  have hg9 : g8 < w3.heap.size := by have := hb3.size; omega
  generalize hG9 : w3.heap.size = g9 at *
  obtain ⟨W, hW⟩ : ∃ W, w3.alloc (.cells #[.int .i64 bl, .slice A1 R.length c1] 71) = W := ⟨_, rfl⟩
  rw [hW] at hb4 hk9 hk5 hk6 hk8 hb5 hv4 hs9
  clear x0 x1 y0 y1 z0 z1 z2 HK4 HK5 HK6 HK8 hG8 hv1 hb3 hb4 hvp hwz hg8z
  have HV4 := Aside0.mk hv4
  have HB3 := Aside0.mk hb5
  have HK6 := Aside0.mk hk6
  have v0 := (blk_cell hk9 0).trans rfl
  have v1 := (blk_cell hk9 1).trans rfl
  have z0 := (blk_cell hk8 0).trans rfl
  have z1 := (blk_cell hk8 1).trans rfl
  have z2 := (blk_cell hk8 2).trans rfl
  have y1 := (blk_cell hk5 1).trans rfl
  clear hv4 hb5 hk6 hk9 hk8 hk5 hl1
  go_wp2_with fail
  clear hW hG9
  refine start_ (n := 11) (S := fun w' => w'.cell? ⟨g9, 0, none⟩ = some (.int .i64 bl) ∧ w'.cell? ⟨g9, 1, none⟩ = some (.slice A1 R.length c1) ∧ w'.cell? ⟨g8, 0, none⟩ = some (.int .i64 y.f0) ∧ w'.cell? ⟨g8, 1, none⟩ = some (.int .u64 y.f1) ∧ w'.cell? ⟨g8, 2, none⟩ = some (.int .i64 y.f2) ∧ w'.cell? ⟨D + 1, 1, none⟩ = some (.int .i64 n)) (ds := [9]) #[false, false, false, false, false, false, false, false, false, false, false] (by kernel_rfl) rfl rfl ⟨v0, v1, z0, z1, z2, y1⟩ (fun hHeld => ?_)
  refine pure_ (i := 1) (N := some 58) (v := ?_) (a' := ?_) #[false, true, false, false, false, false, false, false, false, false, false] rfl rfl (by kernel_rfl) (fun _ _ _ h => h) (Or.inl ⟨by rfl, ?_⟩) ?_ ?_
  rotate_left
  · intro w'
    go_simp
    with_reducible rfl
  rotate_left
  · simp only [Act.put, List.setIfInBounds_toArray, List.set_cons_zero, List.set_cons_succ, i64_w, i32_w]
    rfl
  refine pure_ (i := 4) (N := some 61) (v := ?_) (a' := ?_) #[false, true, false, false, true, false, false, false, false, false, false] rfl rfl (by kernel_rfl) (fun _ _ _ h => h) (Or.inl ⟨by rfl, ?_⟩) ?_ ?_
  rotate_left
  · intro w'
    go_simp
    with_reducible rfl
  rotate_left
  · simp only [Act.put, List.setIfInBounds_toArray, List.set_cons_zero, List.set_cons_succ, i64_w, i32_w]
    rfl
  refine pure_ (i := 7) (N := some 64) (v := ?_) (a' := ?_) #[false, true, false, false, true, false, false, true, false, false, false] rfl rfl (by kernel_rfl) (fun _ _ _ h => h) (Or.inl ⟨by rfl, ?_⟩) ?_ ?_
  rotate_left
  · intro w'
    go_simp
    with_reducible rfl
  rotate_left
  · simp only [Act.put, List.setIfInBounds_toArray, List.set_cons_zero, List.set_cons_succ, i64_w, i32_w]
    rfl
  refine take_ (i := 0) (N := some 57) (v := ?_) (a' := ?_) #[true, true, false, false, true, false, false, true, false, false, false] rfl rfl (by kernel_rfl) (fun _ _ _ h => h) (Or.inl ⟨by rfl, ?_⟩) hHeld ?_ ?_
  rotate_left
  · rintro w' ⟨s0, s1, s2, s3, s4, s5⟩
    go_simp
    with_reducible rfl
  rotate_left
  · simp only [Act.put, List.setIfInBounds_toArray, List.set_cons_zero, List.set_cons_succ, i64_w, i32_w]
    rfl
  refine take_ (i := 2) (N := some 59) (v := ?_) (a' := ?_) #[true, true, true, false, true, false, false, true, false, false, false] rfl rfl (by kernel_rfl) (fun _ _ _ h => h) (Or.inl ⟨by rfl, ?_⟩) hHeld ?_ ?_
  rotate_left
  · rintro w' ⟨s0, s1, s2, s3, s4, s5⟩
    go_simp
    with_reducible rfl
  rotate_left
  · simp only [Act.put, List.setIfInBounds_toArray, List.set_cons_zero, List.set_cons_succ, i64_w, i32_w]
    rfl
  refine take_ (i := 5) (N := some 62) (v := ?_) (a' := ?_) #[true, true, true, false, true, true, false, true, false, false, false] rfl rfl (by kernel_rfl) (fun _ _ _ h => h) (Or.inl ⟨by rfl, ?_⟩) hHeld ?_ ?_
  rotate_left
  · rintro w' ⟨s0, s1, s2, s3, s4, s5⟩
    go_simp
    with_reducible rfl
  rotate_left
  · simp only [Act.put, List.setIfInBounds_toArray, List.set_cons_zero, List.set_cons_succ, i64_w, i32_w]
    rfl
  refine one_ (i := 3) (N := some 60) #[true, true, true, true, true, true, false, true, false, false, false] rfl rfl (by kernel_rfl) (by decide) (fun K hK => ?_)
  refine goes_ Try.func16 (by kernel_rfl) rfl #[.agg #[.int .i64 y.f0, .int .u64 y.f1, .int .i64 y.f2]] (by rfl) rfl rfl (by (try simp only [List.map_toArray, List.map_cons, List.map_nil]); first | done | rfl) ?_
  refine (lookasidelaw11_key.calls y.f0 y.f1 y.f2 _ _ _ _ rfl).mono ?_
  rintro e w4 ⟨rfl, hb4⟩
  refine ⟨_, rfl, ?_⟩
  have HB4 := Aside0.mk hb4
  obtain ⟨s0, s1, s2, s3, s4, s5⟩ := hHeld
  refine hK.out _ _ ⟨(HB4.out.cell (World.block_lt_of_cell? _ _ s0)).trans s0, (HB4.out.cell (World.block_lt_of_cell? _ _ s1)).trans s1, (HB4.out.cell (World.block_lt_of_cell? _ _ s2)).trans s2, (HB4.out.cell (World.block_lt_of_cell? _ _ s3)).trans s3, (HB4.out.cell (World.block_lt_of_cell? _ _ s4)).trans s4, (HB4.out.cell (World.block_lt_of_cell? _ _ s5)).trans s5⟩ (fun hHeld => ?_)
  clear hK K
  refine norm_ (a' := ?_) ?_ ?_
  rotate_left
  · show Act.put _ (some 60) _ = _
    simp only [Act.put, List.setIfInBounds_toArray, List.set_cons_zero, List.set_cons_succ, i64_w, i32_w]
    rfl
  refine one_ (i := 6) (N := some 63) #[true, true, true, true, true, true, true, true, false, false, false] rfl rfl (by kernel_rfl) (by decide) (fun K hK => ?_)
  refine goes_ Try.func34 (by kernel_rfl) rfl #[.pointer (some ⟨b, 0, none⟩), .agg #[.int .i64 y.f0, .int .u64 y.f1, .int .i64 y.f2], .int .i64 n] (by rfl) rfl rfl (by (try simp only [List.map_toArray, List.map_cons, List.map_nil]); first | done | rfl) ?_
  have hbz := below_step HB3.out ((Below.refl _ _).drew.trans HB4.out)
  refine (HC.out w4 b c (At.below HT.out hbz)).mono ?_
  rintro e w5 ⟨rfl, hout⟩
  refine ⟨_, rfl, ?_⟩
  have HOUT := Aside0.mk hout
  have HBZ := Aside0.mk hbz
  obtain ⟨c', L', hL', hWt', hTb', hid', hMv'⟩ := hout
  have HMV := Aside0.mk hMv'
  have hbW : Below W.heap.size W w4 := (Below.refl _ W).drew.trans HB4.out
  have hn6 : D + 1 + 1 ∉ ids b c L := fun hm => by have := HLT.out _ hm; omega
  have hk6' := (HMV.out.block (D + 1 + 1) (Nat.lt_of_lt_of_le (blk_lt HK6.out) hbW.size) hn6).trans ((hbW.block (D + 1 + 1) (blk_lt HK6.out)).trans HK6.out)
  have HK6' := Aside0.mk hk6'
  clear hbW hn6 hk6'
  clear hL' hWt' hTb' hid' hMv' hbz
  obtain ⟨s0, s1, s2, s3, s4, s5⟩ := hHeld
  refine hK.out _ _ ⟨(mv_cell HMV.out (World.block_lt_of_cell? _ _ s0) (fun hm => by have := HLT.out _ hm; dsimp only at this; omega)).trans s0, (mv_cell HMV.out (World.block_lt_of_cell? _ _ s1) (fun hm => by have := HLT.out _ hm; dsimp only at this; omega)).trans s1, (mv_cell HMV.out (World.block_lt_of_cell? _ _ s2) (fun hm => by have := HLT.out _ hm; dsimp only at this; omega)).trans s2, (mv_cell HMV.out (World.block_lt_of_cell? _ _ s3) (fun hm => by have := HLT.out _ hm; dsimp only at this; omega)).trans s3, (mv_cell HMV.out (World.block_lt_of_cell? _ _ s4) (fun hm => by have := HLT.out _ hm; dsimp only at this; omega)).trans s4, (mv_cell HMV.out (World.block_lt_of_cell? _ _ s5) (fun hm => by have := HLT.out _ hm; dsimp only at this; omega)).trans s5⟩ (fun hHeld => ?_)
  clear hK K
  refine norm_ (a' := ?_) ?_ ?_
  rotate_left
  · show Act.put _ (some 63) _ = _
    simp only [Act.put, List.setIfInBounds_toArray, List.set_cons_zero, List.set_cons_succ, i64_w, i32_w]
    rfl
  refine pure_ (i := 8) (N := some 65) (v := ?_) (a' := ?_) #[true, true, true, true, true, true, true, true, true, false, false] rfl rfl (by kernel_rfl) (fun _ _ _ h => h) (Or.inl ⟨by rfl, ?_⟩) ?_ ?_
  rotate_left
  · intro w'
    go_simp
    with_reducible rfl
  rotate_left
  · simp only [Act.put, List.setIfInBounds_toArray, List.set_cons_zero, List.set_cons_succ, i64_w, i32_w]
    rfl
  refine last_ (i := 9) (N := none) #[true, true, true, true, true, true, true, true, true, true, false] rfl rfl (by kernel_rfl) (by decide) (fun K hK => ?_)
  obtain ⟨s0, s1, s2, s3, s4, s5⟩ := hHeld
  have f6 := blk_frozen HK6'.out
  obtain ⟨r0, r1⟩ := And.intro ((blk_cell HK6'.out 0).trans rfl) ((blk_cell HK6'.out 1).trans rfl)
  refine skip_ (w1 := ?_) (by rfl) rfl ?_ ?_
  rotate_left
  · go_simp
    with_reducible rfl
  refine hK.out _ _ ?_
  clear hK K
  refine pure_ (i := 10) (N := some 7) (v := ?_) (a' := ?_) #[true, true, true, true, true, true, true, true, true, true, true] rfl rfl (by kernel_rfl) (fun _ _ _ h => h) (Or.inl ⟨by rfl, ?_⟩) ?_ ?_
  rotate_left
  · intro w'
    go_simp
    with_reducible rfl
  rotate_left
  · simp only [Act.put, List.setIfInBounds_toArray, List.set_cons_zero, List.set_cons_succ, i64_w, i32_w]
    rfl
  refine done_ (by kernel_rfl) ?_
  obtain ⟨c', L', hL', hWt', hTb', hid', hMv'⟩ := HOUT.out
  have hDP := dop_end HLT.out hD HBZ.out hMv' hid' hL' hWt' hTb' (Kd.V_below (Kd.V_drew HV4.out) HB4.out) (by have := (blk_lt HK6.out); have h2 := HB4.out.size; exact Nat.lt_of_lt_of_le this h2) (v1 := .slice A1 R.length c1)
  have HKF := Aside0.mk (blk_put (blk_put HK6'.out 0 (.int .i64 bl) rfl) 1 (.slice A1 R.length c1) rfl)
  have HDP := Aside0.mk hDP
  clear hDP hL' hWt' hTb' hid' hMv'
  go_wp2_with fail
  refine bodyPost_ret (results_ct rfl _ _ (D + 1 + 1) 71 #[.int .i64 bl, .slice A1 R.length c1] (0, 0) _ rfl HKF.out Try.underlying71 rfl (by kernel_rfl)) rfl ?_
  exact HDP.out

end Go.Proofs.Ytgmdlndiilibpaa.PH

