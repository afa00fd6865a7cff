/- CallRows: its walk. Written by mkcr.py over cr.txt. -/
import Derived.Test.YtgmdlndiilibpaaCallP
import Derived.Lib.Builder
import Derived.OneCell
namespace Go.Proofs.Ytgmdlndiilibpaa.PC
open Go.RowKit Go.Proofs.YtgmdlndiilibpaaW.PrintWords Go.Proofs.YtgmdlndiilibpaaW.PrintLast Go.Proofs.YtgmdlndiilibpaaW.PrintMore Go.Proofs.Ytgmdlndiilibpaa.Tab Go.Proofs.Ytgmdlndiilibpaa.CallK
attribute [local go_sem] max2_int min2_int max_two min_two max_three min_three max_four min_four   -- for this text's walks alone
set_option linter.unusedVariables false
set_option linter.unusedSimpArgs false
attribute [local go_sem high] eqA46
theorem cell_mv {S : List Nat} {w w' : World} {p : Addr} {v : Value} (hm : Mv S w w') (hc : w.cell? p = some v) (hn : p.block ∉ S) : w'.cell? p = some v :=
  (World.cell?_of_block (hm.block _ (World.block_lt_of_cell? _ _ hc) hn)).trans hc
/-- A call as this law makes it. -/
def msgOf (x : S35) : S35 := if Int.tmod x.f0 2 = 0 then ⟨0, x.f1, x.f2⟩ else ⟨1, x.f1, 0⟩
theorem msg_ok (x : S35) : Ok (msgOf x).f0 (msgOf x).f1 (msgOf x).f2 := by
  unfold msgOf
  split
  · exact .inl rfl
  · exact .inr ⟨rfl, rfl⟩
theorem msg_okB (x : S35) : okB (msgOf x).f0 (msgOf x).f2 = true := by
  unfold msgOf
  split <;> rfl
def goM (k : Nat) : List S35 → List Sn
  | [] => []
  | x :: t => (packV x.f0 x.f1 x.f2, (k : Int)) :: goM (k + 1) t
theorem goM_len : ∀ (k : Nat) (l : List S35), (goM k l).length = l.length
  | _, [] => rfl
  | k, x :: t => by simp [goM, goM_len (k + 1) t]
theorem goM_snoc : ∀ (k : Nat) (l : List S35) (x : S35), goM k (l ++ [x]) = goM k l ++ [(packV x.f0 x.f1 x.f2, ((k + l.length : Nat) : Int))]
  | k, [], x => rfl
  | k, y :: t, x => by
    show (_ :: goM (k + 1) (t ++ [x])) = _ :: goM (k + 1) t ++ _
    rw [goM_snoc (k + 1) t x]
    simp only [List.cons_append, List.length_cons]
    rw [show k + 1 + t.length = k + (t.length + 1) by omega]
theorem goM_drop : ∀ (i k : Nat) (l : List S35), (goM k l).drop i = goM (k + i) (l.drop i)
  | 0, k, l => by simp
  | i + 1, k, [] => by simp [goM]
  | i + 1, k, x :: t => by
    show (goM (k + 1) t).drop i = goM (k + (i + 1)) (t.drop i)
    rw [goM_drop i (k + 1) t, show k + 1 + i = k + (i + 1) by omega]
theorem nums_fit : ∀ q : Nat, q ≤ 8 → (nums q).all (inR q) = true ∧ dups (nums q) = false := by decide
theorem others_all (q : Nat) : others q (-1) = nums q := by
  unfold others
  rw [List.filter_eq_self]
  intro k hk
  obtain ⟨m, _, rfl⟩ := List.mem_map.1 hk
  rw [bne_iff_ne]; omega
theorem nums_err (q : Nat) (h : q ≤ 8) (kd va : Int) (ho : okB kd va = true) : sendErr q kd va (nums q) = 0 := by
  unfold sendErr
  rw [if_neg (by rw [ho]; simp), if_neg (by rw [(nums_fit q h).1]; simp), if_neg (by rw [(nums_fit q h).2]; simp)]
theorem nums_send (q : Nat) (h : q ≤ 8) (R : List Sn) (x : Sn) : qsend (List.replicate q R) (nums q) x = List.replicate q (R ++ [x]) := by
  have : q = 0 ∨ q = 1 ∨ q = 2 ∨ q = 3 ∨ q = 4 ∨ q = 5 ∨ q = 6 ∨ q = 7 ∨ q = 8 := by omega
  rcases this with rfl | rfl | rfl | rfl | rfl | rfl | rfl | rfl | rfl <;> rfl
def qsAt (q c i : Nat) (R : List Sn) : List (List Sn) := (List.range q).map fun k => if k < c then [] else if k = c then R.drop i else R
theorem qsAt_len (q c i : Nat) (R : List Sn) : (qsAt q c i R).length = q := by simp [qsAt]
theorem qsAt_0 (q : Nat) (R : List Sn) : qsAt q 0 0 R = List.replicate q R := by
  unfold qsAt
  apply List.ext_getElem
  · simp
  · intro k h1 h2
    simp
theorem qsAt_next (q c : Nat) (R : List Sn) : qsAt q c R.length R = qsAt q (c + 1) 0 R := by
  unfold qsAt
  apply List.map_congr_left
  intro k _
  by_cases h1 : k < c
  · rw [if_pos h1, if_pos (by omega)]
  · by_cases h2 : k = c
    · rw [if_neg h1, if_pos h2, if_pos (by omega), List.drop_length]
    · rw [if_neg h1, if_neg h2, if_neg (by omega)]
      split <;> simp
theorem qsAt_get (q c i : Nat) (R : List Sn) (h : c < q) : (qsAt q c i R)[c]? = some (R.drop i) := by
  unfold qsAt
  rw [List.getElem?_map, List.getElem?_range h, Option.map_some, if_neg (by omega), if_pos rfl]
theorem qsAt_set (q c i : Nat) (R : List Sn) (h : c < q) : (qsAt q c i R).set c (R.drop (i + 1)) = qsAt q c (i + 1) R := by
  apply List.ext_getElem
  · simp [qsAt]
  · intro k h1 h2
    rw [List.getElem_set]
    simp only [qsAt, List.getElem_map, List.getElem_range]
    by_cases hk : c = k
    · subst hk; rw [if_pos rfl, if_neg (by omega), if_pos rfl]
    · rw [if_neg hk]
      split
      · rfl
      · rw [if_neg (by omega), if_neg (by omega)]
theorem qsAt_end (q : Nat) (R : List Sn) : isIdle (qsAt q q 0 R) = true := by
  unfold isIdle qsAt
  rw [List.all_eq_true]
  intro l hl
  obtain ⟨k, hk, rfl⟩ := List.mem_map.1 hl
  rw [if_pos (List.mem_range.1 hk)]; rfl
/-- The messages of the law's own, kept through what the calls write. -/
theorem own46_mv {w w' : World} {base B gw b : Nat} {vs : List Value} {lv v : Value} {qs : List (List Sn)} {left : List Int} {xs : List S35} (h : CA w base B gw vs lv qs left) (hR : Kd.R k35 46 w b (fun _ => True) v xs) (hm : Mv (ids B gw vs lv) w w') : Kd.R k35 46 w' b (fun _ => True) v xs := by
  refine Kd.R_mono (ok := fun k => True ∧ b ≤ k ∧ k < w.heap.size ∧ ∃ q, q ∈ 46 :: k35.E ∧ ∃ cells, w.heap[k]? = some (.cells cells q (0, 0))) ?_ (fun _ _ => trivial)
  refine Kd.R_step (Kd.R_bound hR) (fun k hk hlt => hm.block k hlt ?_)
  obtain ⟨_, _, _, q, hq, cells, hc⟩ := hk
  have : q = 46 := by
    rcases List.mem_cons.1 hq with h | h
    · exact h
    · cases h
  subst this
  exact not_ids h hc (by decide)
theorem info46 : (Try.prog.info? 46).map (fun i => (i.zero, i.size, i.bytes)) = some (some (.agg #[.int .i64 0, .int .i64 0, .int .u64 0]), 3, 24) := by kernel_rfl
set_option maxHeartbeats 8000000 in
set_option maxRecDepth 100000 in
theorem rows_calls (w : World) (cpus : Int) (A0 : Option Addr) (c0 : Nat) (xs : List S35) (hr0 : Kd.C k35 w A0 xs.length xs) (hc0 : xs.length ≤ c0) :
    Calls Try.prog 11 #[.int .i64 cpus, .slice A0 xs.length c0] w fun e w' => e = .returned (.bool true) ∧ Below w.heap.size w w' := by
  have HR := Aside0.mk hr0
  clear hr0
  obtain ⟨q, hq⟩ : ∃ q : Nat, (q : Int) = min (max cpus 1) 8 := ⟨(min (max cpus 1) 8).toNat, by omega⟩
  have hq1 : 1 ≤ q := by omega
  have hq8 : q ≤ 8 := by omega
  have hnew := new_calls w cpus q hq
  have HNEW := Aside0.mk hnew
  clear hnew hq
  go_enter Try.func11, Try.ntmps11
  go_wp2_with fail
  refine HNEW.out.mono ?_
  rintro e w1 ⟨B, gw, rfl, h1, hb1⟩
  have H1 : Aside0 (CA w1 w.heap.size B gw (List.replicate q (.slice none 0 0)) (.slice none 0 0) (List.replicate q (goM 0 ((xs.take 0).map msgOf))) (List.replicate 0 (q : Int))) := ⟨h1⟩
  have HB1 := Aside0.mk hb1
  clear h1 hb1 HNEW
  go_wp2_with fail
  go_loopw [6, 7] (fun ov iv wr => ∃ (i : Nat) (vs : List Value) (lv : Value), iv = .int .i64 i ∧ i ≤ xs.length ∧ i ≤ 10 ∧ Aside0 (CA wr w.heap.size B gw vs lv (List.replicate q (goM 0 ((xs.take i).map msgOf))) (List.replicate i (q : Int))) ∧ Aside0 (Kd.R k35 46 wr w.heap.size (fun _ => True) ov ((xs.take i).map msgOf)) ∧ Aside0 (Below w.heap.size w wr)) (fun _ iv _ => xs.length - (intOf iv).toNat)
  case atStart => exact ⟨0, _, _, rfl, by omega, by omega, H1, ⟨Kd.R_nil _ _ _ _ _⟩, HB1⟩
  case round =>
    clear H1 HB1
    obtain ⟨i, vs, lv, rfl, hi, hi10, H, HO, HB⟩ := hrel
    obtain ⟨A6, c6, hv6⟩ := Kd.R_slice HO.out
    subst hv6
    have hML : ((xs.take i).map msgOf).length = i := by rw [List.length_map, List.length_take]; omega
    by_cases hcond : (i : Int) < (xs.length : Int) ∧ (i : Int) < 10
    · obtain ⟨hil, hi9⟩ := hcond
      have hil' : i < xs.length := by omega
      have hi0 : (0 : Int) ≤ (i : Int) := by omega
      obtain ⟨p, hp⟩ : ∃ p, xs[i] = p := ⟨_, rfl⟩
      have hrd : rd_T35 xs i = p := by rw [← hp]; simp [rd_T35, List.getD_eq_getElem?_getD, List.getElem?_eq_getElem hil']
      obtain ⟨ad, ead, x0, x1, x2⟩ := at_T35 (Kd.C_below HR.out HB.out) i hi0 hil
      obtain ⟨ad', ead', y0, -, -⟩ := at_T35 HR.out i hi0 hil
      subst ead
      obtain rfl := Option.some.inj ead'
      have hlt : (ad.add (i * 3)).block < w.heap.size := by
        have := World.block_lt_of_cell? _ _ y0
        rwa [Int.toNat_natCast] at this
      rw [hrd, Int.toNat_natCast] at x0 x1 x2
      have htk : goM 0 ((xs.take (i + 1)).map msgOf) = goM 0 ((xs.take i).map msgOf) ++ [(packV (msgOf p).f0 (msgOf p).f1 (msgOf p).f2, (i : Int))] := by
        rw [List.take_succ_eq_append_getElem hil', hp, List.map_append, List.map_cons, List.map_nil, goM_snoc, hML, Nat.zero_add]
      have htk2 : (xs.take (i + 1)).map msgOf = (xs.take i).map msgOf ++ [msgOf p] := by
        rw [List.take_succ_eq_append_getElem hil', hp, List.map_append, List.map_cons, List.map_nil]
      have HTK := Aside0.mk htk
      have HTK2 := Aside0.mk htk2
      clear hp hrd htk htk2 y0 ead'
      go_wp2_with fail
      refine start_ (n := 13) (S := fun w' => w'.cell? ⟨(ad.add (i * 3)).block, (ad.add (i * 3)).off + 1, none⟩ = some (.int .i64 p.f1) ∧ w'.cell? ⟨(ad.add (i * 3)).block, (ad.add (i * 3)).off + 2, none⟩ = some (.int .u64 p.f2)) (ds := [12]) #[false, false, false, false, false, false, false, false, false, false, false, false, false] (by kernel_rfl) rfl rfl ⟨x1, x2⟩ (fun hHeld => ?_)
      refine pure_ (i := 0) (N := some 30) (v := ?_) (a' := ?_) #[true, false, false, false, false, false, false, false, false, false, false, false, false] rfl rfl (by kernel_rfl) (fun _ _ _ h => h) (Or.inl ⟨by rfl, ?_⟩) ?_ ?_
      rotate_left
      · intro w'
        go_simp
        with_reducible rfl
      rotate_left
      · simp only [Act.put, List.setIfInBounds_toArray, List.set_cons_zero, List.set_cons_succ, i64_w, i32_w]
        rfl
      refine pure_ (i := 1) (N := some 31) (v := ?_) (a' := ?_) #[true, true, false, false, false, false, false, false, false, false, false, false, false] rfl rfl (by kernel_rfl) (fun _ _ _ h => h) (Or.inl ⟨by rfl, ?_⟩) ?_ ?_
      rotate_left
      · intro w'
        go_simp
        with_reducible rfl
      rotate_left
      · simp only [Act.put, List.setIfInBounds_toArray, List.set_cons_zero, List.set_cons_succ, i64_w, i32_w]
        rfl
      refine pure_ (i := 2) (N := some 32) (v := ?_) (a' := ?_) #[true, true, true, false, false, false, false, false, false, false, false, false, false] rfl rfl (by kernel_rfl) (fun _ _ _ h => h) (Or.inl ⟨by rfl, ?_⟩) ?_ ?_
      rotate_left
      · intro w'
        go_simp
        with_reducible rfl
      rotate_left
      · simp only [Act.put, List.setIfInBounds_toArray, List.set_cons_zero, List.set_cons_succ, i64_w, i32_w]
        rfl
      refine pure_ (i := 3) (N := some 33) (v := ?_) (a' := ?_) #[true, true, true, true, false, false, false, false, false, false, false, false, false] rfl rfl (by kernel_rfl) (fun _ _ _ h => h) (Or.inl ⟨by rfl, ?_⟩) ?_ ?_
      rotate_left
      · intro w'
        go_simp
        with_reducible rfl
      rotate_left
      · simp only [Act.put, List.setIfInBounds_toArray, List.set_cons_zero, List.set_cons_succ, i64_w, i32_w]
        rfl
      refine pure_ (i := 5) (N := some 35) (v := ?_) (a' := ?_) #[true, true, true, true, false, true, false, false, false, false, false, false, false] rfl rfl (by kernel_rfl) (fun _ _ _ h => h) (Or.inl ⟨by rfl, ?_⟩) ?_ ?_
      rotate_left
      · intro w'
        go_simp
        with_reducible rfl
      rotate_left
      · simp only [Act.put, List.setIfInBounds_toArray, List.set_cons_zero, List.set_cons_succ, i64_w, i32_w]
        rfl
      refine pure_ (i := 6) (N := some 36) (v := ?_) (a' := ?_) #[true, true, true, true, false, true, true, false, false, false, false, false, false] rfl rfl (by kernel_rfl) (fun _ _ _ h => h) (Or.inl ⟨by rfl, ?_⟩) ?_ ?_
      rotate_left
      · intro w'
        go_simp
        with_reducible rfl
      rotate_left
      · simp only [Act.put, List.setIfInBounds_toArray, List.set_cons_zero, List.set_cons_succ, i64_w, i32_w]
        rfl
      refine pure_ (i := 7) (N := some 37) (v := ?_) (a' := ?_) #[true, true, true, true, false, true, true, true, false, false, false, false, false] rfl rfl (by kernel_rfl) (fun _ _ _ h => h) (Or.inl ⟨by rfl, ?_⟩) ?_ ?_
      rotate_left
      · intro w'
        go_simp
        with_reducible rfl
      rotate_left
      · simp only [Act.put, List.setIfInBounds_toArray, List.set_cons_zero, List.set_cons_succ, i64_w, i32_w]
        rfl
      refine pure_ (i := 8) (N := some 38) (v := ?_) (a' := ?_) #[true, true, true, true, false, true, true, true, true, false, false, false, false] rfl rfl (by kernel_rfl) (fun _ _ _ h => h) (Or.inl ⟨by rfl, ?_⟩) ?_ ?_
      rotate_left
      · intro w'
        go_simp
        with_reducible rfl
      rotate_left
      · simp only [Act.put, List.setIfInBounds_toArray, List.set_cons_zero, List.set_cons_succ, i64_w, i32_w]
        rfl
      refine take_ (i := 4) (N := some 34) (v := ?_) (a' := ?_) #[true, true, true, true, true, true, true, true, true, false, false, false, false] rfl rfl (by kernel_rfl) (fun _ _ _ h => h) (Or.inl ⟨by rfl, ?_⟩) hHeld ?_ ?_
      rotate_left
      · rintro w' ⟨s0, s1⟩
        go_simp
        with_reducible rfl
      rotate_left
      · simp only [Act.put, List.setIfInBounds_toArray, List.set_cons_zero, List.set_cons_succ, i64_w, i32_w]
        rfl
      refine take_ (i := 9) (N := some 39) (v := ?_) (a' := ?_) #[true, true, true, true, true, true, true, true, true, true, false, false, false] rfl rfl (by kernel_rfl) (fun _ _ _ h => h) (Or.inl ⟨by rfl, ?_⟩) hHeld ?_ ?_
      rotate_left
      · rintro w' ⟨s0, s1⟩
        go_simp
        with_reducible rfl
      rotate_left
      · simp only [Act.put, List.setIfInBounds_toArray, List.set_cons_zero, List.set_cons_succ, i64_w, i32_w]
        rfl
      refine pure_ (i := 10) (N := some 40) (v := ?_) (a' := ?_) #[true, true, true, true, true, true, true, true, true, true, true, false, false] rfl rfl (by kernel_rfl) (fun _ _ _ h => h) (Or.inl ⟨by rfl, ?_⟩) ?_ ?_
      rotate_left
      · intro w'
        go_simp
        with_reducible rfl
      rotate_left
      · simp only [Act.put, List.setIfInBounds_toArray, List.set_cons_zero, List.set_cons_succ, i64_w, i32_w]
        rfl
      refine one_ (i := 11) (N := some 8) #[true, true, true, true, true, true, true, true, true, true, true, true, false] rfl rfl (by kernel_rfl) (by decide) (fun K hK => ?_)
      refine value_ (v := .pointer (some ⟨wr.heap.size, 0, none⟩)) (w1 := wr.drew.alloc (.cells #[.int .i64 0, .int .i64 0, .int .u64 0] 46)) (by rfl) rfl ?_ ?_
      · go_simp
      have hb := (Below.refl wr.drew.heap.size wr.drew).alloc (Nat.le_refl _) (.cells #[.int .i64 0, .int .i64 0, .int .u64 0] 46)
      have hg := blk_new wr.drew (.cells #[.int .i64 0, .int .i64 0, .int .u64 0] 46)
      obtain ⟨s0, s1⟩ := hHeld
      refine hK.out _ _ ⟨(hb.cell (World.block_lt_of_cell? _ _ s0)).trans s0, (hb.cell (World.block_lt_of_cell? _ _ s1)).trans s1⟩ (fun hHeld => ?_)
      clear hK K
      refine norm_ (a' := ?_) ?_ ?_
      rotate_left
      · show Act.put _ (some 8) _ = _
        simp only [Act.put, List.setIfInBounds_toArray, List.set_cons_zero, List.set_cons_succ, i64_w, i32_w]
        rfl
      refine last_ (i := 12) (N := none) #[true, true, true, true, true, true, true, true, true, true, true, true, true] rfl rfl (by kernel_rfl) (by decide) (fun K hK => ?_)
      have r0 := (blk_cell hg 0).trans rfl
      have r1 := (blk_cell hg 1).trans rfl
      have r2 := (blk_cell hg 2).trans rfl
      have f0 := blk_frozen hg 0
      have f1 := blk_frozen hg 1
      have f2 := blk_frozen hg 2
      refine skip_ (w1 := ?_) (by rfl) rfl ?_ ?_
      rotate_left
      · go_simp
        with_reducible rfl
      refine hK.out _ _ ?_
      clear hK K
      refine done_ (by kernel_rfl) ?_
      have hOlt : ∀ k, (Value.slice A6 ((xs.take i).map msgOf).length c6).ownBlock = some k → k < wr.heap.size := Kd.R_lt HO.out
      have hb2 := ((Below.refl wr.heap.size wr).alloc (Nat.le_refl _) (.cells #[.int .i64 0, .int .i64 p.f1, .int .u64 p.f2] 46)).drew
      have hk2 : (wr.alloc (.cells #[.int .i64 0, .int .i64 p.f1, .int .u64 p.f2] 46)).drew.heap[wr.heap.size]? = some (.cells #[.int .i64 0, .int .i64 p.f1, .int .u64 p.f2] 46 (0, 0)) := blk_new wr _
      have z0 := (hb2.cell (World.block_lt_of_cell? _ _ x0)).trans x0
      have z1 := (hb2.cell (World.block_lt_of_cell? _ _ x1)).trans x1
      have h2 := H.out.below hb2
      have hO2 := Kd.R_below HO.out hb2
      have hB2 := HB.out.trans (hb2.mono HB.out.size)
      have hgm : w.heap.size ≤ wr.heap.size := HB.out.size
      clear hHeld hb hg s0 s1 r0 r1 r2 f0 f1 f2 hb2 x0 x1 x2 H HO HB
      generalize (wr.alloc (.cells #[.int .i64 0, .int .i64 p.f1, .int .u64 p.f2] 46)).drew = w2 at *
      generalize wr.heap.size = gm at *
      (try simp only [Exit.inBlock, Exit.then])
      by_cases hk : Int.tmod p.f0 2 = 0
      case' pos =>
        have hM : msgOf p = ⟨0, p.f1, p.f2⟩ := by unfold msgOf; rw [if_pos hk]
        have hkb : (Int.tmod p.f0 2 == 0) = true := beq_iff_eq.2 hk
        have H3 := Aside0.mk h2
        have HO3 := Aside0.mk hO2
        have HB3 := Aside0.mk hB2
        have HK3 : Aside0 (w2.heap[gm]? = some (.cells #[.int .i64 (msgOf p).f0, .int .i64 (msgOf p).f1, .int .u64 (msgOf p).f2] 46 (0, 0))) := ⟨by rw [hM]; exact hk2⟩
        clear h2 hO2 hB2 hM hk2
        go_wp2_with fail
        clear z0 z1 hkb hk
        generalize w2 = w3 at *
      case' neg =>
        have hM : msgOf p = ⟨1, p.f1, 0⟩ := by unfold msgOf; rw [if_neg hk]
        have hkb : (Int.tmod p.f0 2 == 0) = false := beq_eq_false_iff_ne.2 hk
        have y0 := (blk_cell hk2 0).trans rfl
        have y1 := (blk_cell hk2 1).trans rfl
        have y2 := (blk_cell hk2 2).trans rfl
        have f := blk_frozen hk2
        have hni := not_ids h2 hk2 (by decide)
        have hne : ∀ k ∈ CallK.ids B gw vs lv, k ≠ gm := fun k hm e => hni (e ▸ hm)
        have HK3 : Aside0 ((((w2.setCell ⟨gm, 0, none⟩ (.int .i64 1)).setCell ⟨gm, 1, none⟩ (.int .i64 p.f1)).setCell ⟨gm, 2, none⟩ (.int .u64 0)).heap[gm]? = some (.cells #[.int .i64 (msgOf p).f0, .int .i64 (msgOf p).f1, .int .u64 (msgOf p).f2] 46 (0, 0))) := ⟨by rw [hM]; exact blk_put (blk_put (blk_put hk2 0 (.int .i64 1) rfl) 1 (.int .i64 p.f1) rfl) 2 (.int .u64 0) rfl⟩
        have H3 := Aside0.mk (h2.step (w' := (((w2.setCell ⟨gm, 0, none⟩ (.int .i64 1)).setCell ⟨gm, 1, none⟩ (.int .i64 p.f1)).setCell ⟨gm, 2, none⟩ (.int .u64 0))) (fun k hm => (Below.heap_setCell _ _ _ k (hne k hm)).trans ((Below.heap_setCell _ _ _ k (hne k hm)).trans (Below.heap_setCell _ _ _ k (hne k hm)))))
        have hRt := Kd.R_tight rfl hO2
        have hRn : ∀ k, some k = (Value.slice A6 ((xs.take i).map msgOf).length c6).ownBlock → k ≠ gm := fun k he => Nat.ne_of_lt (hOlt k he.symm)
        have HO3 := Aside0.mk (Kd.R_mono (ok' := fun _ => True) (Kd.R_far (p := ⟨gm, 2, none⟩) (Kd.R_far (p := ⟨gm, 1, none⟩) (Kd.R_far (p := ⟨gm, 0, none⟩) hRt hRn (.int .i64 1)) hRn (.int .i64 p.f1)) hRn (.int .u64 0)) (fun _ _ => trivial))
        have HB3 := Aside0.mk (((hB2.setCell (p := ⟨gm, 0, none⟩) hgm (.int .i64 1)).setCell (p := ⟨gm, 1, none⟩) hgm (.int .i64 p.f1)).setCell (p := ⟨gm, 2, none⟩) hgm (.int .u64 0))
        clear h2 hO2 hB2 hM hRt hRn hne
        go_wp2_with fail
        clear z0 z1 hkb hk hk2 y0 y1 y2 f hni
        generalize (((w2.setCell ⟨gm, 0, none⟩ (.int .i64 1)).setCell ⟨gm, 1, none⟩ (.int .i64 p.f1)).setCell ⟨gm, 2, none⟩ (.int .u64 0)) = w3 at *
      all_goals
        have hok := msg_ok p
        have hokb := msg_okB p
        generalize msgOf p = M at HTK HTK2 HK3 hok hokb
        have herr := nums_err q hq8 M.f0 M.f2 hokb
        clear hokb
        have HOK := Aside0.mk hok
        have HERR := Aside0.mk herr
        clear hok herr
        obtain ⟨y0, y1, y2⟩ : w3.cell? ⟨gm, 0, none⟩ = some (.int .i64 M.f0) ∧ w3.cell? ⟨gm, 1, none⟩ = some (.int .i64 M.f1) ∧ w3.cell? ⟨gm, 2, none⟩ = some (.int .u64 M.f2) := ⟨(blk_cell HK3.out 0).trans rfl, (blk_cell HK3.out 1).trans rfl, (blk_cell HK3.out 2).trans rfl⟩
        have hlt3 := CA_ids_lt H3.out
        have HLT3 := Aside0.mk hlt3
        have hQ : ((goM 0 ((xs.take i).map msgOf)).length) ≤ 1000 := by rw [goM_len, hML]; omega
        clear hlt3
        refine start_ (n := 10) (S := fun w' => w'.cell? ⟨gm, 0, none⟩ = some (.int .i64 M.f0) ∧ w'.cell? ⟨gm, 1, none⟩ = some (.int .i64 M.f1) ∧ w'.cell? ⟨gm, 2, none⟩ = some (.int .u64 M.f2)) (ds := []) #[false, false, false, false, false, false, false, false, false, false] (by kernel_rfl) rfl rfl ⟨y0, y1, y2⟩ (fun hHeld => ?_)
        refine pure_ (i := 0) (N := some 55) (v := ?_) (a' := ?_) #[true, false, false, false, false, false, false, false, false, false] rfl rfl (by kernel_rfl) (fun _ _ _ h => h) (Or.inl ⟨by rfl, ?_⟩) ?_ ?_
        rotate_left
        · intro w'
          go_simp
          with_reducible rfl
        rotate_left
        · simp only [Act.put, List.setIfInBounds_toArray, List.set_cons_zero, List.set_cons_succ, i64_w, i32_w]
          rfl
        refine pure_ (i := 2) (N := some 57) (v := ?_) (a' := ?_) #[true, false, true, false, false, false, false, false, false, false] rfl rfl (by kernel_rfl) (fun _ _ _ h => h) (Or.inl ⟨by rfl, ?_⟩) ?_ ?_
        rotate_left
        · intro w'
          go_simp
          with_reducible rfl
        rotate_left
        · simp only [Act.put, List.setIfInBounds_toArray, List.set_cons_zero, List.set_cons_succ, i64_w, i32_w]
          rfl
        refine take_ (i := 1) (N := some 56) (v := ?_) (a' := ?_) #[true, true, true, false, false, false, false, false, false, false] rfl rfl (by kernel_rfl) (fun _ _ _ h => h) (Or.inl ⟨by rfl, ?_⟩) hHeld ?_ ?_
        rotate_left
        · rintro w' ⟨s0, s1, s2⟩
          go_simp
          with_reducible rfl
        rotate_left
        · simp only [Act.put, List.setIfInBounds_toArray, List.set_cons_zero, List.set_cons_succ, i64_w, i32_w]
          rfl
        refine one_ (i := 3) (N := some 58) #[true, true, true, true, false, false, false, false, false, false] rfl rfl (by kernel_rfl) (by decide) (fun K hK => ?_)
        refine goes_ Try.func45 (by kernel_rfl) rfl #[.pointer (some ⟨B, 0, none⟩), .int .i64 (-1)] (by rfl) rfl rfl (by (try simp only [List.map_toArray, List.map_cons, List.map_nil]); first | done | rfl) ?_
        refine (others_calls (H3.out.below (Below.refl _ w3).drew) (-1)).mono ?_
        rintro e w4 ⟨v4, rfl, hO4, hb4⟩
        rw [List.length_replicate, others_all] at hO4
        obtain ⟨A4, c4, hv4, hc4, hC4⟩ := Kd.R_reads hO4
        subst hv4
        refine ⟨_, rfl, ?_⟩
        obtain ⟨s0, s1, s2⟩ := hHeld
        have hb4' : Below w3.heap.size w3 w4 := (Below.refl _ w3).drew.trans hb4
        refine hK.out _ _ ⟨(hb4.cell (World.block_lt_of_cell? _ _ s0)).trans s0, (hb4.cell (World.block_lt_of_cell? _ _ s1)).trans s1, (hb4.cell (World.block_lt_of_cell? _ _ s2)).trans s2⟩ (fun hHeld => ?_)
        clear hK K
        refine norm_ (a' := ?_) ?_ ?_
        rotate_left
        · show Act.put _ (some 58) _ = _
          simp only [Act.put, List.setIfInBounds_toArray, List.set_cons_zero, List.set_cons_succ, i64_w, i32_w]
          rfl
        refine one_ (i := 4) (N := some 59) #[true, true, true, true, true, false, false, false, false, false] rfl rfl (by kernel_rfl) (by decide) (fun K hK => ?_)
        refine goes_ Try.func24 (by kernel_rfl) rfl #[.pointer (some ⟨B, 0, none⟩), .agg #[.int .i64 M.f0, .int .i64 M.f1, .int .u64 M.f2], .slice A4 (nums q).length c4] (by rfl) rfl rfl (by (try simp only [List.map_toArray, List.map_cons, List.map_nil]); first | done | rfl) ?_
        have hsend := send_calls (H3.out.below hb4') M.f0 M.f1 M.f2 A4 c4 (nums q) hc4 (fun w' hm => by
          obtain ⟨A7, c7, hv7, hc7, hC7⟩ := Kd.R_reads (Kd.R_step (Kd.R_bound hO4) (fun k hk hlt => hm.block k hlt (fun hmem => by
            have h1 := HLT3.out k hmem
            have h2 : w3.drew.heap.size ≤ k := hk.2.1
            exact absurd h1 (Nat.not_lt.2 h2))))
          injection hv7 with ha7 _ hcc7
          subst ha7
          exact hC7) (by rw [nums_len]; omega) (fun l hl => by rw [List.eq_of_mem_replicate hl]; exact hQ) (by simp; omega) (Nat.le_trans HB3.out.size hb4'.size)
        rw [List.length_replicate, HERR.out] at hsend
        refine hsend.mono ?_
        rintro e w5 ⟨_, h5⟩
        obtain ⟨rfl, vs5, lv5, h5, hm5, hi5⟩ := h5 (by trivial)
        refine ⟨_, rfl, ?_⟩
        obtain ⟨s0, s1, s2⟩ := hHeld
        have hni : gm ∉ CallK.ids B gw vs lv := not_ids H3.out HK3.out (by decide)
        refine hK.out _ _ ⟨cell_mv hm5 s0 hni, cell_mv hm5 s1 hni, cell_mv hm5 s2 hni⟩ (fun hHeld => ?_)
        clear hK K
        refine norm_ (a' := ?_) ?_ ?_
        rotate_left
        · show Act.put _ (some 59) _ = _
          simp only [Act.put, List.setIfInBounds_toArray, List.set_cons_zero, List.set_cons_succ, i64_w, i32_w]
          rfl
        refine pure_ (i := 5) (N := some 54) (v := ?_) (a' := ?_) #[true, true, true, true, true, true, false, false, false, false] rfl rfl (by kernel_rfl) (fun _ _ _ h => h) (Or.inl ⟨by rfl, ?_⟩) ?_ ?_
        rotate_left
        · intro w'
          go_simp
          with_reducible rfl
        rotate_left
        · simp only [Act.put, List.setIfInBounds_toArray, List.set_cons_zero, List.set_cons_succ, i64_w, i32_w]
          rfl
        refine pure_ (i := 6) (N := some 60) (v := ?_) (a' := ?_) #[true, true, true, true, true, true, true, false, false, false] rfl rfl (by kernel_rfl) (fun _ _ _ h => h) (Or.inl ⟨by rfl, ?_⟩) ?_ ?_
        rotate_left
        · intro w'
          go_simp
          with_reducible rfl
        rotate_left
        · simp only [Act.put, List.setIfInBounds_toArray, List.set_cons_zero, List.set_cons_succ, i64_w, i32_w]
          rfl
        refine pure_ (i := 7) (N := some 61) (v := ?_) (a' := ?_) #[true, true, true, true, true, true, true, true, false, false] rfl rfl (by kernel_rfl) (fun _ _ _ h => h) (Or.inl ⟨by rfl, ?_⟩) ?_ ?_
        rotate_left
        · intro w'
          go_simp
          with_reducible rfl
        rotate_left
        · simp only [Act.put, List.setIfInBounds_toArray, List.set_cons_zero, List.set_cons_succ, i64_w, i32_w]
          rfl
        refine pure_ (i := 8) (N := some 9) (v := ?_) (a' := ?_) #[true, true, true, true, true, true, true, true, true, false] rfl rfl (by kernel_rfl) (fun _ _ _ h => h) (Or.inl ⟨by rfl, ?_⟩) ?_ ?_
        rotate_left
        · intro w'
          go_simp
          with_reducible rfl
        rotate_left
        · simp only [Act.put, List.setIfInBounds_toArray, List.set_cons_zero, List.set_cons_succ, i64_w, i32_w]
          rfl
        refine pure_ (i := 9) (N := some 10) (v := ?_) (a' := ?_) #[true, true, true, true, true, true, true, true, true, true] rfl rfl (by kernel_rfl) (fun _ _ _ h => h) (Or.inl ⟨by rfl, ?_⟩) ?_ ?_
        rotate_left
        · intro w'
          go_simp
          with_reducible rfl
        rotate_left
        · simp only [Act.put, List.setIfInBounds_toArray, List.set_cons_zero, List.set_cons_succ, i64_w, i32_w]
          rfl
        refine done_ (by kernel_rfl) ?_
        rw [nums_send q hq8, List.length_replicate, ← HTK.out, nums_len] at h5
        rw [← List.replicate_succ'] at h5
        have hO5 := own46_mv (H3.out.below hb4') (Kd.R_below HO3.out hb4') hm5
        have hB5 : Below w.heap.size w w5 := (HB3.out.trans (hb4'.mono HB3.out.size)).trans (hm5.below (Nat.le_trans HB3.out.size hb4'.size) (ids_ge (H3.out.below hb4')))
        have hk5 := (hm5.block gm (blk_lt (blk_below HK3.out hb4')) hni).trans (blk_below HK3.out hb4')
        have H5 := Aside0.mk h5
        have HO5 := Aside0.mk hO5
        have HB5 := Aside0.mk hB5
        have HK5 := Aside0.mk hk5
        clear h5 hO5 hB5 hk5 hm5 hi5 hHeld s0 s1 s2 hsend hO4 hC4 hb4 hb4' hni y0 y1 y2 H3 HO3 HB3 HK3 HLT3 HERR hOlt hgm hQ hc4
        obtain ⟨z0, z1, z2⟩ : w5.cell? ⟨gm, 0, none⟩ = some (.int .i64 M.f0) ∧ w5.cell? ⟨gm, 1, none⟩ = some (.int .i64 M.f1) ∧ w5.cell? ⟨gm, 2, none⟩ = some (.int .u64 M.f2) := ⟨(blk_cell HK5.out 0).trans rfl, (blk_cell HK5.out 1).trans rfl, (blk_cell HK5.out 2).trans rfl⟩
        obtain ⟨L, hL⟩ : ∃ L, (xs.take i).map msgOf = L := ⟨_, rfl⟩
        rw [hL] at hML HTK2 HO5 ⊢
        have HLE := Aside0.mk hL
        clear hL
        (try simp only [Exit.inBlock, Exit.then])
        go_wp2_with (first | ((with_reducible refine gate_builtin (b := .append) (xs := #[.tmp 69, .tmp 71]) rfl ?_); at_builtin; refine Kd.R_append k35 (w0 := w) w.heap.size rfl (.tmp 69) (.tmp 71) 85 46 (.agg #[.int .i64 0, .int .i64 0, .int .u64 0]) 24 rfl Try.underlying85 info46 rfl (by decide) (by omega) (.slice A6 L.length c6) L M [.int .i64 M.f0, .int .i64 M.f1, .int .u64 M.f2] (fun _ => True) (fun _ => False) rfl rfl ?aP (fun _ hk => hk.elim) ?aF ?aO ?aB ?aS ?aL ?_; (case aP => exact k35_mkM _ _ _ M); (case aB => exact HB5.out); (case aF => exact (fun _ _ => trivial)); (case aO => exact HO5.out); (case aS => exact HB5.out.size); (case aL => omega); intro v6 w6 ho6 hb6 hg6 hat6))
        go_roundw
        case rel =>
          have h6 := H5.out.step (w' := w6) (fun k hk => hg6.block k ((H5.out.typed hk).2) (fun e => by
            obtain ⟨cells, hc⟩ := Kd.R_typed HO5.out k e.symm
            exact not_ids H5.out hc (by decide) hk))
          exact ⟨i + 1, vs5, lv5, by go_num, by omega, by omega, ⟨h6⟩, ⟨by rw [HTK2.out]; exact ho6⟩, ⟨hb6⟩⟩
        case measure => simp [intOf]; omega
    · have hex : ¬ (i : Int) < (xs.length : Int) ∨ ((i : Int) < (xs.length : Int) ∧ ¬ (i : Int) < 10) := by omega
      clear hcond
      obtain ⟨L, hL⟩ : ∃ L, (xs.take i).map msgOf = L := ⟨_, rfl⟩
      have hokL : ∀ p ∈ L, Ok p.f0 p.f1 p.f2 := fun p hp => by
        rw [← hL] at hp
        obtain ⟨x, _, rfl⟩ := List.mem_map.1 hp
        exact msg_ok x
      rw [hL] at hML H HO ⊢
      have HOKL := Aside0.mk hokL
      clear hL hokL
      obtain ⟨R, hR⟩ : ∃ R, goM 0 L = R := ⟨_, rfl⟩
      have hRL : R.length = L.length := by rw [← hR, goM_len]
      rw [hR] at H
      have HRE := Aside0.mk hR
      have HRL := Aside0.mk hRL
      have HQ0 : Aside0 (CA wr w.heap.size B gw vs lv (qsAt q 0 0 R) (List.replicate L.length ((q : Int) - ((0 : Nat) : Int)))) := ⟨by rw [qsAt_0, hML]; simpa using H.out⟩
      have hL10 : L.length ≤ 10 := by omega
      clear hR hRL H
      rcases hex with hl | ⟨hl, h10⟩
      all_goals
        clear hML
        go_wp2_with fail
        go_loopw [11] (fun cv wr => ∃ (c : Nat) (vs : List Value) (lv : Value), cv = .int .i64 c ∧ c ≤ q ∧ Aside0 (CA wr w.heap.size B gw vs lv (qsAt q c 0 R) (List.replicate L.length ((q : Int) - (c : Int)))) ∧ Aside0 (Kd.R k35 46 wr w.heap.size (fun _ => True) (.slice A6 L.length c6) L) ∧ Aside0 (Below w.heap.size w wr)) (fun cv _ => q - (intOf cv).toNat)
        case atStart => exact ⟨0, vs, lv, rfl, by omega, HQ0, HO, HB⟩
        case round =>
          clear HQ0 HO HB
          obtain ⟨c, vs, lv, rfl, hc, H, HO, HB⟩ := hrel
          go_wp2_with fail
          refine (cpus_calls H.out).mono ?_
          rintro e w2 ⟨rfl, rfl⟩
          rw [qsAt_len]
          by_cases hcq : (c : Int) < (q : Int)
          · have hcq' : c < q := by omega
            have HI : Aside0 (CA w2 w.heap.size B gw vs lv (qsAt q c 0 R) (List.replicate 0 ((q : Int) - (c : Int) - 1) ++ List.replicate (L.length - 0) ((q : Int) - (c : Int)))) := ⟨by simpa using H.out⟩
            clear H
            go_wp2_with fail
            go_loopw [12] (fun jv wr => ∃ (j : Nat) (vs : List Value) (lv : Value), jv = .int .i64 j ∧ j ≤ L.length ∧ Aside0 (CA wr w.heap.size B gw vs lv (qsAt q c j R) (List.replicate j ((q : Int) - (c : Int) - 1) ++ List.replicate (L.length - j) ((q : Int) - (c : Int)))) ∧ Aside0 (Kd.R k35 46 wr w.heap.size (fun _ => True) (.slice A6 L.length c6) L) ∧ Aside0 (Below w.heap.size w wr)) (fun jv _ => L.length - (intOf jv).toNat)
            case atStart => exact ⟨0, vs, lv, rfl, by omega, HI, HO, HB⟩
            case round =>
              clear HI HO HB
              obtain ⟨j, vs, lv, rfl, hj, H, HO, HB⟩ := hrel
              by_cases hjl : (j : Int) < (L.length : Int)
              · have hjl' : j < L.length := by omega
                have hj0 : (0 : Int) ≤ (j : Int) := by omega
                obtain ⟨p, hp⟩ : ∃ p, L[j] = p := ⟨_, rfl⟩
                have hok := HOKL.out p (hp ▸ List.getElem_mem hjl')
                have hdr : R.drop j = (packV p.f0 p.f1 p.f2, (j : Int)) :: R.drop (j + 1) := by
                  rw [← HRE.out, goM_drop, goM_drop, List.drop_eq_getElem_cons hjl', hp, goM, Nat.zero_add, Nat.zero_add]
                have hqg := qsAt_get q c j R hcq'
                rw [hdr] at hqg
                have hlg : (List.replicate j ((q : Int) - (c : Int) - 1) ++ List.replicate (L.length - j) ((q : Int) - (c : Int)))[j]? = some ((q : Int) - (c : Int)) := by
                  rw [List.getElem?_append_right (by simp), List.length_replicate, Nat.sub_self, List.getElem?_replicate, if_pos (by omega)]
                have hls : (List.replicate j ((q : Int) - (c : Int) - 1) ++ List.replicate (L.length - j) ((q : Int) - (c : Int))).set j ((q : Int) - (c : Int) - 1) = List.replicate (j + 1) ((q : Int) - (c : Int) - 1) ++ List.replicate (L.length - (j + 1)) ((q : Int) - (c : Int)) := by
                  rw [List.set_append_right _ _ (by simp), List.length_replicate, Nat.sub_self, show L.length - j = (L.length - (j + 1)) + 1 by omega, List.replicate_succ (n := L.length - (j + 1)), List.set_cons_zero, List.replicate_succ' (n := j), List.append_assoc]
                  rfl
                have HOKP := Aside0.mk hok
                have HQG := Aside0.mk hqg
                have HLG := Aside0.mk hlg
                have HLS := Aside0.mk hls
                have HP := Aside0.mk hp
                clear hok hdr hqg hlg hls hp
                go_wp2_with fail
                refine (take_some H.out c p.f0 p.f1 p.f2 j _ HQG.out HOKP.out _ HLG.out (by omega)).mono ?_
                rintro e w4 ⟨rfl, vs4, h4, hm4, hi4⟩
                rw [qsAt_set q c j R hcq', HLS.out] at h4
                have hb5 := (Below.refl w4.heap.size w4).alloc (Nat.le_refl _) (.cells #[.int .i64 p.f0, .int .i64 p.f1, .int .u64 p.f2] 46)
                have hk5 := blk_new w4 (.cells #[.int .i64 p.f0, .int .i64 p.f1, .int .u64 p.f2] 46)
                have H5 := Aside0.mk (h4.below hb5)
                have HO5 := Aside0.mk (Kd.R_below (own46_mv H.out HO.out hm4) hb5)
                have hB4 := HB.out.trans (hm4.below HB.out.size (ids_ge H.out))
                have HB5 := Aside0.mk (hB4.trans (hb5.mono hB4.size))
                have hlf : lefts (List.replicate (j + 1) ((q : Int) - (c : Int) - 1) ++ List.replicate (L.length - (j + 1)) ((q : Int) - (c : Int))) (j : Int) = (q : Int) - (c : Int) - 1 := by
                  unfold lefts
                  rw [if_pos hj0, Int.toNat_natCast, List.getD_eq_getElem?_getD, List.getElem?_append_left (by simp), List.getElem?_replicate, if_pos (by omega)]; rfl
                obtain ⟨A7, c7, hv7, hc7, hC7⟩ := Kd.R_reads HO5.out
                injection hv7 with ha7 _ hcc7
                subst ha7 hcc7
                obtain ⟨ad, ead, x0, x1, x2⟩ := at_T35 hC7 j hj0 hjl
                subst ead
                have hrd : rd_T35 L j = p := by rw [← HP.out]; simp [rd_T35, List.getD_eq_getElem?_getD, List.getElem?_eq_getElem hjl']
                rw [hrd, Int.toNat_natCast] at x0 x1 x2
                obtain ⟨y0, y1, y2⟩ : (w4.alloc (.cells #[.int .i64 p.f0, .int .i64 p.f1, .int .u64 p.f2] 46)).cell? ⟨w4.heap.size, 0, none⟩ = some (.int .i64 p.f0) ∧ (w4.alloc (.cells #[.int .i64 p.f0, .int .i64 p.f1, .int .u64 p.f2] 46)).cell? ⟨w4.heap.size, 1, none⟩ = some (.int .i64 p.f1) ∧ (w4.alloc (.cells #[.int .i64 p.f0, .int .i64 p.f1, .int .u64 p.f2] 46)).cell? ⟨w4.heap.size, 2, none⟩ = some (.int .u64 p.f2) := ⟨(blk_cell hk5 0).trans rfl, (blk_cell hk5 1).trans rfl, (blk_cell hk5 2).trans rfl⟩
                have HLF := Aside0.mk hlf
                clear h4 hm4 hi4 hb5 hk5 H HO HB hB4 hlf hrd hC7 HP HLS HLG HQG HOKP
                go_wp2_with fail
                generalize w4.alloc (.cells #[.int .i64 p.f0, .int .i64 p.f1, .int .u64 p.f2] 46) = w5 at *
                generalize w4.heap.size = g5 at *
                obtain ⟨q1, hq1e⟩ : ∃ q1 : Int, wrap64 ((q : Int) - 1) = q1 ∧ q1 = (q : Int) - 1 := ⟨_, rfl, by unfold wrap64; omega⟩
                obtain ⟨zz, hzz1, hzz2⟩ : ∃ zz : Int, wrap64 (q1 - (c : Int)) = zz ∧ (q : Int) - (c : Int) - 1 = zz := ⟨_, rfl, by rw [hq1e.2]; unfold wrap64; omega⟩
                obtain ⟨hq1e, -⟩ := hq1e
                rw [hzz2] at HLF H5
                have HZZ := Aside0.mk hzz2
                clear hzz2
                refine start_ (n := 26) (S := fun w' => w'.cell? ⟨g5, 0, none⟩ = some (.int .i64 p.f0) ∧ w'.cell? ⟨g5, 1, none⟩ = some (.int .i64 p.f1) ∧ w'.cell? ⟨g5, 2, none⟩ = some (.int .u64 p.f2) ∧ w'.cell? (ad.add (j * 3)) = some (.int .i64 p.f0) ∧ w'.cell? ⟨(ad.add (j * 3)).block, (ad.add (j * 3)).off + 1, none⟩ = some (.int .i64 p.f1) ∧ w'.cell? ⟨(ad.add (j * 3)).block, (ad.add (j * 3)).off + 2, none⟩ = some (.int .u64 p.f2)) (ds := []) #[false, false, false, false, false, false, false, false, false, false, false, false, false, false, false, false, false, false, false, false, false, false, false, false, false, false] (by kernel_rfl) rfl rfl ⟨y0, y1, y2, x0, x1, x2⟩ (fun hHeld => ?_)
                refine pure_ (i := 1) (N := some 93) (v := ?_) (a' := ?_) #[false, true, false, false, false, false, false, false, false, false, false, false, false, false, false, false, false, false, false, false, false, false, false, false, false, false] rfl rfl (by kernel_rfl) (fun _ _ _ h => h) (Or.inl ⟨by rfl, ?_⟩) ?_ ?_
                rotate_left
                · intro w'
                  go_simp
                  with_reducible rfl
                rotate_left
                · simp only [Act.put, List.setIfInBounds_toArray, List.set_cons_zero, List.set_cons_succ, i64_w, i32_w]
                  rfl
                refine pure_ (i := 2) (N := some 94) (v := ?_) (a' := ?_) #[false, true, true, false, false, false, false, false, false, false, false, false, false, false, false, false, false, false, false, false, false, false, false, false, false, false] rfl rfl (by kernel_rfl) (fun _ _ _ h => h) (Or.inl ⟨by rfl, ?_⟩) ?_ ?_
                rotate_left
                · intro w'
                  go_simp
                  with_reducible rfl
                rotate_left
                · simp only [Act.put, List.setIfInBounds_toArray, List.set_cons_zero, List.set_cons_succ, i64_w, i32_w]
                  rfl
                refine pure_ (i := 3) (N := some 95) (v := ?_) (a' := ?_) #[false, true, true, true, false, false, false, false, false, false, false, false, false, false, false, false, false, false, false, false, false, false, false, false, false, false] rfl rfl (by kernel_rfl) (fun _ _ _ h => h) (Or.inl ⟨by rfl, ?_⟩) ?_ ?_
                rotate_left
                · intro w'
                  go_simp
                  with_reducible rfl
                rotate_left
                · simp only [Act.put, List.setIfInBounds_toArray, List.set_cons_zero, List.set_cons_succ, i64_w, i32_w]
                  rfl
                refine take_ (i := 0) (N := some 92) (v := ?_) (a' := ?_) #[true, true, true, true, false, false, false, false, false, false, false, false, false, false, false, false, false, false, false, false, false, false, false, false, false, false] rfl rfl (by kernel_rfl) (fun _ _ _ h => h) (Or.inl ⟨by rfl, ?_⟩) hHeld ?_ ?_
                rotate_left
                · rintro w' ⟨s0, s1, s2, s3, s4, s5⟩
                  go_simp
                  with_reducible rfl
                rotate_left
                · simp only [Act.put, List.setIfInBounds_toArray, List.set_cons_zero, List.set_cons_succ, i64_w, i32_w]
                  rfl
                refine take_ (i := 4) (N := some 96) (v := ?_) (a' := ?_) #[true, true, true, true, true, false, false, false, false, false, false, false, false, false, false, false, false, false, false, false, false, false, false, false, false, false] rfl rfl (by kernel_rfl) (fun _ _ _ h => h) (Or.inl ⟨by rfl, ?_⟩) hHeld ?_ ?_
                rotate_left
                · rintro w' ⟨s0, s1, s2, s3, s4, s5⟩
                  go_simp
                  with_reducible rfl
                rotate_left
                · simp only [Act.put, List.setIfInBounds_toArray, List.set_cons_zero, List.set_cons_succ, i64_w, i32_w]
                  rfl
                refine pure_ (i := 5) (N := some 97) (v := ?_) (a' := ?_) #[true, true, true, true, true, true, false, false, false, false, false, false, false, false, false, false, false, false, false, false, false, false, false, false, false, false] rfl rfl (by kernel_rfl) (fun _ _ _ h => h) (Or.inl ⟨by rfl, ?_⟩) ?_ ?_
                rotate_left
                · intro w'
                  go_simp
                  with_reducible rfl
                rotate_left
                · simp only [Act.put, List.setIfInBounds_toArray, List.set_cons_zero, List.set_cons_succ, i64_w, i32_w]
                  rfl
                refine pure_ (i := 6) (N := some 98) (v := ?_) (a' := ?_) #[true, true, true, true, true, true, true, false, false, false, false, false, false, false, false, false, false, false, false, false, false, false, false, false, false, false] rfl rfl (by kernel_rfl) (fun _ _ _ h => h) (Or.inl ⟨by rfl, ?_⟩) ?_ ?_
                rotate_left
                · intro w'
                  go_simp
                  with_reducible rfl
                rotate_left
                · simp only [Act.put, List.setIfInBounds_toArray, List.set_cons_zero, List.set_cons_succ, i64_w, i32_w]
                  rfl
                refine pure_ (i := 7) (N := some 99) (v := ?_) (a' := ?_) #[true, true, true, true, true, true, true, true, false, false, false, false, false, false, false, false, false, false, false, false, false, false, false, false, false, false] rfl rfl (by kernel_rfl) (fun _ _ _ h => h) (Or.inl ⟨by rfl, ?_⟩) ?_ ?_
                rotate_left
                · intro w'
                  go_simp
                  with_reducible rfl
                rotate_left
                · simp only [Act.put, List.setIfInBounds_toArray, List.set_cons_zero, List.set_cons_succ, i64_w, i32_w]
                  rfl
                refine pure_ (i := 8) (N := some 100) (v := ?_) (a' := ?_) #[true, true, true, true, true, true, true, true, true, false, false, false, false, false, false, false, false, false, false, false, false, false, false, false, false, false] rfl rfl (by kernel_rfl) (fun _ _ _ h => h) (Or.inl ⟨by rfl, ?_⟩) ?_ ?_
                rotate_left
                · intro w'
                  go_simp
                  with_reducible rfl
                rotate_left
                · simp only [Act.put, List.setIfInBounds_toArray, List.set_cons_zero, List.set_cons_succ, i64_w, i32_w]
                  rfl
                refine pure_ (i := 9) (N := some 101) (v := ?_) (a' := ?_) #[true, true, true, true, true, true, true, true, true, true, false, false, false, false, false, false, false, false, false, false, false, false, false, false, false, false] rfl rfl (by kernel_rfl) (fun _ _ _ h => h) (Or.inl ⟨by rfl, ?_⟩) ?_ ?_
                rotate_left
                · intro w'
                  go_simp
                  with_reducible rfl
                rotate_left
                · simp only [Act.put, List.setIfInBounds_toArray, List.set_cons_zero, List.set_cons_succ, i64_w, i32_w]
                  rfl
                refine pure_ (i := 10) (N := some 102) (v := ?_) (a' := ?_) #[true, true, true, true, true, true, true, true, true, true, true, false, false, false, false, false, false, false, false, false, false, false, false, false, false, false] rfl rfl (by kernel_rfl) (fun _ _ _ h => h) (Or.inl ⟨by rfl, ?_⟩) ?_ ?_
                rotate_left
                · intro w'
                  go_simp
                  with_reducible rfl
                rotate_left
                · simp only [Act.put, List.setIfInBounds_toArray, List.set_cons_zero, List.set_cons_succ, i64_w, i32_w]
                  rfl
                refine pure_ (i := 11) (N := some 103) (v := ?_) (a' := ?_) #[true, true, true, true, true, true, true, true, true, true, true, true, false, false, false, false, false, false, false, false, false, false, false, false, false, false] rfl rfl (by kernel_rfl) (fun _ _ _ h => h) (Or.inl ⟨by rfl, ?_⟩) ?_ ?_
                rotate_left
                · intro w'
                  go_simp
                  with_reducible rfl
                rotate_left
                · simp only [Act.put, List.setIfInBounds_toArray, List.set_cons_zero, List.set_cons_succ, i64_w, i32_w]
                  rfl
                refine pure_ (i := 12) (N := some 104) (v := ?_) (a' := ?_) #[true, true, true, true, true, true, true, true, true, true, true, true, true, false, false, false, false, false, false, false, false, false, false, false, false, false] rfl rfl (by kernel_rfl) (fun _ _ _ h => h) (Or.inl ⟨by rfl, ?_⟩) ?_ ?_
                rotate_left
                · intro w'
                  go_simp
                  with_reducible rfl
                rotate_left
                · simp only [Act.put, List.setIfInBounds_toArray, List.set_cons_zero, List.set_cons_succ, i64_w, i32_w]
                  rfl
                refine pure_ (i := 13) (N := some 105) (v := ?_) (a' := ?_) #[true, true, true, true, true, true, true, true, true, true, true, true, true, true, false, false, false, false, false, false, false, false, false, false, false, false] rfl rfl (by kernel_rfl) (fun _ _ _ h => h) (Or.inl ⟨by rfl, ?_⟩) ?_ ?_
                rotate_left
                · intro w'
                  go_simp
                  with_reducible rfl
                rotate_left
                · simp only [Act.put, List.setIfInBounds_toArray, List.set_cons_zero, List.set_cons_succ, i64_w, i32_w]
                  rfl
                refine pure_ (i := 14) (N := some 106) (v := ?_) (a' := ?_) #[true, true, true, true, true, true, true, true, true, true, true, true, true, true, true, false, false, false, false, false, false, false, false, false, false, false] rfl rfl (by kernel_rfl) (fun _ _ _ h => h) (Or.inl ⟨by rfl, ?_⟩) ?_ ?_
                rotate_left
                · intro w'
                  go_simp
                  with_reducible rfl
                rotate_left
                · simp only [Act.put, List.setIfInBounds_toArray, List.set_cons_zero, List.set_cons_succ, i64_w, i32_w]
                  rfl
                refine pure_ (i := 15) (N := some 107) (v := ?_) (a' := ?_) #[true, true, true, true, true, true, true, true, true, true, true, true, true, true, true, true, false, false, false, false, false, false, false, false, false, false] rfl rfl (by kernel_rfl) (fun _ _ _ h => h) (Or.inl ⟨by rfl, ?_⟩) ?_ ?_
                rotate_left
                · intro w'
                  go_simp
                  with_reducible rfl
                rotate_left
                · simp only [Act.put, List.setIfInBounds_toArray, List.set_cons_zero, List.set_cons_succ, i64_w, i32_w]
                  rfl
                refine pure_ (i := 16) (N := some 108) (v := ?_) (a' := ?_) #[true, true, true, true, true, true, true, true, true, true, true, true, true, true, true, true, true, false, false, false, false, false, false, false, false, false] rfl rfl (by kernel_rfl) (fun _ _ _ h => h) (Or.inl ⟨by rfl, ?_⟩) ?_ ?_
                rotate_left
                · intro w'
                  go_simp
                  with_reducible rfl
                rotate_left
                · simp only [Act.put, List.setIfInBounds_toArray, List.set_cons_zero, List.set_cons_succ, i64_w, i32_w]
                  rfl
                refine pure_ (i := 17) (N := some 109) (v := ?_) (a' := ?_) #[true, true, true, true, true, true, true, true, true, true, true, true, true, true, true, true, true, true, false, false, false, false, false, false, false, false] rfl rfl (by kernel_rfl) (fun _ _ _ h => h) (Or.inl ⟨by rfl, ?_⟩) ?_ ?_
                rotate_left
                · intro w'
                  go_simp
                  with_reducible rfl
                rotate_left
                · simp only [Act.put, List.setIfInBounds_toArray, List.set_cons_zero, List.set_cons_succ, i64_w, i32_w]
                  rfl
                refine pure_ (i := 19) (N := some 111) (v := ?_) (a' := ?_) #[true, true, true, true, true, true, true, true, true, true, true, true, true, true, true, true, true, true, false, true, false, false, false, false, false, false] rfl rfl (by kernel_rfl) (fun _ _ _ h => h) (Or.inl ⟨by rfl, ?_⟩) ?_ ?_
                rotate_left
                · intro w'
                  go_simp
                  with_reducible rfl
                rotate_left
                · simp only [Act.put, List.setIfInBounds_toArray, List.set_cons_zero, List.set_cons_succ, i64_w, i32_w]
                  rfl
                refine pure_ (i := 22) (N := some 114) (v := ?_) (a' := ?_) #[true, true, true, true, true, true, true, true, true, true, true, true, true, true, true, true, true, true, false, true, false, false, true, false, false, false] rfl rfl (by kernel_rfl) (fun _ _ _ h => h) (Or.inl ⟨by rfl, ?_⟩) ?_ ?_
                rotate_left
                · intro w'
                  go_simp
                  with_reducible rfl
                rotate_left
                · simp only [Act.put, List.setIfInBounds_toArray, List.set_cons_zero, List.set_cons_succ, i64_w, i32_w]
                  rfl
                refine one_ (i := 18) (N := some 110) #[true, true, true, true, true, true, true, true, true, true, true, true, true, true, true, true, true, true, true, true, false, false, true, false, false, false] rfl rfl (by kernel_rfl) (by decide) (fun K hK => ?_)
                refine goes_ Try.func26 (by kernel_rfl) rfl #[.pointer (some ⟨B, 0, none⟩), .int .i64 (j : Int)] (by rfl) rfl rfl (by (try simp only [List.map_toArray, List.map_cons, List.map_nil]); first | done | rfl) ?_
                refine (left_calls (H5.out.below (Below.refl _ w5).drew) (j : Int)).mono ?_
                rintro e w6 ⟨rfl, rfl⟩
                rw [HLF.out]
                refine ⟨_, rfl, ?_⟩
                refine hK.out _ _ hHeld (fun hHeld => ?_)
                clear hK K
                refine norm_ (a' := ?_) ?_ ?_
                rotate_left
                · show Act.put _ (some 110) _ = _
                  simp only [Act.put, List.setIfInBounds_toArray, List.set_cons_zero, List.set_cons_succ, i64_w, i32_w]
                  rfl
                refine one_ (i := 20) (N := some 112) #[true, true, true, true, true, true, true, true, true, true, true, true, true, true, true, true, true, true, true, true, true, false, true, false, false, false] rfl rfl (by kernel_rfl) (by decide) (fun K hK => ?_)
                refine goes_ Try.func46 (by kernel_rfl) rfl #[.pointer (some ⟨B, 0, none⟩)] (by rfl) rfl rfl (by (try simp only [List.map_toArray, List.map_cons, List.map_nil]); first | done | rfl) ?_
                refine (cpus_calls (H5.out.below (Below.refl _ w5).drew)).mono ?_
                rintro e w6 ⟨rfl, rfl⟩
                rw [qsAt_len]
                refine ⟨_, rfl, ?_⟩
                refine hK.out _ _ hHeld (fun hHeld => ?_)
                clear hK K
                refine norm_ (a' := ?_) ?_ ?_
                rotate_left
                · show Act.put _ (some 112) _ = _
                  simp only [Act.put, List.setIfInBounds_toArray, List.set_cons_zero, List.set_cons_succ, i64_w, i32_w]
                  rfl
                refine pure_ (i := 21) (N := some 113) (v := ?_) (a' := ?_) #[true, true, true, true, true, true, true, true, true, true, true, true, true, true, true, true, true, true, true, true, true, true, true, false, false, false] rfl rfl (by kernel_rfl) (fun _ _ _ h => h) (Or.inl ⟨by rfl, ?_⟩) ?_ ?_
                rotate_left
                · intro w'
                  go_simp
                  with_reducible rfl
                rotate_left
                · simp only [Act.put, List.setIfInBounds_toArray, List.set_cons_zero, List.set_cons_succ, i64_w, i32_w]
                  rfl
                refine pure_ (i := 23) (N := some 115) (v := ?_) (a' := ?_) #[true, true, true, true, true, true, true, true, true, true, true, true, true, true, true, true, true, true, true, true, true, true, true, true, false, false] rfl rfl (by kernel_rfl) (fun _ _ _ h => h) (Or.inl ⟨by rfl, ?_⟩) ?_ ?_
                rotate_left
                · intro w'
                  go_simp
                  with_reducible rfl
                rotate_left
                · simp only [Act.put, List.setIfInBounds_toArray, List.set_cons_zero, List.set_cons_succ, i64_w, i32_w]
                  rfl
                refine pure_ (i := 24) (N := some 116) (v := ?_) (a' := ?_) #[true, true, true, true, true, true, true, true, true, true, true, true, true, true, true, true, true, true, true, true, true, true, true, true, true, false] rfl rfl (by kernel_rfl) (fun _ _ _ h => h) (Or.inl ⟨by rfl, ?_⟩) ?_ ?_
                rotate_left
                · intro w'
                  go_simp
                  with_reducible rfl
                rotate_left
                · simp only [Act.put, List.setIfInBounds_toArray, List.set_cons_zero, List.set_cons_succ, i64_w, i32_w]
                  rfl
                refine pure_ (i := 25) (N := some 117) (v := ?_) (a' := ?_) #[true, true, true, true, true, true, true, true, true, true, true, true, true, true, true, true, true, true, true, true, true, true, true, true, true, true] rfl rfl (by kernel_rfl) (fun _ _ _ h => h) (Or.inl ⟨by rfl, ?_⟩) ?_ ?_
                rotate_left
                · intro w'
                  go_simp
                  with_reducible rfl
                rotate_left
                · simp only [Act.put, List.setIfInBounds_toArray, List.set_cons_zero, List.set_cons_succ, i64_w, i32_w]
                  rfl
                refine done_ (by kernel_rfl) ?_
                clear hHeld
                have HB6 := Aside0.mk HB5.out.drew
                have H6 := Aside0.mk (H5.out.below (Below.refl _ w5).drew)
                have HO6 := Aside0.mk (Kd.R_drew HO5.out)
                clear HB5 H5 HO5 x0 x1 x2 y0 y1 y2 HLF
                generalize w5.drew = w6 at *
                (try simp only [Exit.inBlock, Exit.then])
                go_wp2
                go_roundw
                case rel => exact ⟨j + 1, vs4, lv, by go_num, by omega, ⟨by rw [HZZ.out]; exact H6.out⟩, HO6, HB6⟩
                case measure => simp [intOf]; omega
              · obtain rfl : j = L.length := by omega
                have H6 : Aside0 (CA wr w.heap.size B gw vs lv (qsAt q (c + 1) 0 R) (List.replicate L.length ((q : Int) - ((c + 1 : Nat) : Int)))) := ⟨by
                  rw [← qsAt_next, HRL.out]
                  have h := H.out
                  rw [Nat.sub_self, List.replicate_zero, List.append_nil] at h
                  rw [show (q : Int) - ((c + 1 : Nat) : Int) = (q : Int) - (c : Int) - 1 by omega]
                  exact h⟩
                clear H
                go_wp2
                go_roundw
                case rel => exact ⟨c + 1, vs, lv, by go_num, by omega, H6, HO, HB⟩
                case measure => simp [intOf]; omega
          · obtain rfl : c = q := by omega
            go_wp2_with fail
            refine (idle_calls H.out).mono ?_
            rintro e w3 ⟨rfl, rfl⟩
            rw [qsAt_end]
            go_wp2_with fail
            refine (lives_calls _).mono ?_
            rintro e w5 ⟨rfl, hb5⟩
            have HB5 := Aside0.mk (below_step HB.out hb5)
            clear hb5 H HO HB
            go_wp2
            go_ret
            exact ⟨rfl, HB5.out⟩

end Go.Proofs.Ytgmdlndiilibpaa.PC
