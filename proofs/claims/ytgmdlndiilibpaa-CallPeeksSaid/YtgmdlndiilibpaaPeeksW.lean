/- CallPeeks: its walk. Written by mkcp.py over cp.txt. -/
import Derived.Test.YtgmdlndiilibpaaCallO
import Derived.Lib.Builder
import Derived.OneCell
namespace Go.Proofs.Ytgmdlndiilibpaa.PC
open Go.RowKit Go.Proofs.YtgmdlndiilibpaaW.PrintWords Go.Proofs.YtgmdlndiilibpaaW.PrintLast Go.Proofs.YtgmdlndiilibpaaW.PrintMore Go.Proofs.Ytgmdlndiilibpaa.Tab Go.Proofs.Ytgmdlndiilibpaa.CallK
attribute [local go_sem] max2_int min2_int max_two min_two max_three min_three max_four min_four   -- for this text's walks alone
set_option linter.unusedVariables false
set_option linter.unusedSimpArgs false
attribute [local go_sem high] eqA46
def goX (k : Nat) : List S35 → List Sn
  | [] => []
  | x :: t => (packV 0 x.f1 x.f2, (k : Int)) :: goX (k + 1) t
theorem goX_len : ∀ (k : Nat) (l : List S35), (goX k l).length = l.length
  | _, [] => rfl
  | k, x :: t => by simp [goX, goX_len (k + 1) t]
theorem goX_snoc : ∀ (k : Nat) (l : List S35) (x : S35), goX k (l ++ [x]) = goX k l ++ [(packV 0 x.f1 x.f2, ((k + l.length : Nat) : Int))]
  | k, [], x => rfl
  | k, y :: t, x => by
    show (_ :: goX (k + 1) (t ++ [x])) = _ :: goX (k + 1) t ++ _
    rw [goX_snoc (k + 1) t x]
    simp only [List.cons_append, List.length_cons]
    rw [show k + 1 + t.length = k + (t.length + 1) by omega]
theorem cell_mv {S : List Nat} {w w' : World} {p : Addr} {v : Value} (hm : Mv S w w') (hc : w.cell? p = some v) (hn : p.block ∉ S) : w'.cell? p = some v :=
  (World.cell?_of_block (hm.block _ (World.block_lt_of_cell? _ _ hc) hn)).trans hc
set_option maxHeartbeats 8000000 in
set_option maxRecDepth 100000 in
theorem peeks_calls (w : World) (A0 : Option Addr) (c0 : Nat) (xs : List S35) (hr0 : Kd.C k35 w A0 xs.length xs) (hc0 : xs.length ≤ c0) :
    Calls Try.prog 6 #[.slice A0 xs.length c0] w fun e w' => e = .returned (.bool true) ∧ Below w.heap.size w w' := by
  have HR := Aside0.mk hr0
  clear hr0
  go_enter Try.func6, Try.ntmps6
  go_wp2_with fail
  refine (new_calls w 2 2 (by decide)).mono ?_
  rintro e w1 ⟨B, gw, rfl, h1, hb1⟩
  have H1 := Aside0.mk h1
  have HB1 := Aside0.mk hb1
  clear h1 hb1
  go_wp2_with fail
  go_loopw [4, 5] (fun mv iv wr => ∃ (i : Nat) (vs : List Value) (lv : Value), mv = .int .i64 i ∧ iv = .int .i64 i ∧ i ≤ xs.length ∧ i ≤ 8 ∧ Aside0 (CA wr w.heap.size B gw vs lv [[], goX 0 (xs.take i)] (List.replicate i 1)) ∧ Aside0 (Below w.heap.size w wr)) (fun _ iv _ => xs.length - (intOf iv).toNat)
  case atStart => exact ⟨0, _, _, rfl, rfl, by omega, by omega, H1, HB1⟩
  case round =>
    clear H1 HB1
    obtain ⟨i, vs, lv, rfl, rfl, hi, hi8, H, HB⟩ := hrel
    by_cases hil : (i : Int) < (xs.length : Int)
    · by_cases hi7 : (i : Int) < 8
      · have hil' : i < xs.length := by omega
        have hi0 : (0 : Int) ≤ (i : Int) := by omega
        obtain ⟨ad, ead, -, x1, x2⟩ := at_T35 (Kd.C_below HR.out HB.out) i hi0 hil
        obtain ⟨ad', ead', -, y1, -⟩ := at_T35 HR.out i hi0 hil
        subst ead
        obtain rfl := Option.some.inj ead'
        have hlt : (ad.add (i * 3)).block < w.heap.size := by
          have := World.block_lt_of_cell? _ _ y1
          rwa [Int.toNat_natCast] at this
        obtain ⟨p, hp⟩ : ∃ p, xs[i] = p := ⟨_, rfl⟩
        have hrd : rd_T35 xs i = p := by rw [← hp]; simp [rd_T35, List.getD_eq_getElem?_getD, List.getElem?_eq_getElem hil']
        rw [hrd, Int.toNat_natCast] at x1 x2
        have htk : goX 0 (xs.take (i + 1)) = goX 0 (xs.take i) ++ [(packV 0 p.f1 p.f2, (i : Int))] := by
          rw [List.take_succ_eq_append_getElem hil', hp, goX_snoc, List.length_take, Nat.min_eq_left hi, Nat.zero_add]
        have HTK := Aside0.mk htk
        have hno : ∀ j ∈ CallK.ids B gw vs lv, w.heap.size ≤ j := ids_ge H.out
        have hll : (goX 0 (xs.take i)).length ≤ 1000 := by rw [goX_len, List.length_take]; omega
        clear hp hrd htk y1 ead'
        go_wp2_with fail
        refine start_ (n := 19) (S := fun w' => w'.cell? ⟨(ad.add (i * 3)).block, (ad.add (i * 3)).off + 1, none⟩ = some (.int .i64 p.f1) ∧ w'.cell? ⟨(ad.add (i * 3)).block, (ad.add (i * 3)).off + 2, none⟩ = some (.int .u64 p.f2)) (ds := []) #[false, false, false, false, false, false, false, false, false, false, false, false, false, false, false, false, false, false, false] (by kernel_rfl) rfl rfl ⟨x1, x2⟩ (fun hHeld => ?_)
        refine pure_ (i := 0) (N := some 35) (v := ?_) (a' := ?_) #[true, false, false, false, false, false, false, false, false, false, false, false, false, false, false, false, false, false, false] rfl rfl (by kernel_rfl) (fun _ _ _ h => h) (Or.inl ⟨by rfl, ?_⟩) ?_ ?_
        rotate_left
        · intro w'
          go_simp
          with_reducible rfl
        rotate_left
        · simp only [Act.put, List.setIfInBounds_toArray, List.set_cons_zero, List.set_cons_succ, i64_w, i32_w]
          rfl
        refine pure_ (i := 1) (N := some 36) (v := ?_) (a' := ?_) #[true, true, false, false, false, false, false, false, false, false, false, false, false, false, false, false, false, false, false] rfl rfl (by kernel_rfl) (fun _ _ _ h => h) (Or.inl ⟨by rfl, ?_⟩) ?_ ?_
        rotate_left
        · intro w'
          go_simp
          with_reducible rfl
        rotate_left
        · simp only [Act.put, List.setIfInBounds_toArray, List.set_cons_zero, List.set_cons_succ, i64_w, i32_w]
          rfl
        refine pure_ (i := 2) (N := some 37) (v := ?_) (a' := ?_) #[true, true, true, false, false, false, false, false, false, false, false, false, false, false, false, false, false, false, false] rfl rfl (by kernel_rfl) (fun _ _ _ h => h) (Or.inl ⟨by rfl, ?_⟩) ?_ ?_
        rotate_left
        · intro w'
          go_simp
          with_reducible rfl
        rotate_left
        · simp only [Act.put, List.setIfInBounds_toArray, List.set_cons_zero, List.set_cons_succ, i64_w, i32_w]
          rfl
        refine pure_ (i := 3) (N := some 38) (v := ?_) (a' := ?_) #[true, true, true, true, false, false, false, false, false, false, false, false, false, false, false, false, false, false, false] rfl rfl (by kernel_rfl) (fun _ _ _ h => h) (Or.inl ⟨by rfl, ?_⟩) ?_ ?_
        rotate_left
        · intro w'
          go_simp
          with_reducible rfl
        rotate_left
        · simp only [Act.put, List.setIfInBounds_toArray, List.set_cons_zero, List.set_cons_succ, i64_w, i32_w]
          rfl
        refine pure_ (i := 4) (N := some 39) (v := ?_) (a' := ?_) #[true, true, true, true, true, false, false, false, false, false, false, false, false, false, false, false, false, false, false] rfl rfl (by kernel_rfl) (fun _ _ _ h => h) (Or.inl ⟨by rfl, ?_⟩) ?_ ?_
        rotate_left
        · intro w'
          go_simp
          with_reducible rfl
        rotate_left
        · simp only [Act.put, List.setIfInBounds_toArray, List.set_cons_zero, List.set_cons_succ, i64_w, i32_w]
          rfl
        refine pure_ (i := 6) (N := some 41) (v := ?_) (a' := ?_) #[true, true, true, true, true, false, true, false, false, false, false, false, false, false, false, false, false, false, false] rfl rfl (by kernel_rfl) (fun _ _ _ h => h) (Or.inl ⟨by rfl, ?_⟩) ?_ ?_
        rotate_left
        · intro w'
          go_simp
          with_reducible rfl
        rotate_left
        · simp only [Act.put, List.setIfInBounds_toArray, List.set_cons_zero, List.set_cons_succ, i64_w, i32_w]
          rfl
        refine pure_ (i := 7) (N := some 42) (v := ?_) (a' := ?_) #[true, true, true, true, true, false, true, true, false, false, false, false, false, false, false, false, false, false, false] rfl rfl (by kernel_rfl) (fun _ _ _ h => h) (Or.inl ⟨by rfl, ?_⟩) ?_ ?_
        rotate_left
        · intro w'
          go_simp
          with_reducible rfl
        rotate_left
        · simp only [Act.put, List.setIfInBounds_toArray, List.set_cons_zero, List.set_cons_succ, i64_w, i32_w]
          rfl
        refine pure_ (i := 8) (N := some 43) (v := ?_) (a' := ?_) #[true, true, true, true, true, false, true, true, true, false, false, false, false, false, false, false, false, false, false] rfl rfl (by kernel_rfl) (fun _ _ _ h => h) (Or.inl ⟨by rfl, ?_⟩) ?_ ?_
        rotate_left
        · intro w'
          go_simp
          with_reducible rfl
        rotate_left
        · simp only [Act.put, List.setIfInBounds_toArray, List.set_cons_zero, List.set_cons_succ, i64_w, i32_w]
          rfl
        refine pure_ (i := 9) (N := some 44) (v := ?_) (a' := ?_) #[true, true, true, true, true, false, true, true, true, true, false, false, false, false, false, false, false, false, false] rfl rfl (by kernel_rfl) (fun _ _ _ h => h) (Or.inl ⟨by rfl, ?_⟩) ?_ ?_
        rotate_left
        · intro w'
          go_simp
          with_reducible rfl
        rotate_left
        · simp only [Act.put, List.setIfInBounds_toArray, List.set_cons_zero, List.set_cons_succ, i64_w, i32_w]
          rfl
        refine take_ (i := 5) (N := some 40) (v := ?_) (a' := ?_) #[true, true, true, true, true, true, true, true, true, true, false, false, false, false, false, false, false, false, false] rfl rfl (by kernel_rfl) (fun _ _ _ h => h) (Or.inl ⟨by rfl, ?_⟩) hHeld ?_ ?_
        rotate_left
        · rintro w' ⟨s0, s1⟩
          go_simp
          with_reducible rfl
        rotate_left
        · simp only [Act.put, List.setIfInBounds_toArray, List.set_cons_zero, List.set_cons_succ, i64_w, i32_w]
          rfl
        refine take_ (i := 10) (N := some 45) (v := ?_) (a' := ?_) #[true, true, true, true, true, true, true, true, true, true, true, false, false, false, false, false, false, false, false] rfl rfl (by kernel_rfl) (fun _ _ _ h => h) (Or.inl ⟨by rfl, ?_⟩) hHeld ?_ ?_
        rotate_left
        · rintro w' ⟨s0, s1⟩
          go_simp
          with_reducible rfl
        rotate_left
        · simp only [Act.put, List.setIfInBounds_toArray, List.set_cons_zero, List.set_cons_succ, i64_w, i32_w]
          rfl
        refine pure_ (i := 11) (N := some 46) (v := ?_) (a' := ?_) #[true, true, true, true, true, true, true, true, true, true, true, true, false, false, false, false, false, false, false] rfl rfl (by kernel_rfl) (fun _ _ _ h => h) (Or.inl ⟨by rfl, ?_⟩) ?_ ?_
        rotate_left
        · intro w'
          go_simp
          with_reducible rfl
        rotate_left
        · simp only [Act.put, List.setIfInBounds_toArray, List.set_cons_zero, List.set_cons_succ, i64_w, i32_w]
          rfl
        refine one_ (i := 12) (N := some 47) #[true, true, true, true, true, true, true, true, true, true, true, true, true, false, false, false, false, false, false] rfl rfl (by kernel_rfl) (by decide) (fun K hK => ?_)
        refine value_ (v := .slice (some ⟨wr.heap.size, 0, none⟩) 1 1) (w1 := wr.drew.alloc (.cells #[.int .i64 1] 3)) (by rfl) rfl ?_ ?_
        · go_simp
        have hb := (Below.refl wr.drew.heap.size wr.drew).alloc (Nat.le_refl _) (.cells #[.int .i64 1] 3)
        obtain ⟨s0, s1⟩ := hHeld
        refine hK.out _ _ ⟨(hb.cell (World.block_lt_of_cell? _ _ s0)).trans s0, (hb.cell (World.block_lt_of_cell? _ _ s1)).trans s1⟩ (fun hHeld => ?_)
        clear hK K
        refine norm_ (a' := ?_) ?_ ?_
        rotate_left
        · show Act.put _ (some 47) _ = _
          simp only [Act.put, List.setIfInBounds_toArray, List.set_cons_zero, List.set_cons_succ, i64_w, i32_w]
          rfl
        refine one_ (i := 13) (N := some 48) #[true, true, true, true, true, true, true, true, true, true, true, true, true, true, false, false, false, false, false] rfl rfl (by kernel_rfl) (by decide) (fun K hK => ?_)
        refine goes_ Try.func24 (by kernel_rfl) rfl #[.pointer (some ⟨B, 0, none⟩), .agg #[.int .i64 0, .int .i64 p.f1, .int .u64 p.f2], .slice (some ⟨wr.heap.size, 0, none⟩) 1 1] (by rfl) rfl rfl (by (try simp only [List.map_toArray, List.map_cons, List.map_nil]); first | done | rfl) ?_
        refine (send_lit (w := wr.drew) (H.out.below (Below.refl _ wr).drew) 0 p.f1 p.f2 [1] (by simp [sendErr, okB, inR, dups, dupAt]) (by decide) (by simp; exact hll) (by simp; omega) HB.out.size).mono ?_
        rintro e w3 ⟨rfl, vs3, lv3, h3, hm3, hi3⟩
        refine ⟨_, rfl, ?_⟩
        refine hK.out _ _ ⟨cell_mv hm3 (show wr.drew.cell? _ = _ from x1) (fun hk => by have := hno _ hk; have h9 : (ad.add (i * 3)).block < w.heap.size := hlt; exact Nat.not_lt.2 this h9), cell_mv hm3 (show wr.drew.cell? _ = _ from x2) (fun hk => by have := hno _ hk; have h9 : (ad.add (i * 3)).block < w.heap.size := hlt; exact Nat.not_lt.2 this h9)⟩ (fun hHeld => ?_)
        clear hK K
        refine norm_ (a' := ?_) ?_ ?_
        rotate_left
        · show Act.put _ (some 48) _ = _
          simp only [Act.put, List.setIfInBounds_toArray, List.set_cons_zero, List.set_cons_succ, i64_w, i32_w]
          rfl
        refine pure_ (i := 14) (N := some 34) (v := ?_) (a' := ?_) #[true, true, true, true, true, true, true, true, true, true, true, true, true, true, true, false, false, false, false] rfl rfl (by kernel_rfl) (fun _ _ _ h => h) (Or.inl ⟨by rfl, ?_⟩) ?_ ?_
        rotate_left
        · intro w'
          go_simp
          with_reducible rfl
        rotate_left
        · simp only [Act.put, List.setIfInBounds_toArray, List.set_cons_zero, List.set_cons_succ, i64_w, i32_w]
          rfl
        refine pure_ (i := 15) (N := some 49) (v := ?_) (a' := ?_) #[true, true, true, true, true, true, true, true, true, true, true, true, true, true, true, true, false, false, false] rfl rfl (by kernel_rfl) (fun _ _ _ h => h) (Or.inl ⟨by rfl, ?_⟩) ?_ ?_
        rotate_left
        · intro w'
          go_simp
          with_reducible rfl
        rotate_left
        · simp only [Act.put, List.setIfInBounds_toArray, List.set_cons_zero, List.set_cons_succ, i64_w, i32_w]
          rfl
        refine pure_ (i := 16) (N := some 50) (v := ?_) (a' := ?_) #[true, true, true, true, true, true, true, true, true, true, true, true, true, true, true, true, true, false, false] rfl rfl (by kernel_rfl) (fun _ _ _ h => h) (Or.inl ⟨by rfl, ?_⟩) ?_ ?_
        rotate_left
        · intro w'
          go_simp
          with_reducible rfl
        rotate_left
        · simp only [Act.put, List.setIfInBounds_toArray, List.set_cons_zero, List.set_cons_succ, i64_w, i32_w]
          rfl
        refine pure_ (i := 17) (N := some 6) (v := ?_) (a' := ?_) #[true, true, true, true, true, true, true, true, true, true, true, true, true, true, true, true, true, true, false] rfl rfl (by kernel_rfl) (fun _ _ _ h => h) (Or.inl ⟨by rfl, ?_⟩) ?_ ?_
        rotate_left
        · intro w'
          go_simp
          with_reducible rfl
        rotate_left
        · simp only [Act.put, List.setIfInBounds_toArray, List.set_cons_zero, List.set_cons_succ, i64_w, i32_w]
          rfl
        refine pure_ (i := 18) (N := some 7) (v := ?_) (a' := ?_) #[true, true, true, true, true, true, true, true, true, true, true, true, true, true, true, true, true, true, true] rfl rfl (by kernel_rfl) (fun _ _ _ h => h) (Or.inl ⟨by rfl, ?_⟩) ?_ ?_
        rotate_left
        · intro w'
          go_simp
          with_reducible rfl
        rotate_left
        · simp only [Act.put, List.setIfInBounds_toArray, List.set_cons_zero, List.set_cons_succ, i64_w, i32_w]
          rfl
        refine done_ (by kernel_rfl) ?_
        have hb3 : Below w.heap.size w w3 := HB.out.drew.trans (hm3.below HB.out.size hno)
        have hrs : qsend [[], goX 0 (xs.take i)] [1] (packV 0 p.f1 p.f2, ((List.replicate i (1 : Int)).length : Int)) = [[], goX 0 (xs.take (i + 1))] := by
          rw [HTK.out, List.length_replicate]; rfl
        have hrl : List.replicate i (1 : Int) ++ [(([1] : List Int).length : Int)] = List.replicate (i + 1) 1 := by
          rw [List.replicate_succ']; rfl
        rw [hrs, hrl] at h3
        have H3 := Aside0.mk h3
        have HB3 := Aside0.mk hb3
        clear h3 hm3 hi3 hrs hrl hb3 hno hHeld HTK H HB x1 x2
        (try simp only [Exit.inBlock, Exit.then])
        go_wp2
        go_roundw
        case rel => exact ⟨i + 1, vs3, lv3, by go_num, by go_num, by omega, by omega, H3, HB3⟩
        case measure => simp [intOf]; omega
      · have hle : ¬ ((i : Int) < 8) := hi7
        have hM : (xs.take i).length = i := by rw [List.length_take]; omega
        obtain ⟨M, hMe⟩ : ∃ M, xs.take i = M := ⟨_, rfl⟩
        rw [hMe] at H hM
        clear hMe
        go_wp2_with fail
        go_loopw [8] (fun kv wr => ∃ (j : Nat) (vs : List Value) (lv : Value), kv = .int .i64 ((i : Int) - (j : Int)) ∧ j ≤ i ∧ Aside0 (CA wr w.heap.size B gw vs lv [[], goX j (M.drop j)] (List.replicate j 0 ++ List.replicate (i - j) 1)) ∧ Aside0 (Below w.heap.size w wr)) (fun kv _ => (intOf kv).toNat)
        case atStart => exact ⟨0, vs, lv, by simp, by omega, by simpa using H, HB⟩
        case round =>
          clear H HB
          obtain ⟨j, vs, lv, rfl, hj, H, HB⟩ := hrel
          by_cases hji : j < i
          · have hk0 : (i : Int) - (j : Int) > 0 := by omega
            obtain ⟨p, hp⟩ : ∃ p, M[j]'(by omega) = p := ⟨_, rfl⟩
            have hdr : M.drop j = p :: M.drop (j + 1) := by rw [← hp]; exact List.drop_eq_getElem_cons (by omega)
            rw [hdr, goX] at H
            have hw1 : ((waits [[], (packV 0 p.f1 p.f2, (j : Int)) :: goX (j + 1) (M.drop (j + 1))] 1 : Nat) : Int) = (i : Int) - (j : Int) := by
              show (((packV 0 p.f1 p.f2, (j : Int)) :: goX (j + 1) (M.drop (j + 1))).length : Int) = _
              rw [List.length_cons, goX_len, List.length_drop, hM]; omega
            have hw0 : waits [[], (packV 0 p.f1 p.f2, (j : Int)) :: goX (j + 1) (M.drop (j + 1))] 0 = 0 := rfl
            have hwj : IntKind.i64.wrap ((i : Int) - ((i : Int) - (j : Int))) = (j : Int) := by rw [IntKind.wrap_i64]; omega
            have hwk : IntKind.i64.wrap ((i : Int) - (j : Int) - 1) = (i : Int) - ((j + 1 : Nat) : Int) := by rw [IntKind.wrap_i64]; omega
            have hlx : (List.replicate j (0 : Int) ++ List.replicate (i - j) 1)[j]? = some 1 := by
              rw [List.getElem?_append_right (by simp), List.length_replicate, Nat.sub_self, List.getElem?_replicate, if_pos (by omega)]
            have hls : (List.replicate j (0 : Int) ++ List.replicate (i - j) 1).set j (1 - 1) = List.replicate (j + 1) 0 ++ List.replicate (i - (j + 1)) 1 := by
              rw [List.set_append_right _ _ (by simp), List.length_replicate, Nat.sub_self, show i - j = (i - (j + 1)) + 1 by omega, List.replicate_succ (n := i - (j + 1)), List.set_cons_zero, List.replicate_succ' (n := j), List.append_assoc]
              rfl
            have HW1 := Aside0.mk hw1
            have HW0 := Aside0.mk hw0
            have HLX := Aside0.mk hlx
            have HLS := Aside0.mk hls
            clear hp hdr hw1 hw0 hlx hls
            go_wp2_with fail
            refine (peek_some H.out 1 0 p.f1 p.f2 (j : Int) _ rfl (.inl rfl)).mono ?_
            rintro e w2 ⟨rfl, hb2⟩
            go_wp2_with fail
            have hb3 := hb2.alloc hb2.size (.cells #[.int .i64 0, .int .i64 p.f1, .int .u64 p.f2] 46)
            have hk9 := blk_new w2 (.cells #[.int .i64 0, .int .i64 p.f1, .int .u64 p.f2] 46)
            generalize w2.alloc (.cells #[.int .i64 0, .int .i64 p.f1, .int .u64 p.f2] 46) = w3 at hb3 hk9 ⊢
            generalize w2.heap.size = g9 at hk9 ⊢
            refine (peek_some (H.out.below hb3) 1 0 p.f1 p.f2 (j : Int) _ rfl (.inl rfl)).mono ?_
            rintro e w4 ⟨rfl, hb4⟩
            have hb4' := below_step hb3 hb4
            have hb5 := hb4'.alloc hb4'.size (.cells #[.int .i64 0, .int .i64 p.f1, .int .u64 p.f2] 46)
            have hk9' := blk_alloc (blk_below hk9 hb4) (.cells #[.int .i64 0, .int .i64 p.f1, .int .u64 p.f2] 46)
            have hk12 := blk_new w4 (.cells #[.int .i64 0, .int .i64 p.f1, .int .u64 p.f2] 46)
            clear hb2 hb3 hk9 hb4 hb4'
            go_wp2_with fail
            generalize w4.alloc (.cells #[.int .i64 0, .int .i64 p.f1, .int .u64 p.f2] 46) = w5 at hb5 hk9' hk12 ⊢
            generalize w4.heap.size = g12 at hk12 ⊢
            have h5 := H.out.below hb5
            have H5 := Aside0.mk h5
            have HB5 := Aside0.mk (below_step HB.out hb5)
            have HK9 := Aside0.mk hk9'
            have z0 := (blk_cell hk9' 0).trans rfl
            have z1 := (blk_cell hk9' 1).trans rfl
            have z2 := (blk_cell hk9' 2).trans rfl
            have y0 := (blk_cell hk12 0).trans rfl
            have y1 := (blk_cell hk12 1).trans rfl
            have y2 := (blk_cell hk12 2).trans rfl
            clear h5 hb5 hk9' hk12 H HB
            refine (waiting_calls H5.out 1).mono ?_
            rw [HW1.out]
            rintro e w6 ⟨rfl, rfl⟩
            go_wp2_with fail
            refine (waiting_calls H5.out 0).mono ?_
            rw [HW0.out]
            rintro e w6 ⟨rfl, rfl⟩
            go_wp2_with fail
            refine (take_some H5.out 1 0 p.f1 p.f2 j _ rfl (.inl rfl) 1 HLX.out (by decide)).mono ?_
            rintro e w7 ⟨rfl, vs7, h7, hm7, hi7⟩
            have hk9 := (hm7.block g9 (Array.getElem?_eq_some_iff.1 HK9.out).1 (not_ids H5.out HK9.out (by decide))).trans HK9.out
            have hb7 := hm7.below HB5.out.size (ids_ge H5.out)
            have hb8 := (HB5.out.trans hb7).alloc (HB5.out.trans hb7).size (.cells #[.int .i64 0, .int .i64 p.f1, .int .u64 p.f2] 46)
            rw [HLS.out] at h7
            have h8 := h7.below ((Below.refl w7.heap.size w7).alloc (Nat.le_refl _) (.cells #[.int .i64 0, .int .i64 p.f1, .int .u64 p.f2] 46))
            have hk9'' := blk_alloc hk9 (.cells #[.int .i64 0, .int .i64 p.f1, .int .u64 p.f2] 46)
            clear z0 z1 z2 y0 y1 y2
            have z0 := (blk_cell hk9'' 0).trans rfl
            have z1 := (blk_cell hk9'' 1).trans rfl
            have z2 := (blk_cell hk9'' 2).trans rfl
            have H8 := Aside0.mk h8
            have HB8 := Aside0.mk hb8
            clear h7 hm7 hi7 hk9 hb7 hb8 h8 hk9'' H5 HB5 HK9
            go_wp2
            go_roundw
            case rel => exact ⟨j + 1, vs7, lv, by first | rfl | (rw [hwk]), by omega, H8, HB8⟩
            case measure => simp [intOf]; omega
          · obtain rfl : j = i := by omega
            have hk0 : ¬ ((j : Int) - (j : Int) > 0) := by omega
            rw [List.drop_eq_nil_of_le (by omega), goX] at H
            go_wp2_with fail
            refine (peek_none H.out 1 rfl).mono ?_
            rintro e w2 ⟨rfl, hb2⟩
            go_wp2_with fail
            have hb3 := hb2.alloc hb2.size (.cells #[.int .i64 0, .int .i64 0, .int .u64 0] 46)
            generalize w2.alloc (.cells #[.int .i64 0, .int .i64 0, .int .u64 0] 46) = w3 at hb3 ⊢
            refine (idle_calls (H.out.below hb3)).mono ?_
            rintro e w4 ⟨rfl, rfl⟩
            have HB4 := Aside0.mk (below_step HB.out hb3)
            clear hb2 hb3 H HB
            rw [show isIdle [[], []] = true from rfl]
            go_wp2_with fail
            refine (lives_calls _).mono ?_
            rintro e w5 ⟨rfl, hb5⟩
            have HB5 := Aside0.mk (below_step HB4.out hb5)
            go_wp2
            go_ret
            exact ⟨rfl, HB5.out⟩
    · have hle : ¬ ((i : Int) < (xs.length : Int)) := hil
      have hM : (xs.take i).length = i := by rw [List.length_take]; omega
      obtain ⟨M, hMe⟩ : ∃ M, xs.take i = M := ⟨_, rfl⟩
      rw [hMe] at H hM
      clear hMe
      go_wp2_with fail
      go_loopw [8] (fun kv wr => ∃ (j : Nat) (vs : List Value) (lv : Value), kv = .int .i64 ((i : Int) - (j : Int)) ∧ j ≤ i ∧ Aside0 (CA wr w.heap.size B gw vs lv [[], goX j (M.drop j)] (List.replicate j 0 ++ List.replicate (i - j) 1)) ∧ Aside0 (Below w.heap.size w wr)) (fun kv _ => (intOf kv).toNat)
      case atStart => exact ⟨0, vs, lv, by simp, by omega, by simpa using H, HB⟩
      case round =>
        clear H HB
        obtain ⟨j, vs, lv, rfl, hj, H, HB⟩ := hrel
        by_cases hji : j < i
        · have hk0 : (i : Int) - (j : Int) > 0 := by omega
          obtain ⟨p, hp⟩ : ∃ p, M[j]'(by omega) = p := ⟨_, rfl⟩
          have hdr : M.drop j = p :: M.drop (j + 1) := by rw [← hp]; exact List.drop_eq_getElem_cons (by omega)
          rw [hdr, goX] at H
          have hw1 : ((waits [[], (packV 0 p.f1 p.f2, (j : Int)) :: goX (j + 1) (M.drop (j + 1))] 1 : Nat) : Int) = (i : Int) - (j : Int) := by
            show (((packV 0 p.f1 p.f2, (j : Int)) :: goX (j + 1) (M.drop (j + 1))).length : Int) = _
            rw [List.length_cons, goX_len, List.length_drop, hM]; omega
          have hw0 : waits [[], (packV 0 p.f1 p.f2, (j : Int)) :: goX (j + 1) (M.drop (j + 1))] 0 = 0 := rfl
          have hwj : IntKind.i64.wrap ((i : Int) - ((i : Int) - (j : Int))) = (j : Int) := by rw [IntKind.wrap_i64]; omega
          have hwk : IntKind.i64.wrap ((i : Int) - (j : Int) - 1) = (i : Int) - ((j + 1 : Nat) : Int) := by rw [IntKind.wrap_i64]; omega
          have hlx : (List.replicate j (0 : Int) ++ List.replicate (i - j) 1)[j]? = some 1 := by
            rw [List.getElem?_append_right (by simp), List.length_replicate, Nat.sub_self, List.getElem?_replicate, if_pos (by omega)]
          have hls : (List.replicate j (0 : Int) ++ List.replicate (i - j) 1).set j (1 - 1) = List.replicate (j + 1) 0 ++ List.replicate (i - (j + 1)) 1 := by
            rw [List.set_append_right _ _ (by simp), List.length_replicate, Nat.sub_self, show i - j = (i - (j + 1)) + 1 by omega, List.replicate_succ (n := i - (j + 1)), List.set_cons_zero, List.replicate_succ' (n := j), List.append_assoc]
            rfl
          have HW1 := Aside0.mk hw1
          have HW0 := Aside0.mk hw0
          have HLX := Aside0.mk hlx
          have HLS := Aside0.mk hls
          clear hp hdr hw1 hw0 hlx hls
          go_wp2_with fail
          refine (peek_some H.out 1 0 p.f1 p.f2 (j : Int) _ rfl (.inl rfl)).mono ?_
          rintro e w2 ⟨rfl, hb2⟩
          go_wp2_with fail
          have hb3 := hb2.alloc hb2.size (.cells #[.int .i64 0, .int .i64 p.f1, .int .u64 p.f2] 46)
          have hk9 := blk_new w2 (.cells #[.int .i64 0, .int .i64 p.f1, .int .u64 p.f2] 46)
          generalize w2.alloc (.cells #[.int .i64 0, .int .i64 p.f1, .int .u64 p.f2] 46) = w3 at hb3 hk9 ⊢
          generalize w2.heap.size = g9 at hk9 ⊢
          refine (peek_some (H.out.below hb3) 1 0 p.f1 p.f2 (j : Int) _ rfl (.inl rfl)).mono ?_
          rintro e w4 ⟨rfl, hb4⟩
          have hb4' := below_step hb3 hb4
          have hb5 := hb4'.alloc hb4'.size (.cells #[.int .i64 0, .int .i64 p.f1, .int .u64 p.f2] 46)
          have hk9' := blk_alloc (blk_below hk9 hb4) (.cells #[.int .i64 0, .int .i64 p.f1, .int .u64 p.f2] 46)
          have hk12 := blk_new w4 (.cells #[.int .i64 0, .int .i64 p.f1, .int .u64 p.f2] 46)
          clear hb2 hb3 hk9 hb4 hb4'
          go_wp2_with fail
          generalize w4.alloc (.cells #[.int .i64 0, .int .i64 p.f1, .int .u64 p.f2] 46) = w5 at hb5 hk9' hk12 ⊢
          generalize w4.heap.size = g12 at hk12 ⊢
          have h5 := H.out.below hb5
          have H5 := Aside0.mk h5
          have HB5 := Aside0.mk (below_step HB.out hb5)
          have HK9 := Aside0.mk hk9'
          have z0 := (blk_cell hk9' 0).trans rfl
          have z1 := (blk_cell hk9' 1).trans rfl
          have z2 := (blk_cell hk9' 2).trans rfl
          have y0 := (blk_cell hk12 0).trans rfl
          have y1 := (blk_cell hk12 1).trans rfl
          have y2 := (blk_cell hk12 2).trans rfl
          clear h5 hb5 hk9' hk12 H HB
          refine (waiting_calls H5.out 1).mono ?_
          rw [HW1.out]
          rintro e w6 ⟨rfl, rfl⟩
          go_wp2_with fail
          refine (waiting_calls H5.out 0).mono ?_
          rw [HW0.out]
          rintro e w6 ⟨rfl, rfl⟩
          go_wp2_with fail
          refine (take_some H5.out 1 0 p.f1 p.f2 j _ rfl (.inl rfl) 1 HLX.out (by decide)).mono ?_
          rintro e w7 ⟨rfl, vs7, h7, hm7, hi7⟩
          have hk9 := (hm7.block g9 (Array.getElem?_eq_some_iff.1 HK9.out).1 (not_ids H5.out HK9.out (by decide))).trans HK9.out
          have hb7 := hm7.below HB5.out.size (ids_ge H5.out)
          have hb8 := (HB5.out.trans hb7).alloc (HB5.out.trans hb7).size (.cells #[.int .i64 0, .int .i64 p.f1, .int .u64 p.f2] 46)
          rw [HLS.out] at h7
          have h8 := h7.below ((Below.refl w7.heap.size w7).alloc (Nat.le_refl _) (.cells #[.int .i64 0, .int .i64 p.f1, .int .u64 p.f2] 46))
          have hk9'' := blk_alloc hk9 (.cells #[.int .i64 0, .int .i64 p.f1, .int .u64 p.f2] 46)
          clear z0 z1 z2 y0 y1 y2
          have z0 := (blk_cell hk9'' 0).trans rfl
          have z1 := (blk_cell hk9'' 1).trans rfl
          have z2 := (blk_cell hk9'' 2).trans rfl
          have H8 := Aside0.mk h8
          have HB8 := Aside0.mk hb8
          clear h7 hm7 hi7 hk9 hb7 hb8 h8 hk9'' H5 HB5 HK9
          go_wp2
          go_roundw
          case rel => exact ⟨j + 1, vs7, lv, by first | rfl | (rw [hwk]), by omega, H8, HB8⟩
          case measure => simp [intOf]; omega
        · obtain rfl : j = i := by omega
          have hk0 : ¬ ((j : Int) - (j : Int) > 0) := by omega
          rw [List.drop_eq_nil_of_le (by omega), goX] at H
          go_wp2_with fail
          refine (peek_none H.out 1 rfl).mono ?_
          rintro e w2 ⟨rfl, hb2⟩
          go_wp2_with fail
          have hb3 := hb2.alloc hb2.size (.cells #[.int .i64 0, .int .i64 0, .int .u64 0] 46)
          generalize w2.alloc (.cells #[.int .i64 0, .int .i64 0, .int .u64 0] 46) = w3 at hb3 ⊢
          refine (idle_calls (H.out.below hb3)).mono ?_
          rintro e w4 ⟨rfl, rfl⟩
          have HB4 := Aside0.mk (below_step HB.out hb3)
          clear hb2 hb3 H HB
          rw [show isIdle [[], []] = true from rfl]
          go_wp2_with fail
          refine (lives_calls _).mono ?_
          rintro e w5 ⟨rfl, hb5⟩
          have HB5 := Aside0.mk (below_step HB4.out hb5)
          go_wp2
          go_ret
          exact ⟨rfl, HB5.out⟩
end Go.Proofs.Ytgmdlndiilibpaa.PC

