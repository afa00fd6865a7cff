import Derived.Test.YtgmdlndiilibpaaCallI
namespace Go.Proofs.Ytgmdlndiilibpaa.PC
open Go.RowKit Go.Proofs.YtgmdlndiilibpaaW.PrintWords Go.Proofs.YtgmdlndiilibpaaW.PrintLast Go.Proofs.YtgmdlndiilibpaaW.PrintMore Go.Proofs.Ytgmdlndiilibpaa.Tab Go.Proofs.Ytgmdlndiilibpaa.CallK
attribute [local go_sem] max2_int min2_int max_two min_two max_three min_three max_four min_four   -- for this text's walks alone
set_option linter.unusedVariables false
set_option linter.unusedSimpArgs false
def okB (kd va : Int) : Bool := kd == 0 || (kd == 1 && va == 0)
theorem ok_of {kd cx va : Int} (h : okB kd va = true) : Ok kd cx va := by
  unfold okB at h
  simp at h
  exact h
theorem pack_nil {kd cx va : Int} (h : okB kd va = false) : packV kd cx va = .nilIface := by
  unfold okB at h
  simp at h
  unfold packV
  rw [if_neg h.1, if_neg (fun h2 => h.2 h2.1 h2.2)]
def dupAt (T : List Int) (i : Nat) : Bool := (T.take i).contains (T.getD i 0)
def dups (T : List Int) : Bool := (List.range T.length).any (dupAt T)
def sendErr (N : Nat) (kd va : Int) (T : List Int) : Int :=
  if okB kd va = false then 1 else if T.all (inR N) = false then 5 else if dups T = true then 9 else 0
def push1 (x : Sn) (qs : List (List Sn)) (t : Int) : List (List Sn) := qs.set t.toNat (qs.getD t.toNat [] ++ [x])
def qsend (qs : List (List Sn)) (T : List Int) (x : Sn) : List (List Sn) := T.foldl (push1 x) qs
theorem qsend_len (x : Sn) : ∀ (T : List Int) (qs : List (List Sn)), (qsend qs T x).length = qs.length
  | [], qs => rfl
  | t :: T, qs => by
    show (qsend (push1 x qs t) T x).length = _
    rw [qsend_len x T]; simp [push1]
theorem int_take {w : World} {A : Option Addr} {n m : Nat} {xs : List Int} (h : Kd.C (Kd.int .i64) w A n xs) (hm : m ≤ n) : Kd.C (Kd.int .i64) w A m (xs.take m) := by
  obtain ⟨h1, h2, h3⟩ := h
  refine ⟨by rw [List.length_take]; omega, by omega, fun hp => ?_⟩
  obtain ⟨a, ha, hr⟩ := h3 (by omega)
  refine ⟨a, ha, fun j x hj => ?_⟩
  rw [List.getElem?_take] at hj
  split at hj
  · exact hr j x hj
  · cases hj
theorem info3 : (Try.prog.info? 3).map (fun i => (i.zero, i.size, i.bytes)) = some (some (.int .i64 0), 1, 8) := by kernel_rfl
theorem info110 : (Try.prog.info? 110).map (fun i => (i.zero, i.size, i.bytes)) = some (some (.agg #[.nilIface, .int .i64 0]), 2, 24) := by kernel_rfl
theorem Q_append_step {ops : Array Oper} {o : Oper} {a : Act} {Q : Exit → Act → World → Prop} {Kc : Act → World → Prop} {W : World} (base : Nat) (hw : Region.wanted o (yielded ops a.tmps) = true) (s x : Operand)
    (ho : o.op = .call { callee := .builtin .append, args := #[s, x], argTypes := #[108, 108] }) (v : Value) (l : List Sn) (y : Sn) (hy : y.1.oneCell' = true) (hs : a.eval s = v) (hx : a.eval x = .slice (some ⟨W.heap.size, 0, none⟩) 1 1)
    (hq : QV W base v l) (hbase : base ≤ W.heap.size) (hl : (l.length + 1) * 24 ≤ 140737488355328)
    (h : ∀ v1 w1, QV w1 base v1 (l ++ [y]) → W.grownBy w1 (blk v) → (blk v1 = blk v ∨ ∃ b, blk v1 = some b ∧ W.heap.size ≤ b) → Kc (a.put o.dst v1) w1) :
    if Region.wanted o (yielded ops a.tmps) = true then Oper.wp Try.prog o a (W.alloc (.cells #[y.1, .int .i64 y.2] 110)) Kc Q else Kc (a.put o.dst undef) (W.alloc (.cells #[y.1, .int .i64 y.2] 110)) := by
  obtain ⟨i0, hi, hzz⟩ := Option.map_eq_some_iff.1 info110
  simp only [Prod.mk.injEq] at hzz
  obtain ⟨hz0, hz1, hz2⟩ := hzz
  rw [if_pos hw]
  have hb1 := blk_new W (.cells #[y.1, .int .i64 y.2] 110)
  have hlt := hq.lt
  obtain ⟨v1, w1, hr, hq1, hg, hat⟩ := run_append (P := Try.prog) (W.alloc (.cells #[y.1, .int .i64 y.2] 110)) base 108 o.type i0 _ 24 Try.underlying108 hi hz0 hz1 hz2 rfl (by omega) v l y hy
    (hq.step (fun g hg => Below.heap_alloc W _ g (hlt g hg).2.1)) (by simp; omega) ⟨W.heap.size, 0, none⟩ ((blk_cell hb1 0).trans rfl) (by rw [Addr.add_lit]; exact (blk_cell hb1 1).trans rfl) hl
  unfold Oper.wp execOp
  simp only [ho, resolve, invoke, builtin, Sem.run_bind, Sem.run_pure, Result.andThen_ok, List.map_toArray, List.map_cons, List.map_nil, hs, hx, hr]
  refine h v1 w1 hq1 (World.grownBy.trans (World.grownBy_alloc W _ _) hg) ?_
  rcases hat with hat | ⟨b, hb, hbl⟩
  · exact .inl hat
  · exact .inr ⟨b, hb, by simp at hbl; omega⟩
theorem qsend_le {M : Nat} {x : Sn} : ∀ {T : List Int} {qs : List (List Sn)}, (∀ l ∈ qs, l.length ≤ M) → ∀ l ∈ qsend qs T x, l.length ≤ M + T.length
  | [], qs, h, l, hl => h l hl
  | t :: T, qs, h, l, hl => by
    have h2 : ∀ l ∈ push1 x qs t, l.length ≤ M + 1 := fun l hl => by
      rcases List.mem_or_eq_of_mem_set hl with hl | rfl
      · have := h l hl; omega
      · rw [List.length_append, List.length_singleton, List.getD_eq_getElem?_getD]
        cases hg : qs[t.toNat]? with
        | none => simp
        | some m => have := h m (List.mem_of_getElem? hg); simpa using this
    have := qsend_le (M := M + 1) (T := T) h2 l hl
    simp; omega
theorem not_ids {w : World} {base B gw : Nat} {vs : List Value} {lv : Value} {qs : List (List Sn)} {left : List Int} (h : CA w base B gw vs lv qs left) {g : Nat} {cs : Array Value} {t : TypeId} (hg : w.heap[g]? = some (.cells cs t (0, 0))) (ht : t ≠ 101 ∧ t ≠ 108 ∧ t ≠ 110 ∧ t ≠ 3) : g ∉ ids B gw vs lv := fun hm => by
  have key : ∀ {cs' : Array Value} {t' : TypeId}, w.heap[g]? = some (.cells cs' t' (0, 0)) → t = t' := fun hg' => by
    rw [hg] at hg'
    injection hg' with hg'
    injection hg'
  rcases mem_ids.1 hm with rfl | rfl | ⟨v, hv, hb⟩ | hb
  · exact ht.1 (key h.hB)
  · exact ht.2.1 (key h.hw)
  · obtain ⟨k, l, _, _, hq⟩ := h.qv hv
    obtain ⟨_, _, c, hc⟩ := hq.lt g hb
    exact ht.2.2.1 (key hc)
  · obtain ⟨c, hc⟩ := Kd.R_typed h.hL g hb
    exact ht.2.2.2 (key hc)
theorem cell_grown {W w1 : World} {row : Option Nat} {p : Addr} {v : Value} (hg : W.grownBy w1 row) (hc : W.cell? p = some v) (hne : some p.block ≠ row) : w1.cell? p = some v :=
  (World.cell?_of_block (hg.block _ (World.block_lt_of_cell? _ _ hc) hne)).trans hc
set_option maxHeartbeats 8000000 in
set_option maxRecDepth 100000 in
theorem send_calls {w : World} {base B gw : Nat} {vs : List Value} {lv : Value} {qs : List (List Sn)} {left : List Int} (h : CA w base B gw vs lv qs left) (kd cx va : Int) (A : Option Addr) (c : Nat) (T : List Int) (hTc : T.length ≤ c)
    (hT : ∀ w', Mv (ids B gw vs lv) w w' → Kd.C (Kd.int .i64) w' A T.length T) (hT1 : T.length ≤ 1000) (hq1 : ∀ l ∈ qs, l.length ≤ 1000) (hl1 : left.length ≤ 1000) (hbase : base ≤ w.heap.size) :
    Calls Try.prog 24 #[.pointer (some ⟨B, 0, none⟩), .agg #[.int .i64 kd, .int .i64 cx, .int .u64 va], .slice A T.length c] w fun e w' =>
      (sendErr qs.length kd va T ≠ 0 → e = .returned (.tuple #[.int .i64 0, .int .i64 (sendErr qs.length kd va T)]) ∧ Below w.heap.size w w') ∧
      (sendErr qs.length kd va T = 0 → e = .returned (.tuple #[.int .i64 (left.length : Int), .int .i64 0]) ∧ ∃ vs' lv', CA w' base B gw vs' lv' (qsend qs T (packV kd cx va, (left.length : Int))) (left ++ [(T.length : Int)]) ∧ Mv (ids B gw vs lv) w w' ∧ ∀ j ∈ ids B gw vs' lv', j ∈ ids B gw vs lv ∨ w.heap.size ≤ j) := by
  have hB1 := ((Below.refl w.heap.size w).alloc (Nat.le_refl _) (.cells #[.pointer (some ⟨B, 0, none⟩)] 37)).alloc (by simp) (.cells #[.int .i64 kd, .int .i64 cx, .int .u64 va] 46)
  have hbx := blk_alloc (blk_new w (.cells #[.pointer (some ⟨B, 0, none⟩)] 37)) (.cells #[.int .i64 kd, .int .i64 cx, .int .u64 va] 46)
  have HLT := Aside0.mk (CA_ids_lt h)
  have HT := Aside0.mk hT
  have HQ1 := Aside0.mk hq1
  have HH := Aside0.mk h
  clear hT hq1 h
  go_enter Try.func24, Try.ntmps24
  go_wp2_with fail
  have HB1 := Aside0.mk hB1
  have HBX := Aside0.mk hbx
  clear hB1 hbx
  obtain ⟨bx, hbxe⟩ : ∃ bx, w.heap.size = bx := ⟨_, rfl⟩
  have HG := Aside0.mk hbxe
  rw [hbxe] at HB1 HBX HLT hbase ⊢
  generalize (w.alloc (.cells #[.pointer (some ⟨B, 0, none⟩)] 37)).alloc (.cells #[.int .i64 kd, .int .i64 cx, .int .u64 va] 46) = w0 at HB1 HBX ⊢
  refine (pack_calls w0 kd cx va).mono ?_
  rintro e w1 ⟨rfl, hb⟩
  have HB2 := Aside0.mk (HB1.out.trans (hb.mono (by rw [← HG.out]; exact HB1.out.size)))
  have HBX1 := Aside0.mk (blk_below HBX.out hb)
  clear hb HB1 HBX hbxe
  cases hokb : okB kd va with
  | false =>
    have hE : sendErr qs.length kd va T = 1 := by unfold sendErr; rw [if_pos hokb]
    have HE := Aside0.mk hE
    rw [pack_nil hokb]
    clear hE hokb
    go_wp2
    go_ret2
    rw [HE.out, HG.out]
    exact ⟨fun _ => ⟨rfl, HB2.out⟩, fun h0 => by cases h0⟩
  | true =>
    have hok : Ok kd cx va := ok_of hokb
    obtain ⟨t, u, htu⟩ := pack_some kd cx va hok
    have HTU := Aside0.mk htu
    rw [htu]
    clear htu
    have h2 := HH.out.below (by rw [HG.out]; exact HB2.out)
    have hbc : w1.cell? ⟨bx, 0, none⟩ = some (.pointer (some ⟨B, 0, none⟩)) := (blk_cell HBX1.out 0).trans rfl
    have hTw := HT.out w1 (Mv.of_below (by rw [HG.out]; exact HB2.out))
    go_wp2_with fail
    refine (has_out_calls h2 bx hbc A c T hTw hT1).mono ?_
    rintro e w2 ⟨rfl, rfl⟩
    cases hall : T.all (inR qs.length) with
    | false =>
      have hE : sendErr qs.length kd va T = 5 := by unfold sendErr; rw [if_neg (by rw [hokb]; simp), if_pos hall]
      have HE := Aside0.mk hE
      clear hE hokb hall hbc h2
      go_wp2
      go_ret2
      rw [HE.out, HG.out]
      exact ⟨fun _ => ⟨rfl, HB2.out⟩, fun h0 => by cases h0⟩
    | true =>
      have HALL := Aside0.mk hall
      have HOK := Aside0.mk hokb
      clear hall hokb
      go_wp2_with fail
      go_loopw [23] (fun iv wr => ∃ i : Nat, iv = .int .i64 i ∧ i ≤ T.length ∧ (∀ j, j < i → dupAt T j = false) ∧ wr = w2) (fun iv _ => T.length - (intOf iv).toNat)
      case atStart => exact ⟨0, rfl, by omega, fun j hj => by omega, rfl⟩
      case round =>
        obtain ⟨i, rfl, hi, hnd, rfl⟩ := hrel
        by_cases hil : (i : Int) < (T.length : Int)
        · have hil' : i < T.length := by omega
          obtain ⟨ad, rfl, x0⟩ := at_int hTw i hil'
          have hi0 : (0 : Int) ≤ (i : Int) := by omega
          have hic : (i : Int) ≤ (c : Int) := by omega
          have HND := Aside0.mk hnd
          obtain ⟨tv, htv⟩ : ∃ tv, T.getD i 0 = tv := ⟨_, rfl⟩
          rw [htv] at x0
          have hlen : (T.take i).length = i := by rw [List.length_take]; omega
          have hct := contains_calls wr (some ad) c (T.take i) (by rw [hlen]; exact int_take hTw (by omega)) (by omega) tv
          rw [hlen] at hct
          have hda : dupAt T i = (T.take i).contains tv := by unfold dupAt; rw [htv]
          have HCT := Aside0.mk hct
          have HDA := Aside0.mk hda
          clear hnd hct hda htv hlen
          generalize (T.take i).contains tv = bd at HCT HDA
          go_wp2_with fail
          refine HCT.out.mono ?_
          rintro e w3 ⟨rfl, rfl⟩
          cases bd with
          | true =>
            have hE : sendErr qs.length kd va T = 9 := by
              unfold sendErr
              rw [if_neg (by rw [HOK.out]; simp), if_neg (by rw [HALL.out]; simp), if_pos (show dups T = true from List.any_eq_true.2 ⟨i, List.mem_range.2 hil', HDA.out⟩)]
            have HE := Aside0.mk hE
            clear hE hbc h2 hTw
            go_wp2
            go_ret2
            rw [HE.out, HG.out]
            exact ⟨fun _ => ⟨rfl, HB2.out⟩, fun h0 => by cases h0⟩
          | false =>
            go_wp2
            go_roundw
            case rel =>
              refine ⟨i + 1, by go_num, by omega, fun j hj => ?_, by first | trivial | rfl⟩
              by_cases hji : j = i
              · subst hji; exact HDA.out
              · exact HND.out j (by omega)
            case measure => simp [intOf]; omega
        · obtain rfl : i = T.length := by omega
          have hE : sendErr qs.length kd va T = 0 := by
            unfold sendErr
            rw [if_neg (by rw [HOK.out]; simp), if_neg (by rw [HALL.out]; simp), if_neg]
            intro hd
            obtain ⟨j, hj, hd⟩ := List.any_eq_true.1 hd
            rw [hnd j (List.mem_range.1 hj)] at hd
            cases hd
          have HE := Aside0.mk hE
          clear hE hnd
          obtain ⟨Al, cl, hlv⟩ := Kd.R_slice h2.hL
          subst hlv
          have c1 := h2.cell1
          have hnb : some bx ≠ (Value.slice Al left.length cl).ownBlock := fun e => Nat.lt_irrefl bx (HLT.out bx (mem_ids.2 (.inr (.inr (.inr e.symm)))))
          have hnB : some B ≠ (Value.slice Al left.length cl).ownBlock := fun e => (h2.ne_l e.symm).1 rfl
          have hBlt := (Array.getElem?_eq_some_iff.1 h2.hB).1
          have hbb : Below base w wr.drew := (HB2.out.mono hbase).drew
          have hbsz : base ≤ wr.heap.size := Nat.le_trans h2.bB (Nat.le_of_lt hBlt)
          have hfB := h2.frB 1
          have H2 := Aside0.mk h2
          clear h2 hTw
          go_wp2_with fail
          refine start_ (n := 12) (S := fun w' => w'.cell? ⟨bx, 0, none⟩ = some (.pointer (some ⟨B, 0, none⟩)) ∧ w'.cell? ⟨B, 1, none⟩ = some (.slice Al left.length cl)) (ds := [11]) #[false, false, false, false, false, false, false, false, false, false, false, false] (by kernel_rfl) rfl rfl ⟨hbc, c1⟩ (fun hHeld => ?_)
          refine pure_ (i := 5) (N := some 44) (v := ?_) (a' := ?_) #[false, false, false, false, false, true, false, false, false, false, false, false] rfl rfl (by kernel_rfl) (fun _ _ _ h => h) (Or.inl ⟨by rfl, ?_⟩) ?_ ?_
          rotate_left
          · intro w'
            go_simp
            with_reducible rfl
          rotate_left
          · simp only [Act.put, List.setIfInBounds_toArray, List.set_cons_zero, List.set_cons_succ, i64_w, i32_w]
            rfl
          refine pure_ (i := 6) (N := some 45) (v := ?_) (a' := ?_) #[false, false, false, false, false, true, true, false, false, false, false, false] rfl rfl (by kernel_rfl) (fun _ _ _ h => h) (Or.inl ⟨by rfl, ?_⟩) ?_ ?_
          rotate_left
          · intro w'
            go_simp
            with_reducible rfl
          rotate_left
          · simp only [Act.put, List.setIfInBounds_toArray, List.set_cons_zero, List.set_cons_succ, i64_w, i32_w]
            rfl
          refine take_ (i := 0) (N := some 39) (v := ?_) (a' := ?_) #[true, false, false, false, false, true, true, false, false, false, false, false] rfl rfl (by kernel_rfl) (fun _ _ _ h => h) (Or.inl ⟨by rfl, ?_⟩) hHeld ?_ ?_
          rotate_left
          · rintro w' ⟨s0, s1⟩
            go_simp
            with_reducible rfl
          rotate_left
          · simp only [Act.put, List.setIfInBounds_toArray, List.set_cons_zero, List.set_cons_succ, i64_w, i32_w]
            rfl
          refine take_ (i := 1) (N := some 40) (v := ?_) (a' := ?_) #[true, true, false, false, false, true, true, false, false, false, false, false] rfl rfl (by kernel_rfl) (fun _ _ _ h => h) (Or.inl ⟨by rfl, ?_⟩) hHeld ?_ ?_
          rotate_left
          · rintro w' ⟨s0, s1⟩
            go_simp
            with_reducible rfl
          rotate_left
          · simp only [Act.put, List.setIfInBounds_toArray, List.set_cons_zero, List.set_cons_succ, i64_w, i32_w]
            rfl
          refine pure_ (i := 2) (N := some 41) (v := ?_) (a' := ?_) #[true, true, true, false, false, true, true, false, false, false, false, false] rfl rfl (by kernel_rfl) (fun _ _ _ h => h) (Or.inl ⟨by rfl, ?_⟩) ?_ ?_
          rotate_left
          · intro w'
            go_simp
            with_reducible rfl
          rotate_left
          · simp only [Act.put, List.setIfInBounds_toArray, List.set_cons_zero, List.set_cons_succ, i64_w, i32_w]
            rfl
          refine pure_ (i := 3) (N := some 42) (v := ?_) (a' := ?_) #[true, true, true, true, false, true, true, false, false, false, false, false] rfl rfl (by kernel_rfl) (fun _ _ _ h => h) (Or.inl ⟨by rfl, ?_⟩) ?_ ?_
          rotate_left
          · intro w'
            go_simp
            with_reducible rfl
          rotate_left
          · simp only [Act.put, List.setIfInBounds_toArray, List.set_cons_zero, List.set_cons_succ, i64_w, i32_w]
            rfl
          refine take_ (i := 4) (N := some 43) (v := ?_) (a' := ?_) #[true, true, true, true, true, true, true, false, false, false, false, false] rfl rfl (by kernel_rfl) (fun _ _ _ h => h) (Or.inl ⟨by rfl, ?_⟩) hHeld ?_ ?_
          rotate_left
          · rintro w' ⟨s0, s1⟩
            go_simp
            with_reducible rfl
          rotate_left
          · simp only [Act.put, List.setIfInBounds_toArray, List.set_cons_zero, List.set_cons_succ, i64_w, i32_w]
            rfl
          refine one_ (i := 7) (N := some 46) #[true, true, true, true, true, true, true, true, false, false, false, false] rfl rfl (by kernel_rfl) (by decide) (fun K hK => ?_)
          refine value_ (v := .slice (some ⟨wr.heap.size, 0, none⟩) 1 1) (w1 := wr.drew.alloc (.cells #[.int .i64 (T.length : Int)] 3)) (by rfl) rfl ?_ ?_
          · go_simp
          have hb := (Below.refl wr.drew.heap.size wr.drew).alloc (Nat.le_refl _) (.cells #[.int .i64 (T.length : Int)] 3)
          obtain ⟨s0, s1⟩ := hHeld
          refine hK.out _ _ ⟨(hb.cell (World.block_lt_of_cell? _ _ s0)).trans s0, (hb.cell (World.block_lt_of_cell? _ _ s1)).trans s1⟩ (fun hHeld => ?_)
          clear hK K
          refine norm_ (a' := ?_) ?_ ?_
          rotate_left
          · show Act.put _ (some 46) _ = _
            simp only [Act.put, List.setIfInBounds_toArray, List.set_cons_zero, List.set_cons_succ, i64_w, i32_w]
            rfl
          refine one_ (i := 8) (N := some 47) #[true, true, true, true, true, true, true, true, true, false, false, false] rfl rfl (by kernel_rfl) (by decide) (fun K hK => ?_)
          refine Kd.R_append_step (Kd.int .i64) (w0 := w) (W := wr.drew) base (by rfl) (.tmp 43) (.tmp 46) 36 3 (.int .i64 0) 8 rfl Try.underlying36 info3 rfl (by decide) (by omega) (.slice Al left.length cl) left (T.length : Int) [.int .i64 (T.length : Int)] (fun _ => True) (fun _ => False) (by rfl) (by first | rfl | (go_simp; done) | (simp [Act.eval]; done)) ?aP (fun _ hk => hk.elim) (fun _ _ => trivial) ?aO hbb hbsz ?aL ?_
          case aP => exact rfl
          case aO => exact Kd.R_mono (Kd.R_drew H2.out.hL) (fun _ _ => trivial)
          case aL => omega
          intro v1 w3 hr1 hb1 hg1 hat1
          obtain ⟨A1v, c1v, hv1⟩ := Kd.R_slice hr1
          subst hv1
          have hfB3 : w3.frozen? ⟨B, 1, none⟩ = false := (World.frozen?_of_block (hg1.block B hBlt hnB)).trans hfB
          refine hK.out _ _ ⟨cell_grown hg1 (show wr.drew.cell? _ = _ from hbc) hnb, cell_grown hg1 (show wr.drew.cell? _ = _ from c1) hnB⟩ (fun hHeld => ?_)
          clear hK K
          refine norm_ (a' := ?_) ?_ ?_
          rotate_left
          · show Act.put _ (some 47) _ = _
            simp only [Act.put, List.setIfInBounds_toArray, List.set_cons_zero, List.set_cons_succ, i64_w, i32_w]
            rfl
          refine pure_ (i := 9) (N := some 48) (v := ?_) (a' := ?_) #[true, true, true, true, true, true, true, true, true, true, false, false] rfl rfl (by kernel_rfl) (fun _ _ _ h => h) (Or.inl ⟨by rfl, ?_⟩) ?_ ?_
          rotate_left
          · intro w'
            go_simp
            with_reducible rfl
          rotate_left
          · simp only [Act.put, List.setIfInBounds_toArray, List.set_cons_zero, List.set_cons_succ, i64_w, i32_w]
            rfl
          refine pure_ (i := 10) (N := some 49) (v := ?_) (a' := ?_) #[true, true, true, true, true, true, true, true, true, true, true, false] rfl rfl (by kernel_rfl) (fun _ _ _ h => h) (Or.inl ⟨by rfl, ?_⟩) ?_ ?_
          rotate_left
          · intro w'
            go_simp
            with_reducible rfl
          rotate_left
          · simp only [Act.put, List.setIfInBounds_toArray, List.set_cons_zero, List.set_cons_succ, i64_w, i32_w]
            rfl
          refine last_ (i := 11) (N := none) #[true, true, true, true, true, true, true, true, true, true, true, true] rfl rfl (by kernel_rfl) (by decide) (fun K hK => ?_)
          obtain ⟨s2, s3⟩ := hHeld
          refine skip_ (w1 := ?_) (by rfl) rfl ?_ ?_
          rotate_left
          · go_simp
            with_reducible rfl
          refine hK.out _ _ ?_
          clear hK K
          refine done_ (by kernel_rfl) ?_
          have hR3 := Kd.R_tight rfl hr1
          have hd := H2.out.below ((Below.refl wr.heap.size wr).drew)
          obtain ⟨h4, hm4, hi4⟩ := hd.setl hg1 hR3 hat1
          have hwd : Below w.heap.size w wr.drew := by rw [HG.out]; exact HB2.out.drew
          have hm5 := (Mv.of_below (S := CallK.ids B gw vs (.slice Al left.length cl)) hwd).trans hm4 (fun k hk => .inl hk)
          have hi5 : ∀ j ∈ CallK.ids B gw vs (.slice A1v (left ++ [(T.length : Int)]).length c1v), j ∈ CallK.ids B gw vs (.slice Al left.length cl) ∨ w.heap.size ≤ j := fun j hj => (hi4 j hj).imp id (fun hlt => Nat.le_trans hwd.size hlt)
          have hk4 := (hm4.block bx (Array.getElem?_eq_some_iff.1 HBX1.out).1 (fun hk => Nat.lt_irrefl _ (HLT.out bx hk))).trans HBX1.out
          have hll : (left ++ [(T.length : Int)]).length = left.length + 1 := by simp
          have H4 := Aside0.mk h4
          have HM5 := Aside0.mk hm5
          have HI5 := Aside0.mk hi5
          have HK4 := Aside0.mk hk4
          rw [hll] at H4 HM5 HI5 HK4 ⊢
          clear hR3 hd h4 hm4 hi4 hwd hm5 hi5 hk4 hll hHeld hb s0 s1 s2 s3 hfB3 hat1 hg1 hb1 hr1 hbc c1 hnb hnB hBlt hbb hbsz hfB H2 HB2 HBX1
          generalize w3.setCell ⟨B, 1, none⟩ (.slice A1v (left.length + 1) c1v) = w4 at H4 HM5 HK4 ⊢
          (try simp only [Exit.inBlock, Exit.then])
          go_wp2_with fail
          go_loopw [52] (fun iv wr => ∃ (i : Nat) (vs' : List Value), iv = .int .i64 i ∧ i ≤ T.length ∧ Aside0 (CA wr base B gw vs' (.slice A1v (left.length + 1) c1v) (qsend qs (T.take i) (packV kd cx va, (left.length : Int))) (left ++ [(T.length : Int)])) ∧ Aside0 (Mv (CallK.ids B gw vs (.slice Al left.length cl)) w wr) ∧ Aside0 (∀ j ∈ CallK.ids B gw vs' (.slice A1v (left.length + 1) c1v), j ∈ CallK.ids B gw vs (.slice Al left.length cl) ∨ w.heap.size ≤ j) ∧ Aside0 (wr.heap[bx]? = some (.cells #[.pointer (some ⟨B, 0, none⟩)] 37 (0, 0)))) (fun iv _ => T.length - (intOf iv).toNat)
          case atStart => exact ⟨0, vs, rfl, by omega, by simpa [qsend] using H4, HM5, HI5, HK4⟩
          case round =>
            clear H4 HM5 HI5 HK4
            obtain ⟨i, vs', rfl, hi, H4, HM, HI, HK⟩ := hrel
            by_cases hil : (i : Int) < (T.length : Int)
            · have hil' : i < T.length := by omega
              obtain ⟨ad, rfl, x0⟩ := at_int (HT.out wr HM.out) i hil'
              obtain ⟨tv, htv⟩ : ∃ tv, T.getD i 0 = tv := ⟨_, rfl⟩
              rw [htv] at x0
              have hti : T[i] = tv := by rw [← htv]; simp [List.getD_eq_getElem?_getD, List.getElem?_eq_getElem hil']
              have hin : inR qs.length tv = true := List.all_eq_true.1 HALL.out tv (hti ▸ List.getElem_mem hil')
              obtain ⟨kk, rfl⟩ : ∃ kk : Nat, tv = kk := ⟨tv.toNat, by unfold inR at hin; simp at hin; omega⟩
              have hkn : kk < qs.length := by unfold inR at hin; simp at hin; omega
              obtain ⟨Q, hQ⟩ : ∃ Q, qsend qs (T.take i) (packV kd cx va, (left.length : Int)) = Q := ⟨_, rfl⟩
              have hQl : Q.length = qs.length := by rw [← hQ]; exact qsend_len _ _ _
              have hnx : qsend qs (T.take (i + 1)) (packV kd cx va, (left.length : Int)) = push1 (packV kd cx va, (left.length : Int)) Q kk := by
                rw [List.take_succ_eq_append_getElem hil', hti, qsend, List.foldl_append, ← hQ]; rfl
              rw [hQ] at H4
              have HNX := Aside0.mk hnx
              have hh := H4.out
              obtain ⟨v, hv, hqv⟩ := hh.at (show kk < Q.length by omega)
              have hQk : Q.getD kk [] = Q[kk]'(by omega) := by simp [List.getD_eq_getElem?_getD, List.getElem?_eq_getElem (show kk < Q.length by omega)]
              have hqk : Q[kk]? = some (Q[kk]'(by omega)) := List.getElem?_eq_getElem _
              obtain ⟨l, hl⟩ : ∃ l, Q[kk]'(by omega) = l := ⟨_, rfl⟩
              rw [hl] at hqv hQk hqk
              obtain ⟨A5, c5, hv5, hlc5⟩ := hqv.form
              subst hv5
              have c0 := hh.cell0
              rw [hQl] at c0
              have cq := hh.cellq hv
              have fq := hh.frw kk
              have cbx : wr.cell? ⟨bx, 0, none⟩ = some (.pointer (some ⟨B, 0, none⟩)) := (blk_cell HK.out 0).trans rfl
              have hkI : (kk : Int) < (qs.length : Int) := by omega
              have hll2 : l.length ≤ 2000 := Nat.le_trans (qsend_le HQ1.out l (by rw [hQ]; exact List.mem_of_getElem? hqk)) (by rw [List.length_take]; omega)
              have hvm := List.mem_of_getElem? hv
              have hne1 := (hh.ne_Bq hvm).1
              have hne2 := (hh.ne_Bq hvm).2
              have HQV := Aside0.mk hqv
              have HV := Aside0.mk hv
              have HQK := Aside0.mk hqk
              have HQD := Aside0.mk hQk
              clear hh hqv hv hqk hl hnx hQ hin hti htv hQk
              have hnb : some bx ≠ blk (.slice A5 l.length c5) := fun e => not_ids H4.out HK.out (by decide) (mem_ids.2 (.inr (.inr (.inl ⟨_, hvm, e.symm⟩))))
              have hgb : bx ≠ gw := fun e => not_ids H4.out HK.out (by decide) (mem_ids.2 (.inr (.inl e)))
              have hgl := (Array.getElem?_eq_some_iff.1 H4.out.hw).1
              have hbs : base ≤ wr.heap.size := Nat.le_trans H4.out.bw (Nat.le_of_lt hgl)
              go_wp2_with fail
              refine start_ (n := 19) (S := fun w' => w'.cell? ⟨bx, 0, none⟩ = some (.pointer (some ⟨B, 0, none⟩)) ∧ w'.cell? ⟨B, 0, none⟩ = some (.slice (some ⟨gw, 0, none⟩) qs.length qs.length) ∧ w'.cell? ⟨gw, kk, none⟩ = some (.slice A5 l.length c5)) (ds := [18]) #[false, false, false, false, false, false, false, false, false, false, false, false, false, false, false, false, false, false, false] (by kernel_rfl) rfl rfl ⟨cbx, c0, cq⟩ (fun hHeld => ?_)
              refine pure_ (i := 4) (N := some 60) (v := ?_) (a' := ?_) #[false, false, false, false, true, false, false, false, false, false, false, false, false, false, false, false, false, false, false] rfl rfl (by kernel_rfl) (fun _ _ _ h => h) (Or.inl ⟨by rfl, ?_⟩) ?_ ?_
              rotate_left
              · intro w'
                go_simp
                with_reducible rfl
              rotate_left
              · simp only [Act.put, List.setIfInBounds_toArray, List.set_cons_zero, List.set_cons_succ, i64_w, i32_w]
                rfl
              refine pure_ (i := 9) (N := some 65) (v := ?_) (a' := ?_) #[false, false, false, false, true, false, false, false, false, true, false, false, false, false, false, false, false, false, false] rfl rfl (by kernel_rfl) (fun _ _ _ h => h) (Or.inl ⟨by rfl, ?_⟩) ?_ ?_
              rotate_left
              · intro w'
                go_simp
                with_reducible rfl
              rotate_left
              · simp only [Act.put, List.setIfInBounds_toArray, List.set_cons_zero, List.set_cons_succ, i64_w, i32_w]
                rfl
              refine pure_ (i := 12) (N := some 68) (v := ?_) (a' := ?_) #[false, false, false, false, true, false, false, false, false, true, false, false, true, false, false, false, false, false, false] rfl rfl (by kernel_rfl) (fun _ _ _ h => h) (Or.inl ⟨by rfl, ?_⟩) ?_ ?_
              rotate_left
              · intro w'
                go_simp
                with_reducible rfl
              rotate_left
              · simp only [Act.put, List.setIfInBounds_toArray, List.set_cons_zero, List.set_cons_succ, i64_w, i32_w]
                rfl
              refine pure_ (i := 13) (N := some 69) (v := ?_) (a' := ?_) #[false, false, false, false, true, false, false, false, false, true, false, false, true, true, false, false, false, false, false] rfl rfl (by kernel_rfl) (fun _ _ _ h => h) (Or.inl ⟨by rfl, ?_⟩) ?_ ?_
              rotate_left
              · intro w'
                go_simp
                with_reducible rfl
              rotate_left
              · simp only [Act.put, List.setIfInBounds_toArray, List.set_cons_zero, List.set_cons_succ, i64_w, i32_w]
                rfl
              refine pure_ (i := 14) (N := some 70) (v := ?_) (a' := ?_) #[false, false, false, false, true, false, false, false, false, true, false, false, true, true, true, false, false, false, false] rfl rfl (by kernel_rfl) (fun _ _ _ h => h) (Or.inl ⟨by rfl, ?_⟩) ?_ ?_
              rotate_left
              · intro w'
                go_simp
                with_reducible rfl
              rotate_left
              · simp only [Act.put, List.setIfInBounds_toArray, List.set_cons_zero, List.set_cons_succ, i64_w, i32_w]
                rfl
              refine take_ (i := 0) (N := some 56) (v := ?_) (a' := ?_) #[true, false, false, false, true, false, false, false, false, true, false, false, true, true, true, false, false, false, false] rfl rfl (by kernel_rfl) (fun _ _ _ h => h) (Or.inl ⟨by rfl, ?_⟩) hHeld ?_ ?_
              rotate_left
              · rintro w' ⟨s0, s1, s2⟩
                go_simp
                with_reducible rfl
              rotate_left
              · simp only [Act.put, List.setIfInBounds_toArray, List.set_cons_zero, List.set_cons_succ, i64_w, i32_w]
                rfl
              refine pure_ (i := 1) (N := some 57) (v := ?_) (a' := ?_) #[true, true, false, false, true, false, false, false, false, true, false, false, true, true, true, false, false, false, false] rfl rfl (by kernel_rfl) (fun _ _ _ h => h) (Or.inl ⟨by rfl, ?_⟩) ?_ ?_
              rotate_left
              · intro w'
                go_simp
                with_reducible rfl
              rotate_left
              · simp only [Act.put, List.setIfInBounds_toArray, List.set_cons_zero, List.set_cons_succ, i64_w, i32_w]
                rfl
              refine pure_ (i := 2) (N := some 58) (v := ?_) (a' := ?_) #[true, true, true, false, true, false, false, false, false, true, false, false, true, true, true, false, false, false, false] rfl rfl (by kernel_rfl) (fun _ _ _ h => h) (Or.inl ⟨by rfl, ?_⟩) ?_ ?_
              rotate_left
              · intro w'
                go_simp
                with_reducible rfl
              rotate_left
              · simp only [Act.put, List.setIfInBounds_toArray, List.set_cons_zero, List.set_cons_succ, i64_w, i32_w]
                rfl
              refine take_ (i := 3) (N := some 59) (v := ?_) (a' := ?_) #[true, true, true, true, true, false, false, false, false, true, false, false, true, true, true, false, false, false, false] rfl rfl (by kernel_rfl) (fun _ _ _ h => h) (Or.inl ⟨by rfl, ?_⟩) hHeld ?_ ?_
              rotate_left
              · rintro w' ⟨s0, s1, s2⟩
                go_simp
                with_reducible rfl
              rotate_left
              · simp only [Act.put, List.setIfInBounds_toArray, List.set_cons_zero, List.set_cons_succ, i64_w, i32_w]
                rfl
              refine take_ (i := 5) (N := some 61) (v := ?_) (a' := ?_) #[true, true, true, true, true, true, false, false, false, true, false, false, true, true, true, false, false, false, false] rfl rfl (by kernel_rfl) (fun _ _ _ h => h) (Or.inl ⟨by rfl, ?_⟩) hHeld ?_ ?_
              rotate_left
              · rintro w' ⟨s0, s1, s2⟩
                go_simp
                with_reducible rfl
              rotate_left
              · simp only [Act.put, List.setIfInBounds_toArray, List.set_cons_zero, List.set_cons_succ, i64_w, i32_w]
                rfl
              refine pure_ (i := 6) (N := some 62) (v := ?_) (a' := ?_) #[true, true, true, true, true, true, true, false, false, true, false, false, true, true, true, false, false, false, false] rfl rfl (by kernel_rfl) (fun _ _ _ h => h) (Or.inl ⟨by rfl, ?_⟩) ?_ ?_
              rotate_left
              · intro w'
                go_simp
                with_reducible rfl
              rotate_left
              · simp only [Act.put, List.setIfInBounds_toArray, List.set_cons_zero, List.set_cons_succ, i64_w, i32_w]
                rfl
              refine pure_ (i := 7) (N := some 63) (v := ?_) (a' := ?_) #[true, true, true, true, true, true, true, true, false, true, false, false, true, true, true, false, false, false, false] rfl rfl (by kernel_rfl) (fun _ _ _ h => h) (Or.inl ⟨by rfl, ?_⟩) ?_ ?_
              rotate_left
              · intro w'
                go_simp
                with_reducible rfl
              rotate_left
              · simp only [Act.put, List.setIfInBounds_toArray, List.set_cons_zero, List.set_cons_succ, i64_w, i32_w]
                rfl
              refine take_ (i := 8) (N := some 64) (v := ?_) (a' := ?_) #[true, true, true, true, true, true, true, true, true, true, false, false, true, true, true, false, false, false, false] rfl rfl (by kernel_rfl) (fun _ _ _ h => h) (Or.inl ⟨by rfl, ?_⟩) hHeld ?_ ?_
              rotate_left
              · rintro w' ⟨s0, s1, s2⟩
                go_simp
                with_reducible rfl
              rotate_left
              · simp only [Act.put, List.setIfInBounds_toArray, List.set_cons_zero, List.set_cons_succ, i64_w, i32_w]
                rfl
              refine pure_ (i := 10) (N := some 66) (v := ?_) (a' := ?_) #[true, true, true, true, true, true, true, true, true, true, true, false, true, true, true, false, false, false, false] rfl rfl (by kernel_rfl) (fun _ _ _ h => h) (Or.inl ⟨by rfl, ?_⟩) ?_ ?_
              rotate_left
              · intro w'
                go_simp
                with_reducible rfl
              rotate_left
              · simp only [Act.put, List.setIfInBounds_toArray, List.set_cons_zero, List.set_cons_succ, i64_w, i32_w]
                rfl
              refine take_ (i := 11) (N := some 67) (v := ?_) (a' := ?_) #[true, true, true, true, true, true, true, true, true, true, true, true, true, true, true, false, false, false, false] rfl rfl (by kernel_rfl) (fun _ _ _ h => h) (Or.inl ⟨by rfl, ?_⟩) hHeld ?_ ?_
              rotate_left
              · rintro w' ⟨s0, s1, s2⟩
                go_simp
                with_reducible rfl
              rotate_left
              · simp only [Act.put, List.setIfInBounds_toArray, List.set_cons_zero, List.set_cons_succ, i64_w, i32_w]
                rfl
              refine one_ (i := 15) (N := some 71) #[true, true, true, true, true, true, true, true, true, true, true, true, true, true, true, true, false, false, false] rfl rfl (by kernel_rfl) (by decide) (fun K hK => ?_)
              refine value_ (v := .slice (some ⟨wr.heap.size, 0, none⟩) 1 1) (w1 := wr.drew.alloc (.cells #[.iface t u, .int .i64 (left.length : Int)] 110)) (by rfl) rfl ?_ ?_
              · go_simp
              have hb := (Below.refl wr.drew.heap.size wr.drew).alloc (Nat.le_refl _) (.cells #[.iface t u, .int .i64 (left.length : Int)] 110)
              obtain ⟨s0, s1, s2⟩ := hHeld
              refine hK.out _ _ ⟨(hb.cell (World.block_lt_of_cell? _ _ s0)).trans s0, (hb.cell (World.block_lt_of_cell? _ _ s1)).trans s1, (hb.cell (World.block_lt_of_cell? _ _ s2)).trans s2⟩ (fun hHeld => ?_)
              clear hK K
              refine norm_ (a' := ?_) ?_ ?_
              rotate_left
              · show Act.put _ (some 71) _ = _
                simp only [Act.put, List.setIfInBounds_toArray, List.set_cons_zero, List.set_cons_succ, i64_w, i32_w]
                rfl
              refine one_ (i := 16) (N := some 72) #[true, true, true, true, true, true, true, true, true, true, true, true, true, true, true, true, true, false, false] rfl rfl (by kernel_rfl) (by decide) (fun K hK => ?_)
              refine Q_append_step (W := wr.drew) base (by rfl) (.tmp 67) (.tmp 71) rfl (.slice A5 l.length c5) l (.iface t u, (left.length : Int)) rfl (by rfl) (by first | rfl | (go_simp; done) | (simp [Act.eval]; done)) ?aO hbs ?aL ?_
              case aO => exact HQV.out.step (fun _ _ => rfl)
              case aL => omega
              intro v1 w3 hq1 hg1 hat1
              obtain ⟨A1q, c1q, hv1, hlc1⟩ := hq1.form
              subst hv1
              have fq3 : w3.frozen? ⟨gw, kk, none⟩ = false := (World.frozen?_of_block (hg1.block gw hgl (Ne.symm hne2))).trans fq
              refine hK.out _ _ ⟨cell_grown hg1 (show wr.drew.cell? _ = _ from cbx) hnb, cell_grown hg1 (show wr.drew.cell? _ = _ from c0) (Ne.symm hne1), cell_grown hg1 (show wr.drew.cell? _ = _ from cq) (Ne.symm hne2)⟩ (fun hHeld => ?_)
              clear hK K
              refine norm_ (a' := ?_) ?_ ?_
              rotate_left
              · show Act.put _ (some 72) _ = _
                simp only [Act.put, List.setIfInBounds_toArray, List.set_cons_zero, List.set_cons_succ, i64_w, i32_w]
                rfl
              refine pure_ (i := 17) (N := some 73) (v := ?_) (a' := ?_) #[true, true, true, true, true, true, true, true, true, true, true, true, true, true, true, true, true, true, false] rfl rfl (by kernel_rfl) (fun _ _ _ h => h) (Or.inl ⟨by rfl, ?_⟩) ?_ ?_
              rotate_left
              · intro w'
                go_simp
                with_reducible rfl
              rotate_left
              · simp only [Act.put, List.setIfInBounds_toArray, List.set_cons_zero, List.set_cons_succ, i64_w, i32_w]
                rfl
              refine last_ (i := 18) (N := none) #[true, true, true, true, true, true, true, true, true, true, true, true, true, true, true, true, true, true, true] rfl rfl (by kernel_rfl) (by decide) (fun K hK => ?_)
              obtain ⟨r0, r1, r2⟩ := hHeld
              refine skip_ (w1 := ?_) (by rfl) rfl ?_ ?_
              rotate_left
              · go_simp
                with_reducible rfl
              refine hK.out _ _ ?_
              clear hK K
              refine done_ (by kernel_rfl) ?_
              have hbd := (Below.refl wr.heap.size wr).drew
              have hd := H4.out.below hbd
              obtain ⟨h5, hm5, hi5⟩ := hd.setq HV.out HQK.out hg1 hq1 (hat1.imp id .inr)
              have hnx2 : qsend qs (T.take (i + 1)) (packV kd cx va, (left.length : Int)) = Q.set kk (l ++ [(.iface t u, (left.length : Int))]) := by
                rw [HNX.out, push1, Int.toNat_natCast, HQD.out, HTU.out]
              have hm6 := HM.out.trans ((Mv.of_below (S := CallK.ids B gw vs' (.slice A1v (left.length + 1) c1v)) hbd).trans hm5 (fun k hk => .inl hk)) HI.out
              have hk6 := (hm5.block bx (Array.getElem?_eq_some_iff.1 HK.out).1 (not_ids H4.out HK.out (by decide))).trans HK.out
              have hi6 : ∀ j ∈ CallK.ids B gw (vs'.set kk (.slice A1q (l ++ [(Value.iface t u, (left.length : Int))]).length c1q)) (.slice A1v (left.length + 1) c1v), j ∈ CallK.ids B gw vs (.slice Al left.length cl) ∨ w.heap.size ≤ j := fun j hj =>
                (hi5 j hj).elim (fun h => HI.out j h) (fun h => .inr (Nat.le_trans HM.out.size h))
              rw [← hnx2] at h5
              generalize vs'.set kk (.slice A1q (l ++ [(Value.iface t u, (left.length : Int))]).length c1q) = vs2 at h5 hi6
              have hll3 : (l ++ [(Value.iface t u, (left.length : Int))]).length = l.length + 1 := by simp
              rw [hll3] at h5 hm6 hk6
              have H5 := Aside0.mk h5
              have HM6 := Aside0.mk hm6
              have HI6 := Aside0.mk hi6
              have HK6 := Aside0.mk hk6
              clear hbd hd h5 hm5 hi5 hnx2 hm6 hk6 hi6 hll3 hHeld hb s0 s1 s2 r0 r1 r2 fq3 hat1 hg1 hq1 cbx c0 cq fq x0 hnb hgb hgl hbs hne1 hne2 H4 HM HI HK HV HQV HQK HQD HNX
              generalize w3.setCell ⟨gw, kk, none⟩ (.slice A1q (l.length + 1) c1q) = w5 at H5 HM6 HK6 ⊢
              (try simp only [Exit.inBlock, Exit.then])
              go_wp2
              go_roundw
              case rel => exact ⟨i + 1, vs2, by go_num, by omega, H5, HM6, HI6, HK6⟩
              case measure => simp [intOf]; omega
            · obtain rfl : i = T.length := by omega
              rw [List.take_length] at H4
              go_wp2
              go_ret2
              rw [HE.out]
              exact ⟨fun h0 => absurd rfl h0, fun _ => ⟨rfl, vs', _, H4.out, HM.out, HI.out⟩⟩

end Go.Proofs.Ytgmdlndiilibpaa.PC
