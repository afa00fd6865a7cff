import Derived.Test.YtalmemcidbmdgaaZMk4
import Derived.Laws.EntriesVeiled
import Derived.Deep.Slices
/- A model (layer 16): Do: the walk of one kind. -/
set_option linter.unusedVariables false
set_option linter.unusedSimpArgs false
namespace Go.Proofs.Ytalmemcidbmdgaa.PM
open Go.RowKit Go.Proofs.YtalmemcidbmdgaaW.PrintWords Go.Proofs.YtalmemcidbmdgaaW.PrintLast Go.Proofs.YtalmemcidbmdgaaW.PrintMore Go.Proofs.Ytalmemcidbmdgaa.PageG
attribute [local go_sem] max2_int min2_int max_two min_two max_three min_three max_four min_four   -- for this text's walks alone
/-- A call of a function value. -/
theorem goesv_ {P : Program} {ops : Array Oper} {Q : Exit → Act → World → Prop} {oi : Oper} {N : Option Tmp} {a : Act} {w : World} {K : Act → World → Prop} {c : Operand} {f : FuncId} {first caps args : Array Value} {asg : Array Operand} {ts : Array TypeId}
    (hw : Region.wanted oi (yielded ops a.tmps) = true) (hN : oi.dst = N) (hop : oi.op = .call { callee := .value c, args := asg, argTypes := ts }) (hc : a.eval c = .func (.func f) first caps) (henter : ∀ (args : Array Value) (w : World), (callFunc f args).run P w = .ok (.enter f args) w) (hargs : first ++ asg.map a.eval ++ caps = args)
    (h : Calls P f args w fun e w' => ∃ v, e = .returned v ∧ K (a.put N v) w') : if Region.wanted oi (yielded ops a.tmps) = true then Oper.wp P oi a w K Q else K (a.put N undef) w := by
  refine call_ f args hw hN ?_ h
  have he := henter args w
  unfold execOp
  simp [hop, resolve, Deferred.ofValue, invoke, hc, hargs, he]
def doF : List FuncId := [38, 39, 40, 41, 42, 43, 44, 45]
section
variable {w w' : World} {B pm bm : Nat} {s : MS}
set_option maxHeartbeats 8000000 in
set_option maxRecDepth 100000 in
theorem do_one (h : Mo w B pm bm s) (o : OpS) (hk : 0 ≤ o.kind ∧ o.kind < 8) (fv : FuncId) (hfv : doF[o.kind.toNat]? = some fv) (henter : ∀ (args : Array Value) (w : World), (callFunc fv args).run Try.prog w = .ok (.enter fv args) w) (R : (Int × Int × Int) × MS)
    (hc : ∀ W, Below w.heap.size w W → Calls Try.prog fv #[.pointer (some ⟨B, 0, none⟩), Value.agg #[.int .i64 o.kind, .int .i64 o.sp, .int .i64 o.ak, .bool o.ap, .int .u64 o.av, .int .u8 o.byte, .int .u64 o.va, .int .i64 o.size, .bool o.at_.f0, .bool o.at_.f1, .bool o.at_.f2, .bool o.at_.f3, .bool o.at_.f4, .bool o.at_.f5, .int .i64 o.other, .int .u64 o.too]] W (Rep3 W B pm bm R)) :
    Calls Try.prog 14 #[.pointer (some ⟨B, 0, none⟩), Value.agg #[.int .i64 o.kind, .int .i64 o.sp, .int .i64 o.ak, .bool o.ap, .int .u64 o.av, .int .u8 o.byte, .int .u64 o.va, .int .i64 o.size, .bool o.at_.f0, .bool o.at_.f1, .bool o.at_.f2, .bool o.at_.f3, .bool o.at_.f4, .bool o.at_.f5, .int .i64 o.other, .int .u64 o.too]] w (Rep3 w B pm bm R) := by
  have HLT := Aside0.mk h.lt
  have HC := Aside0.mk hc
  have HE := Aside0.mk henter
  have HFV := Aside0.mk hfv
  obtain ⟨k, hkn⟩ : ∃ k : Nat, o.kind = (k : Int) := ⟨o.kind.toNat, by omega⟩
  have HKN := Aside0.mk hkn
  have hd0 : decide (o.kind < 0) = false := decide_eq_false (by omega)
  have hd8 : decide (8 ≤ o.kind) = false := decide_eq_false (by omega)
  clear h hc henter hfv hkn
  obtain ⟨D, hD⟩ : ∃ D, w.heap.size = D := ⟨_, rfl⟩
  go_enter Try.func14, Try.ntmps14
  go_upto_region 4 with fail
  have hk := blk_alloc (blk_alloc (blk_new w (.cells #[.int .i64 o.kind, .int .i64 o.sp, .int .i64 o.ak, .bool o.ap, .int .u64 o.av, .int .u8 o.byte, .int .u64 o.va, .int .i64 o.size, .bool o.at_.f0, .bool o.at_.f1, .bool o.at_.f2, .bool o.at_.f3, .bool o.at_.f4, .bool o.at_.f5, .int .i64 o.other, .int .u64 o.too] 36)) (.cells #[.int .i64 0, .int .i64 0, .int .u8 0] 42)) (.cells #[.func (.func 38) #[.pointer (some ⟨B, 0, none⟩)] #[], .func (.func 39) #[.pointer (some ⟨B, 0, none⟩)] #[], .func (.func 40) #[.pointer (some ⟨B, 0, none⟩)] #[], .func (.func 41) #[.pointer (some ⟨B, 0, none⟩)] #[], .func (.func 42) #[.pointer (some ⟨B, 0, none⟩)] #[], .func (.func 43) #[.pointer (some ⟨B, 0, none⟩)] #[], .func (.func 44) #[.pointer (some ⟨B, 0, none⟩)] #[], .func (.func 45) #[.pointer (some ⟨B, 0, none⟩)] #[]] 82)
  have hz := blk_alloc (blk_new (w.alloc (.cells #[.int .i64 o.kind, .int .i64 o.sp, .int .i64 o.ak, .bool o.ap, .int .u64 o.av, .int .u8 o.byte, .int .u64 o.va, .int .i64 o.size, .bool o.at_.f0, .bool o.at_.f1, .bool o.at_.f2, .bool o.at_.f3, .bool o.at_.f4, .bool o.at_.f5, .int .i64 o.other, .int .u64 o.too] 36)) (.cells #[.int .i64 0, .int .i64 0, .int .u8 0] 42)) (.cells #[.func (.func 38) #[.pointer (some ⟨B, 0, none⟩)] #[], .func (.func 39) #[.pointer (some ⟨B, 0, none⟩)] #[], .func (.func 40) #[.pointer (some ⟨B, 0, none⟩)] #[], .func (.func 41) #[.pointer (some ⟨B, 0, none⟩)] #[], .func (.func 42) #[.pointer (some ⟨B, 0, none⟩)] #[], .func (.func 43) #[.pointer (some ⟨B, 0, none⟩)] #[], .func (.func 44) #[.pointer (some ⟨B, 0, none⟩)] #[], .func (.func 45) #[.pointer (some ⟨B, 0, none⟩)] #[]] 82)
  have hl := blk_new ((w.alloc (.cells #[.int .i64 o.kind, .int .i64 o.sp, .int .i64 o.ak, .bool o.ap, .int .u64 o.av, .int .u8 o.byte, .int .u64 o.va, .int .i64 o.size, .bool o.at_.f0, .bool o.at_.f1, .bool o.at_.f2, .bool o.at_.f3, .bool o.at_.f4, .bool o.at_.f5, .int .i64 o.other, .int .u64 o.too] 36)).alloc (.cells #[.int .i64 0, .int .i64 0, .int .u8 0] 42)) (.cells #[.func (.func 38) #[.pointer (some ⟨B, 0, none⟩)] #[], .func (.func 39) #[.pointer (some ⟨B, 0, none⟩)] #[], .func (.func 40) #[.pointer (some ⟨B, 0, none⟩)] #[], .func (.func 41) #[.pointer (some ⟨B, 0, none⟩)] #[], .func (.func 42) #[.pointer (some ⟨B, 0, none⟩)] #[], .func (.func 43) #[.pointer (some ⟨B, 0, none⟩)] #[], .func (.func 44) #[.pointer (some ⟨B, 0, none⟩)] #[], .func (.func 45) #[.pointer (some ⟨B, 0, none⟩)] #[]] 82)
  have hb : Below w.heap.size w (((w.alloc (.cells #[.int .i64 o.kind, .int .i64 o.sp, .int .i64 o.ak, .bool o.ap, .int .u64 o.av, .int .u8 o.byte, .int .u64 o.va, .int .i64 o.size, .bool o.at_.f0, .bool o.at_.f1, .bool o.at_.f2, .bool o.at_.f3, .bool o.at_.f4, .bool o.at_.f5, .int .i64 o.other, .int .u64 o.too] 36)).alloc (.cells #[.int .i64 0, .int .i64 0, .int .u8 0] 42)).alloc (.cells #[.func (.func 38) #[.pointer (some ⟨B, 0, none⟩)] #[], .func (.func 39) #[.pointer (some ⟨B, 0, none⟩)] #[], .func (.func 40) #[.pointer (some ⟨B, 0, none⟩)] #[], .func (.func 41) #[.pointer (some ⟨B, 0, none⟩)] #[], .func (.func 42) #[.pointer (some ⟨B, 0, none⟩)] #[], .func (.func 43) #[.pointer (some ⟨B, 0, none⟩)] #[], .func (.func 44) #[.pointer (some ⟨B, 0, none⟩)] #[], .func (.func 45) #[.pointer (some ⟨B, 0, none⟩)] #[]] 82)) := (((Below.refl _ w).alloc (Nat.le_refl _) _).alloc (by simp) _).alloc (by simp; omega) _
  have hs1 : (w.alloc (.cells #[.int .i64 o.kind, .int .i64 o.sp, .int .i64 o.ak, .bool o.ap, .int .u64 o.av, .int .u8 o.byte, .int .u64 o.va, .int .i64 o.size, .bool o.at_.f0, .bool o.at_.f1, .bool o.at_.f2, .bool o.at_.f3, .bool o.at_.f4, .bool o.at_.f5, .int .i64 o.other, .int .u64 o.too] 36)).heap.size = D + 1 := by simp [hD]
  have hs2 : ((w.alloc (.cells #[.int .i64 o.kind, .int .i64 o.sp, .int .i64 o.ak, .bool o.ap, .int .u64 o.av, .int .u8 o.byte, .int .u64 o.va, .int .i64 o.size, .bool o.at_.f0, .bool o.at_.f1, .bool o.at_.f2, .bool o.at_.f3, .bool o.at_.f4, .bool o.at_.f5, .int .i64 o.other, .int .u64 o.too] 36)).alloc (.cells #[.int .i64 0, .int .i64 0, .int .u8 0] 42)).heap.size = D + 1 + 1 := by simp [hD]
  rw [hD] at hk
  rw [hs1] at hz
  rw [hs2] at hl
  generalize ((w.alloc (.cells #[.int .i64 o.kind, .int .i64 o.sp, .int .i64 o.ak, .bool o.ap, .int .u64 o.av, .int .u8 o.byte, .int .u64 o.va, .int .i64 o.size, .bool o.at_.f0, .bool o.at_.f1, .bool o.at_.f2, .bool o.at_.f3, .bool o.at_.f4, .bool o.at_.f5, .int .i64 o.other, .int .u64 o.too] 36)).alloc (.cells #[.int .i64 0, .int .i64 0, .int .u8 0] 42)).alloc (.cells #[.func (.func 38) #[.pointer (some ⟨B, 0, none⟩)] #[], .func (.func 39) #[.pointer (some ⟨B, 0, none⟩)] #[], .func (.func 40) #[.pointer (some ⟨B, 0, none⟩)] #[], .func (.func 41) #[.pointer (some ⟨B, 0, none⟩)] #[], .func (.func 42) #[.pointer (some ⟨B, 0, none⟩)] #[], .func (.func 43) #[.pointer (some ⟨B, 0, none⟩)] #[], .func (.func 44) #[.pointer (some ⟨B, 0, none⟩)] #[], .func (.func 45) #[.pointer (some ⟨B, 0, none⟩)] #[]] 82) = w1 at *
  clear hs1 hs2
  obtain ⟨o0, o1, o2, o3, o4, o5, o6, o7, o8, o9, o10, o11, o12, o13, o14, o15⟩ := cells16 hk
  have q0 : w1.cell? ⟨D + 1 + 1, o.kind.toNat, none⟩ = some (.func (.func fv) #[.pointer (some ⟨B, 0, none⟩)] #[]) := by
    refine (blk_cell hl o.kind.toNat).trans ?_
    have e : #[.func (.func 38) #[.pointer (some ⟨B, 0, none⟩)] #[], .func (.func 39) #[.pointer (some ⟨B, 0, none⟩)] #[], .func (.func 40) #[.pointer (some ⟨B, 0, none⟩)] #[], .func (.func 41) #[.pointer (some ⟨B, 0, none⟩)] #[], .func (.func 42) #[.pointer (some ⟨B, 0, none⟩)] #[], .func (.func 43) #[.pointer (some ⟨B, 0, none⟩)] #[], .func (.func 44) #[.pointer (some ⟨B, 0, none⟩)] #[], .func (.func 45) #[.pointer (some ⟨B, 0, none⟩)] #[]] = (doF.map (fun f => Value.func (.func f) #[.pointer (some ⟨B, 0, none⟩)] #[])).toArray := rfl
    rw [e, List.getElem?_toArray, List.getElem?_map, HFV.out]
    rfl
  have hn2 : D + 1 + 1 ∉ [B, pm, bm] := fun hm => by have := HLT.out _ hm; omega
  have hn1 : D + 1 ∉ [B, pm, bm] := fun hm => by have := HLT.out _ hm; omega
  have hn0 : D ∉ [B, pm, bm] := fun hm => by have := HLT.out _ hm; omega
  have HN0 := Aside0.mk hn2
  have HNZ := Aside0.mk hn1
  have HN2 := Aside0.mk hn0
  have HZ := Aside0.mk hz
  have HB := Aside0.mk hb
  clear hk hz hl hb hn0 hn1 hn2 hd0 hd8
  refine start_ (n := 7) (S := fun w' => w'.cell? ⟨D + 1 + 1, o.kind.toNat, none⟩ = some (.func (.func fv) #[.pointer (some ⟨B, 0, none⟩)] #[]) ∧ w'.cell? ⟨D, 0, none⟩ = some (.int .i64 o.kind) ∧ w'.cell? ⟨D, 1, none⟩ = some (.int .i64 o.sp) ∧ w'.cell? ⟨D, 2, none⟩ = some (.int .i64 o.ak) ∧ w'.cell? ⟨D, 3, none⟩ = some (.bool o.ap) ∧ w'.cell? ⟨D, 4, none⟩ = some (.int .u64 o.av) ∧ w'.cell? ⟨D, 5, none⟩ = some (.int .u8 o.byte) ∧ w'.cell? ⟨D, 6, none⟩ = some (.int .u64 o.va) ∧ w'.cell? ⟨D, 7, none⟩ = some (.int .i64 o.size) ∧ w'.cell? ⟨D, 8, none⟩ = some (.bool o.at_.f0) ∧ w'.cell? ⟨D, 9, none⟩ = some (.bool o.at_.f1) ∧ w'.cell? ⟨D, 10, none⟩ = some (.bool o.at_.f2) ∧ w'.cell? ⟨D, 11, none⟩ = some (.bool o.at_.f3) ∧ w'.cell? ⟨D, 12, none⟩ = some (.bool o.at_.f4) ∧ w'.cell? ⟨D, 13, none⟩ = some (.bool o.at_.f5) ∧ w'.cell? ⟨D, 14, none⟩ = some (.int .i64 o.other) ∧ w'.cell? ⟨D, 15, none⟩ = some (.int .u64 o.too)) (ds := [6]) #[false, false, false, false, false, false, false] (by kernel_rfl) rfl rfl ⟨q0, o0, o1, o2, o3, o4, o5, o6, o7, o8, o9, o10, o11, o12, o13, o14, o15⟩ (fun hHeld => ?_)
  refine pure_ (i := 0) (N := some 32) (v := ?_) (a' := ?_) #[true, false, false, false, false, false, false] rfl rfl (by kernel_rfl) (fun _ _ _ h => h) (Or.inl ⟨by rfl, ?_⟩) ?_ ?_
  rotate_left
  · intro w'
    go_simp
    with_reducible rfl
  rotate_left
  · simp only [Act.put, List.setIfInBounds_toArray, List.set_cons_zero, List.set_cons_succ, i64_w, i32_w]
    rfl
  refine take_ (i := 1) (N := some 33) (v := ?_) (a' := ?_) #[true, true, false, false, false, false, false] rfl rfl (by kernel_rfl) (fun _ _ _ h => h) (Or.inl ⟨by rfl, ?_⟩) hHeld ?_ ?_
  rotate_left
  · rintro w' ⟨s0, s1, s2, s3, s4, s5, s6, s7, s8, s9, s10, s11, s12, s13, s14, s15, s16⟩
    go_simp
    with_reducible rfl
  rotate_left
  · simp only [Act.put, List.setIfInBounds_toArray, List.set_cons_zero, List.set_cons_succ, i64_w, i32_w]
    rfl
  refine pure_ (i := 2) (N := some 34) (v := ?_) (a' := ?_) #[true, true, true, false, false, false, false] rfl rfl (by kernel_rfl) (fun _ _ _ h => h) (Or.inl ⟨by rfl, ?_⟩) ?_ ?_
  rotate_left
  · intro w'
    go_simp
    with_reducible rfl
  rotate_left
  · simp only [Act.put, List.setIfInBounds_toArray, List.set_cons_zero, List.set_cons_succ, i64_w, i32_w]
    rfl
  refine take_ (i := 3) (N := some 35) (v := ?_) (a' := ?_) #[true, true, true, true, false, false, false] rfl rfl (by kernel_rfl) (fun _ _ _ h => h) (Or.inl ⟨by rfl, ?_⟩) hHeld ?_ ?_
  rotate_left
  · rintro w' ⟨s0, s1, s2, s3, s4, s5, s6, s7, s8, s9, s10, s11, s12, s13, s14, s15, s16⟩
    go_simp
    with_reducible rfl
  rotate_left
  · simp only [Act.put, List.setIfInBounds_toArray, List.set_cons_zero, List.set_cons_succ, i64_w, i32_w]
    rfl
  refine take_ (i := 4) (N := some 36) (v := ?_) (a' := ?_) #[true, true, true, true, true, false, false] rfl rfl (by kernel_rfl) (fun _ _ _ h => h) (Or.inl ⟨by rfl, ?_⟩) hHeld ?_ ?_
  rotate_left
  · rintro w' ⟨s0, s1, s2, s3, s4, s5, s6, s7, s8, s9, s10, s11, s12, s13, s14, s15, s16⟩
    go_simp
    with_reducible rfl
  rotate_left
  · simp only [Act.put, List.setIfInBounds_toArray, List.set_cons_zero, List.set_cons_succ, i64_w, i32_w]
    rfl
  refine one_ (i := 5) (N := some 37) #[true, true, true, true, true, true, false] rfl rfl (by kernel_rfl) (by decide) (fun K hK => ?_)
  refine goesv_ (f := fv) (first := #[.pointer (some ⟨B, 0, none⟩)]) (caps := #[]) (args := #[.pointer (some ⟨B, 0, none⟩), Value.agg #[.int .i64 o.kind, .int .i64 o.sp, .int .i64 o.ak, .bool o.ap, .int .u64 o.av, .int .u8 o.byte, .int .u64 o.va, .int .i64 o.size, .bool o.at_.f0, .bool o.at_.f1, .bool o.at_.f2, .bool o.at_.f3, .bool o.at_.f4, .bool o.at_.f5, .int .i64 o.other, .int .u64 o.too]]) (by rfl) rfl rfl (by first | rfl | (simp [Act.eval]; done)) HE.out (by (try simp only [List.map_toArray, List.map_cons, List.map_nil]); first | done | rfl) ?_
  refine (HC.out _ (below_step HB.out (Below.refl _ _).drew)).mono ?_
  rintro e w4 ⟨rfl, hm4, hv4⟩
  refine ⟨_, rfl, ?_⟩
  have HM4 := Aside0.mk hm4
  have HV4 := Aside0.mk hv4
  clear hm4 hv4
  have hz4 : w4.heap[D + 1]? = some (.cells #[.int .i64 0, .int .i64 0, .int .u8 0] 42 (0, 0)) := (HV4.out.block _ (blk_lt HZ.out) HNZ.out).trans HZ.out
  have HZ4 := Aside0.mk hz4
  obtain ⟨t0, t1, t2, t3, t4, t5, t6, t7, t8, t9, t10, t11, t12, t13, t14, t15, t16⟩ := hHeld
  refine hK.out _ _ ⟨HV4.out.cell t0 HN0.out, HV4.out.cell t1 HN2.out, HV4.out.cell t2 HN2.out, HV4.out.cell t3 HN2.out, HV4.out.cell t4 HN2.out, HV4.out.cell t5 HN2.out, HV4.out.cell t6 HN2.out, HV4.out.cell t7 HN2.out, HV4.out.cell t8 HN2.out, HV4.out.cell t9 HN2.out, HV4.out.cell t10 HN2.out, HV4.out.cell t11 HN2.out, HV4.out.cell t12 HN2.out, HV4.out.cell t13 HN2.out, HV4.out.cell t14 HN2.out, HV4.out.cell t15 HN2.out, HV4.out.cell t16 HN2.out⟩ (fun hHeld => ?_)
  clear hK K
  refine norm_ (a' := ?_) ?_ ?_
  rotate_left
  · show Act.put _ (some 37) _ = _
    simp only [Act.put, List.setIfInBounds_toArray, List.set_cons_zero, List.set_cons_succ, i64_w, i32_w]
    rfl
  refine last_ (i := 6) (N := none) #[true, true, true, true, true, true, true] rfl rfl (by kernel_rfl) (by decide) (fun K hK => ?_)
  refine skip_ (w1 := _) (by rfl) rfl (run_store_reply rfl rfl rfl hz4) ?_
  refine hK.out _ _ ?_
  clear hK K
  refine done_ (by kernel_rfl) ?_
  (try simp only [Exit.inBlock, Exit.then])
  clear hHeld
  have hv5 := ((Mv.of_below HB.out.drew).then HV4.out : Mv [B, pm, bm] w w4)
  have HV5 := Aside0.mk hv5
  clear hv5
  go_wp2_with fail
  refine bodyPost_ret (results_cell_row rfl _ _ (D + 1) 42 _ (0, 0) _ rfl (sb_same HZ4.out _) Try.underlying42 rfl (by kernel_rfl)) rfl ?_
  exact ⟨rfl, HM4.out.move (fun k hk => sb_other _ (fun e => HNZ.out (e ▸ hk))), HV5.out.setBlock (.inr (by omega)) _⟩
end
end Go.Proofs.Ytalmemcidbmdgaa.PM



/- A model (layer 16): Do, in one. -/
set_option linter.unusedVariables false
set_option linter.unusedSimpArgs false
namespace Go.Proofs.Ytalmemcidbmdgaa.PM
open Go.RowKit Go.Proofs.YtalmemcidbmdgaaW.PrintWords Go.Proofs.YtalmemcidbmdgaaW.PrintLast Go.Proofs.YtalmemcidbmdgaaW.PrintMore Go.Proofs.Ytalmemcidbmdgaa.PageG
attribute [local go_sem] max2_int min2_int max_two min_two max_three min_three max_four min_four   -- for this text's walks alone
/-- A space's pages, as they rise. -/
def pagesS (s : MS) (sp : Int) : List Pg := (sel sp s.L).mergeSort (fun p q => decide (p.f0 ≤ q.f0))
def dropAt (sp : Int) (t : MS) (p : Pg) : MS := match find t.L sp p.f0.toNat with | some i => unmapS t i | none => t
def destS (s : MS) (sp : Int) : MS := (pagesS s sp).foldl (dropAt sp) s
def destroyR (s : MS) (o : OpS) : Int × MS := if isAll s.n [o.sp] = true then (0, destS s o.sp) else (1, s)
def protectR (s : MS) (o : OpS) : Int × MS := if o.at_.f4 = true then (1, s) else changeR s o (protS s o.at_)
def rep3 (r : Int × MS) : (Int × Int × Int) × MS := ((r.1, 0, 0), r.2)
/-- Do. -/
def doR (s : MS) (o : OpS) : (Int × Int × Int) × MS :=
  if o.kind = 0 then accessR s o
  else if o.kind = 1 then rep3 (mappedR s o)
  else if o.kind = 2 then rep3 (changeR s o (unmapS s))
  else if o.kind = 3 then rep3 (protectR s o)
  else if o.kind = 4 then rep3 (changeR s o (clearS s))
  else if o.kind = 5 then rep3 (shareR s o)
  else if o.kind = 6 then rep3 (growE s o, s)
  else if o.kind = 7 then rep3 (destroyR s o)
  else rep3 (1, s)
theorem pagesS_perm (s : MS) (sp : Int) : (pagesS s sp).Perm (sel sp s.L) := List.mergeSort_perm _ _
theorem DS.fold {s : MS} {sp : Int} {l : List Pg} (hw : WfL s.L) (hp : l.Perm (sel sp s.L)) : ∀ j, j ≤ l.length → DS s sp l j ((l.take j).foldl (dropAt sp) s)
  | 0, _ => DS.start hw hp
  | j + 1, hj => by
    have ih := DS.fold hw hp j (by omega)
    have hlt : j < l.length := by omega
    obtain ⟨i, x, hi, hx, hxp, hd⟩ := ih.next (List.getElem?_eq_getElem hlt)
    rw [List.take_succ_eq_append_getElem hlt, List.foldl_append]
    generalize (l.take j).foldl (dropAt sp) s = t at *
    show DS s sp l (j + 1) (dropAt sp t l[j])
    have hok := ih.wf.ok x (List.mem_of_getElem? hi)
    have hf : find t.L sp (l[j]).f0.toNat = some i := find_of ih.wf hi (by rw [← hxp]; exact hit_iff.2 ⟨hx, hok.st⟩)
    unfold dropAt
    rw [hf]
    show DS s sp l (j + 1) (unmapS t i)
    unfold unmapS
    rw [hi]
    exact hd
theorem dest_gone {s : MS} (hw : WfL s.L) (sp : Int) : Gone s sp (destS s sp) := by
  have h := DS.fold hw (pagesS_perm s sp) (pagesS s sp).length (Nat.le_refl _)
  rw [List.take_length] at h
  exact h.end
theorem BRel.congr {l : ML.En} {b b' : List Bt} (h : BRel l b) (e : ∀ r o, getB b' r o = getB b r o) : BRel l b' :=
  ⟨h.form, fun r o v hm => by rw [e]; exact h.has r o v hm, fun r o hm => by rw [e]; exact h.hasnt r o hm⟩
section
variable {w w' : World} {B pm bm : Nat} {s : MS}
theorem Mo.congr {s' : MS} (h : Mo w B pm bm s) (h1 : s'.n = s.n) (h2 : s'.L = s.L) (h3 : s'.made = s.made) (h4 : ∀ r o, getB s'.by_ r o = getB s.by_ r o) : Mo w B pm bm s' := by
  obtain ⟨l, hl, hr⟩ := h.hm
  exact ⟨by rw [h1, h3]; exact h.hb, by rw [h2]; exact h.hp, ⟨l, hl, hr.congr h4⟩, h.ne⟩
theorem gone_one {s t t' : MS} {sp : Int} (h : Gone s sp t) (h' : Gone s sp t') : t'.n = t.n ∧ t'.L = t.L ∧ t'.made = t.made ∧ ∀ r o, getB t'.by_ r o = getB t.by_ r o := by
  refine ⟨h'.n.trans h.n.symm, h'.L.trans h.L.symm, h'.made.trans h.made.symm, fun r o => ?_⟩
  rw [h.by_, h'.by_, h'.L, h.L]
theorem dest2_calls (h : Mo w B pm bm s) (hw : WfL s.L) (hf : s.L.length ≤ 100000) (o : OpS) :
    Calls Try.prog 45 #[.pointer (some ⟨B, 0, none⟩), Value.agg #[.int .i64 o.kind, .int .i64 o.sp, .int .i64 o.ak, .bool o.ap, .int .u64 o.av, .int .u8 o.byte, .int .u64 o.va, .int .i64 o.size, .bool o.at_.f0, .bool o.at_.f1, .bool o.at_.f2, .bool o.at_.f3, .bool o.at_.f4, .bool o.at_.f5, .int .i64 o.other, .int .u64 o.too]] w (Rep3 w B pm bm (rep3 (destroyR s o))) := by
  refine (destroy_calls h hw hf o).mono ?_
  rintro e w' ⟨n, t, rfl, hc, hm, hv⟩
  unfold destroyR
  rcases hc with ⟨hi, rfl, rfl⟩ | ⟨hi, rfl, hg⟩
  · rw [if_neg (by rw [hi]; simp)]
    exact ⟨rfl, hm, hv⟩
  · rw [if_pos hi]
    obtain ⟨e1, e2, e3, e4⟩ := gone_one hg (dest_gone hw o.sp)
    exact ⟨rfl, hm.congr e1 e2 e3 e4, hv⟩
set_option maxHeartbeats 8000000 in
set_option maxRecDepth 100000 in
theorem do_bad (h : Mo w B pm bm s) (o : OpS) (hk : ¬ (0 ≤ o.kind ∧ o.kind < 8)) :
    Calls Try.prog 14 #[.pointer (some ⟨B, 0, none⟩), Value.agg #[.int .i64 o.kind, .int .i64 o.sp, .int .i64 o.ak, .bool o.ap, .int .u64 o.av, .int .u8 o.byte, .int .u64 o.va, .int .i64 o.size, .bool o.at_.f0, .bool o.at_.f1, .bool o.at_.f2, .bool o.at_.f3, .bool o.at_.f4, .bool o.at_.f5, .int .i64 o.other, .int .u64 o.too]] w (Rep3 w B pm bm (rep3 (1, s))) := by
  have HM := Aside0.mk h
  clear h
  obtain ⟨D, hD⟩ : ∃ D, w.heap.size = D := ⟨_, rfl⟩
  by_cases h0 : o.kind < 0
  · have hd0 : decide (o.kind < 0) = true := decide_eq_true h0
    clear hk h0
    go_enter Try.func14, Try.ntmps14
    go_upto_region 2 with fail
    have hz := blk_new (w.alloc (.cells #[.int .i64 o.kind, .int .i64 o.sp, .int .i64 o.ak, .bool o.ap, .int .u64 o.av, .int .u8 o.byte, .int .u64 o.va, .int .i64 o.size, .bool o.at_.f0, .bool o.at_.f1, .bool o.at_.f2, .bool o.at_.f3, .bool o.at_.f4, .bool o.at_.f5, .int .i64 o.other, .int .u64 o.too] 36)) (.cells #[.int .i64 0, .int .i64 0, .int .u8 0] 42)
    have hb : Below w.heap.size w ((w.alloc (.cells #[.int .i64 o.kind, .int .i64 o.sp, .int .i64 o.ak, .bool o.ap, .int .u64 o.av, .int .u8 o.byte, .int .u64 o.va, .int .i64 o.size, .bool o.at_.f0, .bool o.at_.f1, .bool o.at_.f2, .bool o.at_.f3, .bool o.at_.f4, .bool o.at_.f5, .int .i64 o.other, .int .u64 o.too] 36)).alloc (.cells #[.int .i64 0, .int .i64 0, .int .u8 0] 42)) := ((Below.refl _ w).alloc (Nat.le_refl _) _).alloc (by simp) _
    have hs1 : (w.alloc (.cells #[.int .i64 o.kind, .int .i64 o.sp, .int .i64 o.ak, .bool o.ap, .int .u64 o.av, .int .u8 o.byte, .int .u64 o.va, .int .i64 o.size, .bool o.at_.f0, .bool o.at_.f1, .bool o.at_.f2, .bool o.at_.f3, .bool o.at_.f4, .bool o.at_.f5, .int .i64 o.other, .int .u64 o.too] 36)).heap.size = D + 1 := by simp [hD]
    rw [hs1] at hz
    generalize (w.alloc (.cells #[.int .i64 o.kind, .int .i64 o.sp, .int .i64 o.ak, .bool o.ap, .int .u64 o.av, .int .u8 o.byte, .int .u64 o.va, .int .i64 o.size, .bool o.at_.f0, .bool o.at_.f1, .bool o.at_.f2, .bool o.at_.f3, .bool o.at_.f4, .bool o.at_.f5, .int .i64 o.other, .int .u64 o.too] 36)).alloc (.cells #[.int .i64 0, .int .i64 0, .int .u8 0] 42) = w1 at *
    have HZ := Aside0.mk hz
    have HB := Aside0.mk hb
    clear hs1 hz hb hd0
    go_wp2_with fail
    refine (model_told.calls 1 _ _ _ w1 rfl).mono ?_
    rintro e w2z ⟨rfl, hb2⟩
    have hz2 := blk_below HZ.out hb2
    have HB2 := Aside0.mk (below_step HB.out hb2)
    obtain ⟨z0, z1, z2⟩ := cells3 hz2
    have y0 := blk_frozen hz2 0
    have y1 := blk_frozen hz2 1
    have y2 := blk_frozen hz2 2
    clear hb2
    go_wp2_with fail
    rw [set3 hz2]
    refine bodyPost_ret (results_cell_row rfl _ _ (D + 1) 42 _ (0, 0) _ rfl (sb_same hz2 _) Try.underlying42 rfl (by kernel_rfl)) rfl ?_
    exact Rep3.same HM.out (below_sb HB2.out (by omega) _) rfl
  · have hd0 : decide (o.kind < 0) = false := decide_eq_false h0
    have hd8 : decide (8 ≤ o.kind) = true := decide_eq_true (by omega)
    clear hk h0
    go_enter Try.func14, Try.ntmps14
    go_upto_region 2 with fail
    have hz := blk_new (w.alloc (.cells #[.int .i64 o.kind, .int .i64 o.sp, .int .i64 o.ak, .bool o.ap, .int .u64 o.av, .int .u8 o.byte, .int .u64 o.va, .int .i64 o.size, .bool o.at_.f0, .bool o.at_.f1, .bool o.at_.f2, .bool o.at_.f3, .bool o.at_.f4, .bool o.at_.f5, .int .i64 o.other, .int .u64 o.too] 36)) (.cells #[.int .i64 0, .int .i64 0, .int .u8 0] 42)
    have hb : Below w.heap.size w ((w.alloc (.cells #[.int .i64 o.kind, .int .i64 o.sp, .int .i64 o.ak, .bool o.ap, .int .u64 o.av, .int .u8 o.byte, .int .u64 o.va, .int .i64 o.size, .bool o.at_.f0, .bool o.at_.f1, .bool o.at_.f2, .bool o.at_.f3, .bool o.at_.f4, .bool o.at_.f5, .int .i64 o.other, .int .u64 o.too] 36)).alloc (.cells #[.int .i64 0, .int .i64 0, .int .u8 0] 42)) := ((Below.refl _ w).alloc (Nat.le_refl _) _).alloc (by simp) _
    have hs1 : (w.alloc (.cells #[.int .i64 o.kind, .int .i64 o.sp, .int .i64 o.ak, .bool o.ap, .int .u64 o.av, .int .u8 o.byte, .int .u64 o.va, .int .i64 o.size, .bool o.at_.f0, .bool o.at_.f1, .bool o.at_.f2, .bool o.at_.f3, .bool o.at_.f4, .bool o.at_.f5, .int .i64 o.other, .int .u64 o.too] 36)).heap.size = D + 1 := by simp [hD]
    rw [hs1] at hz
    generalize (w.alloc (.cells #[.int .i64 o.kind, .int .i64 o.sp, .int .i64 o.ak, .bool o.ap, .int .u64 o.av, .int .u8 o.byte, .int .u64 o.va, .int .i64 o.size, .bool o.at_.f0, .bool o.at_.f1, .bool o.at_.f2, .bool o.at_.f3, .bool o.at_.f4, .bool o.at_.f5, .int .i64 o.other, .int .u64 o.too] 36)).alloc (.cells #[.int .i64 0, .int .i64 0, .int .u8 0] 42) = w1 at *
    have HZ := Aside0.mk hz
    have HB := Aside0.mk hb
    clear hs1 hz hb hd0
    go_wp2_with fail
    refine (model_told.calls 1 _ _ _ w1 rfl).mono ?_
    rintro e w2z ⟨rfl, hb2⟩
    have hz2 := blk_below HZ.out hb2
    have HB2 := Aside0.mk (below_step HB.out hb2)
    obtain ⟨z0, z1, z2⟩ := cells3 hz2
    have y0 := blk_frozen hz2 0
    have y1 := blk_frozen hz2 1
    have y2 := blk_frozen hz2 2
    clear hb2
    go_wp2_with fail
    rw [set3 hz2]
    refine bodyPost_ret (results_cell_row rfl _ _ (D + 1) 42 _ (0, 0) _ rfl (sb_same hz2 _) Try.underlying42 rfl (by kernel_rfl)) rfl ?_
    exact Rep3.same HM.out (below_sb HB2.out (by omega) _) rfl
theorem do_calls (h : Mo w B pm bm s) (hw : WfL s.L) (hf : s.L.length ≤ 100000) (o : OpS) (ho : OkO o) (hn : s.n ≤ 64) (hm0 : 0 ≤ s.made) (hm1 : s.made < 1000000) :
    Calls Try.prog 14 #[.pointer (some ⟨B, 0, none⟩), Value.agg #[.int .i64 o.kind, .int .i64 o.sp, .int .i64 o.ak, .bool o.ap, .int .u64 o.av, .int .u8 o.byte, .int .u64 o.va, .int .i64 o.size, .bool o.at_.f0, .bool o.at_.f1, .bool o.at_.f2, .bool o.at_.f3, .bool o.at_.f4, .bool o.at_.f5, .int .i64 o.other, .int .u64 o.too]] w (Rep3 w B pm bm (doR s o)) := by
  have hc : o.kind = 0 ∨ o.kind = 1 ∨ o.kind = 2 ∨ o.kind = 3 ∨ o.kind = 4 ∨ o.kind = 5 ∨ o.kind = 6 ∨ o.kind = 7 ∨ ¬ (0 ≤ o.kind ∧ o.kind < 8) := by omega
  unfold doR
  rcases hc with hk | hk | hk | hk | hk | hk | hk | hk | hk
  · rw [if_pos hk]
    exact do_one h o (by omega) _ (by rw [hk]; rfl) (enters_ Try.func38 (by rfl) (by kernel_rfl)) _ (fun W hb => access_calls (h.below hb) hw o ho)
  · rw [if_neg (by omega), if_pos hk]
    exact do_one h o (by omega) _ (by rw [hk]; rfl) (enters_ Try.func39 (by rfl) (by kernel_rfl)) _ (fun W hb => (mapped_calls (h.below hb) hw hf o ho.va hn hm0 hm1).mono (fun e w' h => h))
  · rw [if_neg (by omega), if_neg (by omega), if_pos hk]
    exact do_one h o (by omega) _ (by rw [hk]; rfl) (enters_ Try.func40 (by rfl) (by kernel_rfl)) _ (fun W hb => (unmap_calls (h.below hb) hw hf o ho).mono (fun e w' h => h))
  · rw [if_neg (by omega), if_neg (by omega), if_neg (by omega), if_pos hk]
    exact do_one h o (by omega) _ (by rw [hk]; rfl) (enters_ Try.func41 (by rfl) (by kernel_rfl)) _ (fun W hb => (protect_calls (h.below hb) hw hf o ho).mono (fun e w' h => h))
  · rw [if_neg (by omega), if_neg (by omega), if_neg (by omega), if_neg (by omega), if_pos hk]
    exact do_one h o (by omega) _ (by rw [hk]; rfl) (enters_ Try.func42 (by rfl) (by kernel_rfl)) _ (fun W hb => (clear_calls (h.below hb) hw hf o ho).mono (fun e w' h => h))
  · rw [if_neg (by omega), if_neg (by omega), if_neg (by omega), if_neg (by omega), if_neg (by omega), if_pos hk]
    exact do_one h o (by omega) _ (by rw [hk]; rfl) (enters_ Try.func43 (by rfl) (by kernel_rfl)) _ (fun W hb => (share_calls (h.below hb) hw hf o ho hn).mono (fun e w' h => h))
  · rw [if_neg (by omega), if_neg (by omega), if_neg (by omega), if_neg (by omega), if_neg (by omega), if_neg (by omega), if_pos hk]
    exact do_one h o (by omega) _ (by rw [hk]; rfl) (enters_ Try.func44 (by rfl) (by kernel_rfl)) _ (fun W hb => (grow_calls (h.below hb) o).mono (fun e w' hh => ⟨hh.1, (h.below hb).below hh.2, Mv.of_below hh.2⟩))
  · rw [if_neg (by omega), if_neg (by omega), if_neg (by omega), if_neg (by omega), if_neg (by omega), if_neg (by omega), if_neg (by omega), if_pos hk]
    exact do_one h o (by omega) _ (by rw [hk]; rfl) (enters_ Try.func45 (by rfl) (by kernel_rfl)) _ (fun W hb => dest2_calls (h.below hb) hw hf o)
  · rw [if_neg (by omega), if_neg (by omega), if_neg (by omega), if_neg (by omega), if_neg (by omega), if_neg (by omega), if_neg (by omega), if_neg (by omega)]
    exact do_bad h o hk
end
end Go.Proofs.Ytalmemcidbmdgaa.PM


/- A model (layer 16): what stays behind every operation: plain. -/
set_option linter.unusedVariables false
set_option linter.unusedSimpArgs false
namespace Go.Proofs.Ytalmemcidbmdgaa.PM
open Go.RowKit Go.Proofs.YtalmemcidbmdgaaW.PrintWords Go.Proofs.YtalmemcidbmdgaaW.PrintLast Go.Proofs.YtalmemcidbmdgaaW.PrintMore Go.Proofs.Ytalmemcidbmdgaa.PageG
attribute [local go_sem] max2_int min2_int max_two min_two max_three min_three max_four min_four   -- for this text's walks alone
/-- What is true of a model behind k operations. -/
structure WfK (k : Nat) (s : MS) : Prop where
  n0 : 0 ≤ s.n
  n1 : s.n ≤ 64
  wl : WfL s.L
  few : s.L.length ≤ k
  made0 : 0 ≤ s.made
  made1 : s.made ≤ (k : Int)
  pa : ∀ x ∈ s.L, x.f1.f2 < s.made
  sp : ∀ x ∈ s.L, x.f0 < s.n
  rs : ∀ x ∈ s.L, ∀ y ∈ s.L, x.f1.f2 = y.f1.f2 → x.f1.f1 = y.f1.f1
  bok : ∀ b ∈ s.by_, 0 ≤ b.f0 ∧ b.f0 < s.made ∧ U64 b.f1 ∧ 0 ≤ b.f2 ∧ b.f2 < 256
  bof : ∀ b ∈ s.by_, ∀ x ∈ s.L, x.f1.f2 = b.f0 → b.f1 < ((2 ^ (13 + 3 * szN x) : Nat) : Int)
  bnd : s.by_.Pairwise (fun a b => ¬ (a.f0 = b.f0 ∧ a.f1 = b.f1))
  blen : s.by_.length ≤ k
theorem WfK.new {n : Int} (h0 : 0 ≤ n) (h1 : n ≤ 64) : WfK 0 ⟨n, [], [], 0⟩ :=
  ⟨h0, h1, ⟨fun x hx => (by cases hx), List.Pairwise.nil⟩, by simp, by simp, by simp, fun x hx => (by cases hx), fun x hx => (by cases hx), fun x hx => (by cases hx), fun x hx => (by cases hx), fun x hx => (by cases hx), List.Pairwise.nil, by simp⟩
theorem WfK.up {k m : Nat} {s : MS} (h : WfK k s) (hm : k ≤ m) : WfK m s :=
  ⟨h.n0, h.n1, h.wl, by have := h.few; omega, h.made0, by have := h.made1; omega, h.pa, h.sp, h.rs, h.bok, h.bof, h.bnd, by have := h.blen; omega⟩
theorem mem_set {α : Type} {l : List α} {i : Nat} {a y : α} (h : y ∈ l.set i a) : y ∈ l ∨ y = a := List.mem_or_eq_of_mem_set h
theorem meets_same {x x' y : Ent} (h0 : x'.f0 = x.f0) (h1 : x'.f1.f0 = x.f1.f0) (h2 : x'.f1.f1 = x.f1.f1) : (meets x' y ↔ meets x y) ∧ (meets y x' ↔ meets y x) := by
  have e1 : vaN x' = vaN x := by unfold vaN; rw [h1]
  have e2 : szN x' = szN x := by unfold szN; rw [h2]
  unfold meets
  rw [h0, e1, e2]
  exact ⟨Iff.rfl, Iff.rfl⟩
theorem pw_set {α : Type} {R : α → α → Prop} {a : α} : ∀ {l : List α} {i : Nat} {x : α}, l[i]? = some x → (∀ y, R x y → R a y) → (∀ y, R y x → R y a) → l.Pairwise R → (l.set i a).Pairwise R
  | [], i, x, h, _, _, _ => by simp at h
  | b :: l, 0, x, h, h1, h2, hp => by
    simp at h
    subst h
    have := List.pairwise_cons.1 hp
    exact List.pairwise_cons.2 ⟨fun y hy => h1 y (this.1 y hy), this.2⟩
  | b :: l, i + 1, x, h, h1, h2, hp => by
    have hc := List.pairwise_cons.1 hp
    have hx : l[i]? = some x := by simpa using h
    refine List.pairwise_cons.2 ⟨fun y hy => ?_, pw_set hx h1 h2 hc.2⟩
    rcases mem_set hy with hy | rfl
    · exact hc.1 y hy
    · exact h2 b (hc.1 x (List.mem_of_getElem? hx))
theorem WfK.set {k : Nat} {s : MS} (h : WfK k s) {i : Nat} {x : Ent} (hi : s.L[i]? = some x) (p : Pg) (h0 : p.f0 = x.f1.f0) (h1 : p.f1 = x.f1.f1) (h2 : p.f2 = x.f1.f2) : WfK k { s with L := s.L.set i ⟨x.f0, p⟩ } := by
  have hx := List.mem_of_getElem? hi
  have hok := h.wl.ok x hx
  have hne : OkE ⟨x.f0, p⟩ := ⟨hok.sp0, hok.sp1, by show p.f0 = ((p.f0.toNat : Nat) : Int); rw [h0]; exact hok.va, by show p.f0.toNat < _; rw [h0]; exact hok.va1, by show p.f1 = ((p.f1.toNat : Nat) : Int); rw [h1]; exact hok.sz, by show p.f1.toNat < _; rw [h1]; exact hok.sz1, by show bs p.f0.toNat p.f1.toNat = p.f0.toNat; rw [h0, h1]; exact hok.st, by show 0 ≤ p.f2; rw [h2]; exact hok.pa0, by show p.f2 < _; rw [h2]; exact hok.pa1⟩
  have hm : ∀ y, (meets ⟨x.f0, p⟩ y ↔ meets x y) ∧ (meets y ⟨x.f0, p⟩ ↔ meets y x) := fun y => meets_same rfl h0 h1
  refine ⟨h.n0, h.n1, ⟨fun y hy => ?_, ?_⟩, by simpa using h.few, h.made0, h.made1, fun y hy => ?_, fun y hy => ?_, fun y hy z hz => ?_, h.bok, fun b hb y hy => ?_, h.bnd, h.blen⟩
  · rcases mem_set hy with hy | rfl
    · exact h.wl.ok y hy
    · exact hne
  · exact pw_set hi (fun y hy hc => hy ((hm y).1.1 hc)) (fun y hy hc => hy ((hm y).2.1 hc)) h.wl.apart
  · rcases mem_set hy with hy | rfl
    · exact h.pa y hy
    · show p.f2 < _
      rw [h2]
      exact h.pa x hx
  · rcases mem_set hy with hy | rfl
    · exact h.sp y hy
    · exact h.sp x hx
  · rcases mem_set hy with hy | rfl
    · rcases mem_set hz with hz | rfl
      · exact h.rs y hy z hz
      · show _ = p.f2 → _ = p.f1
        rw [h2, h1]
        exact h.rs y hy x hx
    · rcases mem_set hz with hz | rfl
      · show p.f2 = _ → p.f1 = _
        rw [h2, h1]
        exact h.rs x hx z hz
      · intro _; rfl
  · rcases mem_set hy with hy | rfl
    · exact h.bof b hb y hy
    · show p.f2 = _ → _ < ((2 ^ (13 + 3 * p.f1.toNat) : Nat) : Int)
      rw [h2, h1]
      exact h.bof b hb x hx
theorem WfK.byte {k : Nat} {s : MS} (h : WfK k s) {r o v : Int} {x : Ent} (hx : x ∈ s.L) (hr : x.f1.f2 = r) (ho : 0 ≤ o) (ho1 : o < ((2 ^ (13 + 3 * szN x) : Nat) : Int)) (ho2 : U64 o) (hv : 0 ≤ v ∧ v < 256) : WfK (k + 1) { s with by_ := putB s.by_ r o v } := by
  have hlen : (s.by_.filter (fun b => !(b.f0 == r && b.f1 == o))).length ≤ s.by_.length := List.length_filter_le _ _
  have hbl := h.blen
  have h' := h.up (Nat.le_succ k)
  refine ⟨h'.n0, h'.n1, h'.wl, h'.few, h'.made0, h'.made1, h'.pa, h'.sp, h'.rs, fun b hb => ?_, fun b hb y hy e => ?_, ?_, ?_⟩
  · rcases List.mem_cons.1 hb with rfl | hb
    · exact ⟨by rw [← hr]; exact (h.wl.ok x hx).pa0, by rw [← hr]; exact h.pa x hx, ho2, hv.1, hv.2⟩
    · exact h.bok b (List.mem_filter.1 hb).1
  · rcases List.mem_cons.1 hb with rfl | hb
    · have e2 := h.rs x hx y hy (by rw [hr, e])
      have e3 : szN y = szN x := by unfold szN; rw [e2]
      rw [e3]
      exact ho1
    · exact h.bof b (List.mem_filter.1 hb).1 y hy e
  · refine List.pairwise_cons.2 ⟨fun b hb hc => ?_, h.bnd.sublist List.filter_sublist⟩
    have := (List.mem_filter.1 hb).2
    simp [← hc.1, ← hc.2] at this
  · show (_ :: _).length ≤ _
    simp only [List.length_cons]
    omega
theorem WfK.drop {k : Nat} {s : MS} (h : WfK k s) (i : Nat) (x : Ent) : WfK k (dropS s i x) := by
  have hsub := List.eraseIdx_sublist s.L i
  have hb : ∀ b ∈ (dropS s i x).by_, b ∈ s.by_ := fun b hb => by
    have hb' : b ∈ (if winN (s.L.eraseIdx i) x.f1.f2 = 0 then cutB s.by_ x.f1.f2 else s.by_) := hb
    split at hb'
    · exact (List.mem_filter.1 hb').1
    · exact hb'
  have hbs : (dropS s i x).by_.Sublist s.by_ := by
    show (if winN (s.L.eraseIdx i) x.f1.f2 = 0 then cutB s.by_ x.f1.f2 else s.by_).Sublist s.by_
    split
    · exact List.filter_sublist
    · exact List.Sublist.refl _
  exact ⟨h.n0, h.n1, h.wl.erase i, Nat.le_trans hsub.length_le h.few, h.made0, h.made1, fun y hy => h.pa y (hsub.subset hy), fun y hy => h.sp y (hsub.subset hy), fun y hy z hz => h.rs y (hsub.subset hy) z (hsub.subset hz), fun b hm => h.bok b (hb b hm), fun b hm y hy => h.bof b (hb b hm) y (hsub.subset hy), h.bnd.sublist hbs, Nat.le_trans hbs.length_le h.blen⟩
theorem WfK.unmap {k : Nat} {s : MS} (h : WfK k s) (i : Nat) : WfK k (unmapS s i) := by
  unfold unmapS
  split
  · exact h.drop i _
  · exact h
theorem WfK.dropAt {k : Nat} {s : MS} (h : WfK k s) (sp : Int) (p : Pg) : WfK k (PM.dropAt sp s p) := by
  unfold PM.dropAt
  split
  · exact h.unmap _
  · exact h
theorem WfK.dest {k : Nat} {s : MS} (h : WfK k s) (sp : Int) : WfK k (destS s sp) := by
  unfold destS
  generalize pagesS s sp = l
  induction l generalizing s with
  | nil => exact h
  | cons p l ih => exact ih (h.dropAt sp p)
theorem WfK.prot {k : Nat} {s : MS} (h : WfK k s) (a : Atr) (i : Nat) : WfK k (protS s a i) := by
  unfold protS
  split
  · rename_i x hx
    exact h.set hx _ rfl rfl rfl
  · exact h
theorem WfK.clear {k : Nat} {s : MS} (h : WfK k s) (i : Nat) : WfK k (clearS s i) := by
  unfold clearS
  split
  · rename_i x hx
    exact h.set hx _ rfl rfl rfl
  · exact h
theorem WfK.change {k : Nat} {s : MS} (h : WfK k s) (o : OpS) (f : Nat → MS) (hf : ∀ i, WfK k (f i)) : WfK k (changeR s o f).2 := by
  unfold changeR
  split
  · split
    · exact h
    · exact hf _
  · exact h
theorem offN_bound (x : Ent) (va : Nat) : ((offN x va : Nat) : Int) < ((2 ^ (13 + 3 * szN x) : Nat) : Int) := by
  have : offN x va < 2 ^ (13 + 3 * szN x) := Nat.mod_lt _ (Nat.two_pow_pos _)
  omega
theorem WfK.access {k : Nat} {s : MS} (h : WfK k s) (o : OpS) (ho : OkO o) : WfK (k + 1) (accessR s o).2 := by
  have h' := h.up (Nat.le_succ k)
  have hav : o.av.toNat < 2 ^ 64 := by have := ho.av; omega
  unfold accessR
  split
  · split
    · exact h'
    · split
      · exact h'
      · split
        · exact h'
        · rename_i x hx
          split
          · split
            · have h1 := h.set hx (accP x.f1 o.ak) rfl rfl rfl
              have hm : (⟨x.f0, accP x.f1 o.ak⟩ : Ent) ∈ s.L.set _ ⟨x.f0, accP x.f1 o.ak⟩ := List.mem_set (List.getElem?_eq_some_iff.1 hx).1 _
              exact h1.byte (x := ⟨x.f0, accP x.f1 o.ak⟩) hm rfl (by omega) (offN_bound x _) ⟨by omega, by have := offN_lt (x := x) hav; omega⟩ ho.by_
            · exact h'.set hx (accP x.f1 o.ak) rfl rfl rfl
          · exact h'
  · exact h'
theorem WfK.snoc {k : Nat} {s : MS} (h : WfK k s) (sp : Int) (p : Pg) (m : Int) (hp : OkE ⟨sp, p⟩) (hm : s.made ≤ m) (hm1 : m ≤ ((k + 1 : Nat) : Int)) (hpa : p.f2 < m) (hsp : sp < s.n) (hmt : (sel sp s.L).any (meetB p) = false) (hr : ∀ y ∈ s.L, y.f1.f2 = p.f2 → y.f1.f1 = p.f1) (hb : ∀ b ∈ s.by_, p.f2 = b.f0 → b.f1 < ((2 ^ (13 + 3 * p.f1.toNat) : Nat) : Int)) :
    WfK (k + 1) { s with L := s.L ++ [⟨sp, p⟩], made := m } := by
  have h' := h.up (Nat.le_succ k)
  refine ⟨h.n0, h.n1, ⟨fun y hy => ?_, ?_⟩, by have := h.few; simp only [List.length_append, List.length_singleton]; omega, by have := h.made0; show 0 ≤ m; omega, hm1, fun y hy => ?_, fun y hy => ?_, fun y hy z hz => ?_, fun b hb => ?_, fun b hb2 y hy => ?_, h.bnd, h'.blen⟩
  · rcases List.mem_append.1 hy with hy | hy
    · exact h.wl.ok y hy
    · rw [List.mem_singleton.1 hy]; exact hp
  · refine List.pairwise_append.2 ⟨h.wl.apart, List.pairwise_singleton _ _, fun y hy z hz hc => ?_⟩
    rw [List.mem_singleton.1 hz] at hc
    rw [List.any_eq_false] at hmt
    refine hmt y.f1 ?_ ?_
    · unfold sel
      exact List.mem_map.2 ⟨y, List.mem_filter.2 ⟨hy, by simp [hc.1]⟩, rfl⟩
    · unfold meetB
      have := hc.2
      unfold vaN szN at this
      simp only [decide_eq_true_eq]
      rw [Nat.max_comm]
      exact this.symm
  · rcases List.mem_append.1 hy with hy | hy
    · have := h.pa y hy; show _ < m; omega
    · rw [List.mem_singleton.1 hy]; exact hpa
  · rcases List.mem_append.1 hy with hy | hy
    · exact h.sp y hy
    · rw [List.mem_singleton.1 hy]; exact hsp
  · rcases List.mem_append.1 hy with hy | hy
    · rcases List.mem_append.1 hz with hz | hz
      · exact h.rs y hy z hz
      · rw [List.mem_singleton.1 hz]; exact hr y hy
    · rw [List.mem_singleton.1 hy]
      rcases List.mem_append.1 hz with hz | hz
      · exact fun e => (hr z hz e.symm).symm
      · rw [List.mem_singleton.1 hz]; exact fun _ => rfl
  · have := h.bok b hb
    exact ⟨this.1, by show _ < m; omega, this.2.2⟩
  · rcases List.mem_append.1 hy with hy | hy
    · exact h.bof b hb2 y hy
    · rw [List.mem_singleton.1 hy]; exact hb b hb2
theorem isAll_mem {n : Int} {l : List Int} (h : isAll n l = true) {x : Int} (hx : x ∈ l) : 0 ≤ x ∧ x < n := by
  unfold isAll at h
  rw [List.all_eq_true] at h
  simpa using h x hx
theorem WfK.mapped {k : Nat} {s : MS} (h : WfK k s) (hk : k < 1000) (o : OpS) (ho : OkO o) : WfK (k + 1) (mappedR s o).2 := by
  have h' := h.up (Nat.le_succ k)
  unfold mappedR
  split
  · rename_i hg
    have hs := isAll_mem hg.1 (x := o.sp) (by simp)
    have hva := ho.va
    have hm1 := h.made1
    have hq : OkQ o.sp (mapP s o) := ⟨hs.1, by have := h.n1; omega, by show o.va = ((o.va.toNat : Nat) : Int); omega, by show o.va.toNat < 2 ^ 64; omega, h.made0, by show s.made < 1000000; omega⟩
    unfold putS
    split
    · rw [if_neg (by show ¬ (3 : Int) = 0; omega)]; exact h'
    · split
      · rw [if_neg (by show ¬ (4 : Int) = 0; omega)]; exact h'
      · split
        · rw [if_neg (by show ¬ (9 : Int) = 0; omega)]; exact h'
        · rename_i hst hmt
          rw [if_pos rfl]
          have hst' : startsB (mapP s o).f0 (mapP s o).f1 = true := by simpa using hst
          have hmt' : (sel o.sp s.L).any (meetB (mapP s o)) = false := by simpa using hmt
          refine h.snoc o.sp (mapP s o) (s.made + 1) (hq.e hst') (by omega) (by omega) (by show s.made < _; omega) hs.2 hmt' (fun y hy e => ?_) (fun b hb e => ?_)
          · have := h.pa y hy
            have e' : y.f1.f2 = s.made := e
            omega
          · have := (h.bok b hb).2.1
            have e' : s.made = b.f0 := e
            omega
  · exact h'
theorem WfK.share {k : Nat} {s : MS} (h : WfK k s) (o : OpS) (ho : OkO o) : WfK (k + 1) (shareR s o).2 := by
  have h' := h.up (Nat.le_succ k)
  unfold shareR
  split
  · rename_i hg
    have hs := isAll_mem hg.1 (x := o.other) (by simp)
    have hva := ho.to1
    split
    · exact h'
    · split
      · rename_i x hx
        have hxm := List.mem_of_getElem? hx
        have hok := h.wl.ok x hxm
        have hq : OkQ o.other (shaP o x) := ⟨hs.1, by have := h.n1; omega, by show o.too = ((o.too.toNat : Nat) : Int); omega, by show o.too.toNat < 2 ^ 64; omega, hok.pa0, hok.pa1⟩
        unfold putS
        split
        · exact h'
        · split
          · exact h'
          · split
            · exact h'
            · rename_i hst hmt
              have hst' : startsB (shaP o x).f0 (shaP o x).f1 = true := by simpa using hst
              have hmt' : (sel o.other s.L).any (meetB (shaP o x)) = false := by simpa using hmt
              refine h.snoc o.other (shaP o x) s.made (hq.e hst') (by omega) (by have := h.made1; omega) (h.pa x hxm) hs.2 hmt' (fun y hy e => ?_) (fun b hb e => ?_)
              · exact h.rs y hy x hxm e
              · exact h.bof b hb x hxm e
      · exact h'
  · exact h'
theorem WfK.step {k : Nat} {s : MS} (h : WfK k s) (hk : k < 1000) (o : OpS) (ho : OkO o) : WfK (k + 1) (doR s o).2 := by
  have h' := h.up (Nat.le_succ k)
  unfold doR
  split
  · exact h.access o ho
  · split
    · exact h.mapped hk o ho
    · split
      · exact h'.change o _ (fun i => h'.unmap i)
      · split
        · show WfK (k + 1) (protectR s o).2
          unfold protectR
          split
          · exact h'
          · exact h'.change o _ (fun i => h'.prot _ i)
        · split
          · exact h'.change o _ (fun i => h'.clear i)
          · split
            · exact h.share o ho
            · split
              · exact h'
              · split
                · show WfK (k + 1) (destroyR s o).2
                  unfold destroyR
                  split
                  · exact h'.dest o.sp
                  · exact h'
                · exact h'
section
variable {w w' : World} {B pm bm : Nat} {s : MS}
/-- Do, and what stays. -/
def DoneP (w : World) (B pm bm : Nat) (k : Nat) (s : MS) (o : OpS) (e : Ending) (w' : World) : Prop :=
  e = .returned (.agg #[.int .i64 (doR s o).1.1, .int .i64 (doR s o).1.2.1, .int .u8 (doR s o).1.2.2]) ∧ Mo w' B pm bm (doR s o).2 ∧ WfK (k + 1) (doR s o).2 ∧ Mv [B, pm, bm] w w'
theorem done_calls (h : Mo w B pm bm s) {k : Nat} (hw : WfK k s) (hk : k < 1000) (o : OpS) (ho : OkO o) :
    Calls Try.prog 14 #[.pointer (some ⟨B, 0, none⟩), Value.agg #[.int .i64 o.kind, .int .i64 o.sp, .int .i64 o.ak, .bool o.ap, .int .u64 o.av, .int .u8 o.byte, .int .u64 o.va, .int .i64 o.size, .bool o.at_.f0, .bool o.at_.f1, .bool o.at_.f2, .bool o.at_.f3, .bool o.at_.f4, .bool o.at_.f5, .int .i64 o.other, .int .u64 o.too]] w (DoneP w B pm bm k s o) :=
  (do_calls h hw.wl (by have := hw.few; omega) o ho hw.n1 hw.made0 (by have := hw.made1; omega)).mono (fun e w' hh => ⟨hh.1, hh.2.1, hw.step hk o ho, hh.2.2⟩)
end
end Go.Proofs.Ytalmemcidbmdgaa.PM


/- The document's model of spaces (layer 16) in memory; its put: the walk. -/
set_option linter.unusedVariables false
set_option linter.unusedSimpArgs false
namespace Go.Proofs.Ytalmemcidbmdgaa.PM
open Go.RowKit Go.Proofs.YtalmemcidbmdgaaW.PrintWords Go.Proofs.YtalmemcidbmdgaaW.PrintLast Go.Proofs.YtalmemcidbmdgaaW.PrintMore Go.Proofs.Ytalmemcidbmdgaa.PageG
attribute [local go_sem] max2_int min2_int max_two min_two max_three min_three max_four min_four   -- for this text's walks alone
/-- The document's model: its pages and its bytes, each in a list. -/
structure DocM (w : World) (A1 : Option Addr) (c1 : Nat) (A2 : Option Addr) (c2 : Nat) (s : MS) : Prop where
  l : Kd.C k105 w A1 s.L.length s.L
  lc : s.L.length ≤ c1
  b : Kd.C k114 w A2 s.by_.length s.by_
  bc : s.by_.length ≤ c2
theorem DocM.below {w w' : World} {A1 A2 : Option Addr} {c1 c2 : Nat} {s : MS} (h : DocM w A1 c1 A2 c2 s) (hb : Below w.heap.size w w') : DocM w' A1 c1 A2 c2 s := ⟨Kd.C_below h.l hb, h.lc, Kd.C_below h.b hb, h.bc⟩
theorem C_same {α : Type} {d : Kd α} {w0 W : World} {A : Option Addr} {n : Nat} {l : List α} (hd : ∀ w1 w2 x cs, d.K w1 x cs → d.K w2 x cs) (h : Kd.C d w0 A n l) (hW : ∀ k, k < w0.heap.size → W.heap[k]? = w0.heap[k]?) : Kd.C d W A n l := by
  refine ⟨h.1, h.2.1, fun hn => ?_⟩
  obtain ⟨ad, e, hc⟩ := h.2.2 hn
  refine ⟨ad, e, fun j p hj => ?_⟩
  obtain ⟨c, hs, hr, hcell⟩ := hc j p hj
  exact ⟨c, hs, hd _ _ _ _ hr, fun i u hu => (World.cell?_of_block (hW _ (World.block_lt_of_cell? _ _ (hcell i u hu)))).trans (hcell i u hu)⟩
theorem kEn_any (w1 w2 : World) (x : Ent) (cs : List Value) (h : k105.K w1 x cs) : k105.K w2 x cs := by
  rw [k105_open h]
  exact k105_mk w2 x
theorem kBt_any (w1 w2 : World) (x : Bt) (cs : List Value) (h : k114.K w1 x cs) : k114.K w2 x cs := by
  rw [k114_open h]
  exact k114_mk w2 x
theorem DocM.same {w0 W : World} {A1 A2 : Option Addr} {c1 c2 : Nat} {s : MS} (h : DocM w0 A1 c1 A2 c2 s) (hW : ∀ k, k < w0.heap.size → W.heap[k]? = w0.heap[k]?) : DocM W A1 c1 A2 c2 s := ⟨C_same kEn_any h.l hW, h.lc, C_same kBt_any h.b hW, h.bc⟩
/-- The document's model, and the blocks X that its lists lie in. -/
structure DocX (X : Nat → Prop) (w : World) (A1 : Option Addr) (c1 : Nat) (A2 : Option Addr) (c2 : Nat) (s : MS) : Prop where
  lt : ∀ k, X k → k < w.heap.size
  m : DocM w A1 c1 A2 c2 s
  keep : ∀ W : World, (∀ k, X k → W.heap[k]? = w.heap[k]?) → DocM W A1 c1 A2 c2 s
theorem DocX.below {X : Nat → Prop} {w w' : World} {A1 A2 : Option Addr} {c1 c2 : Nat} {s : MS} (h : DocX X w A1 c1 A2 c2 s) (hb : Below w.heap.size w w') : DocX X w' A1 c1 A2 c2 s :=
  ⟨fun k hk => Nat.lt_of_lt_of_le (h.lt k hk) hb.size, h.m.below hb, fun W hW => h.keep W (fun k hk => (hW k hk).trans (hb.block k (h.lt k hk)))⟩
/-- What keeps the lists that a function hands back: what they lay in, and what the call made. -/
def KeepsD (X : Nat → Prop) (w w' W : World) : Prop := ∀ k, X k ∨ (w.heap.size ≤ k ∧ k < w'.heap.size) → W.heap[k]? = w'.heap[k]?
theorem KeepsD.old {X : Nat → Prop} {w w' W : World} (h : KeepsD X w w' W) (lt : ∀ k, X k → k < w.heap.size) (hb : Below w.heap.size w w') : ∀ k, X k → W.heap[k]? = w.heap[k]? :=
  fun k hk => (h k (.inl hk)).trans (hb.block k (lt k hk))
theorem KeepsD.own {α : Type} {d : Kd α} {e : Nat} {X : Nat → Prop} {w w' W : World} {ok : Nat → Prop} {v : Value} {xs : List α} (h : KeepsD X w w' W) (hR : Kd.R d e w' w.heap.size ok v xs) : ∃ ok', Kd.R d e W w.heap.size ok' v xs :=
  ⟨_, Kd.R_move (Kd.R_bound hR) (fun k hk => h k (.inr ⟨hk.2.1, hk.2.2.1⟩))⟩
theorem KeepsD.trans {X : Nat → Prop} {w w1 w2 W : World} (h : KeepsD X w w2 W) (hs : w.heap.size ≤ w1.heap.size) : KeepsD X w1 w2 W :=
  fun k hk => h k (hk.imp id (fun hk => ⟨Nat.le_trans hs hk.1, hk.2⟩))
/-- What the document's functions hand back. -/
def DocP (X : Nat → Prop) (w : World) (s : MS) (e : Ending) (w' : World) : Prop := ∃ A1 c1 A2 c2, e = .returned (.agg #[.int .i64 s.n, .slice A1 s.L.length c1, .slice A2 s.by_.length c2, .int .i64 s.made]) ∧ (∀ W, KeepsD X w w' W → DocM W A1 c1 A2 c2 s) ∧ Below w.heap.size w w'
theorem kept_grown {α : Type} {d : Kd α} {e base : Nat} {W W' : World} {ok : Nat → Prop} {v : Value} {xs : List α} (hR : Kd.R d e W base ok v xs) (hg : W.grownBy W' v.ownBlock) {k : Nat} (hk : k < W.heap.size) (hn : ¬ ok k) : W'.heap[k]? = W.heap[k]? :=
  hg.block k hk (fun e => hn ((Kd.R_bound hR).1 k e.symm).1)
/-- A walk with a box and a result, and a list of its own. -/
structure Bx (w W : World) (D : Nat) (box res : Array Value) : Prop where
  box : W.heap[D]? = some (.cells box 29 (0, 0))
  res : W.heap[D + 1]? = some (.cells res 29 (0, 0))
  lo : Below w.heap.size w W
  hD : w.heap.size = D
theorem Bx.below {w W W' : World} {D : Nat} {box res : Array Value} (h : Bx w W D box res) (hb : Below W.heap.size W W') : Bx w W' D box res :=
  ⟨blk_below h.box hb, blk_below h.res hb, h.lo.trans (hb.mono h.lo.size), h.hD⟩
theorem Bx.grown {α : Type} {d : Kd α} {e base : Nat} {w W W' : World} {D : Nat} {box res : Array Value} {v : Value} {xs : List α} (h : Bx w W D box res) (hR : Kd.R d e W base (fun k => k ≠ D ∧ k ≠ D + 1) v xs) (hg : W.grownBy W' v.ownBlock) (hb : Below w.heap.size w W') : Bx w W' D box res :=
  ⟨(kept_grown hR hg (blk_lt h.box) (fun h => h.1 rfl)).trans h.box, (kept_grown hR hg (blk_lt h.res) (fun h => h.2 rfl)).trans h.res, hb, h.hD⟩
theorem boxes {w : World} {D : Nat} (hD : w.heap.size = D) (box res : Array Value) : Bx w ((w.alloc (.cells box 29)).alloc (.cells res 29)) D box res := by
  have h1 := blk_alloc (blk_new w (.cells box 29)) (.cells res 29)
  have h2 := blk_new (w.alloc (.cells box 29)) (.cells res 29)
  rw [World.size_alloc] at h2
  rw [hD] at h1 h2
  exact ⟨h1, h2, ((Below.refl _ w).alloc (Nat.le_refl _) _).alloc (by simp) _, hD⟩
theorem set4 {W : World} {g : Nat} {a0 a1 a2 a3 : Value} {t : TypeId} (h : W.heap[g]? = some (.cells #[a0, a1, a2, a3] t (0, 0))) (b0 b1 b2 b3 : Value) :
    (((W.setCell ⟨g, 0, none⟩ b0).setCell ⟨g, 1, none⟩ b1).setCell ⟨g, 2, none⟩ b2).setCell ⟨g, 3, none⟩ b3 = ChangeMaps.setBlock W g (.cells #[b0, b1, b2, b3] t (0, 0)) := by
  have s0 := setCell_block (t := t) (i := 0) (cs := #[a0, a1, a2, a3]) (cs' := #[b0, a1, a2, a3]) h b0 rfl
  have s1 := sb_put (t := t) (i := 1) (cs := #[b0, a1, a2, a3]) (cs' := #[b0, b1, a2, a3]) h b1 rfl
  have s2 := sb_put (t := t) (i := 2) (cs := #[b0, b1, a2, a3]) (cs' := #[b0, b1, b2, a3]) h b2 rfl
  have s3 := sb_put (t := t) (i := 3) (cs := #[b0, b1, b2, a3]) (cs' := #[b0, b1, b2, b3]) h b3 rfl
  rw [s0, s1, s2, s3]
theorem Bx.sbox {w W : World} {D : Nat} {box box' res : Array Value} (h : Bx w W D box res) : Bx w (ChangeMaps.setBlock W D (.cells box' 29 (0, 0))) D box' res :=
  ⟨sb_same h.box _, (sb_other _ (by omega)).trans h.res, below_sb h.lo (by rw [h.hD]; exact Nat.le_refl _) _, h.hD⟩
theorem Bx.sres {w W : World} {D : Nat} {box res res' : Array Value} (h : Bx w W D box res) : Bx w (ChangeMaps.setBlock W (D + 1) (.cells res' 29 (0, 0))) D box res' :=
  ⟨(sb_other _ (by omega)).trans h.box, sb_same h.res _, below_sb h.lo (by rw [h.hD]; omega) _, h.hD⟩
theorem R_sb {α : Type} {d : Kd α} {e base : Nat} {W : World} {D b : Nat} {v : Value} {xs : List α} (h : Kd.R d e W base (fun k => k ≠ D ∧ k ≠ D + 1) v xs) (o : Obj) (hb : b = D ∨ b = D + 1) : Kd.R d e (ChangeMaps.setBlock W b o) base (fun k => k ≠ D ∧ k ≠ D + 1) v xs :=
  Kd.R_move h (fun k hk => sb_other o (by rcases hb with rfl | rfl; exact hk.1; exact hk.2))
/-- A list of one thing, made new. -/
theorem R_new1 {α : Type} (d : Kd α) (W : World) (base e : Nat) {p : α} {cs : List Value} {ok : Nat → Prop} (hrep : Reps (d.M W base (fun _ => False)) d.sz [p] cs) (hfresh : ok W.heap.size) (hbase : base ≤ W.heap.size) : Kd.R d e (W.alloc (.cells cs.toArray e)) base ok (.slice (some ⟨W.heap.size, 0, none⟩) 1 1) [p] := by
  refine ⟨fun k hk => ?_, cs, ?_, ?_⟩
  · have : W.heap.size = k := by simpa [Value.ownBlock] using hk
    subst this
    exact hfresh
  · have h2 := World.ownsRow_lit (base := base) (e := e) (size := d.sz) W cs.toArray 1 hbase (by simp [maxLen]) (by simpa using hrep.1)
    simpa using h2
  · refine hrep.imp_ (fun q c hq => d.M_mono (fun k (hk : False) => hk.elim) (Kd.M_below hq ((Below.refl _ _).alloc (Nat.le_refl _) _)))
theorem info114 : (Try.prog.info? 114).map (fun i => (i.zero, i.size, i.bytes)) = some (some (.agg #[.int .u64 0, .int .u64 0, .int .u8 0]), 3, 24) := by kernel_rfl
theorem rd_bt {l : List Bt} {i : Nat} (h : i < l.length) : rd_T114 l (i : Int) = l[i] := by
  simp [rd_T114, List.getD_eq_getElem?_getD, h]
section
variable {X : Nat → Prop} {w w' : World} {A1 A2 : Option Addr} {c1 c2 : Nat} {s : MS}
set_option maxHeartbeats 8000000 in
set_option maxRecDepth 100000 in
theorem dput_calls (hh : DocX X w A1 c1 A2 c2 s) (hf : s.by_.length ≤ 100000) (r o v : Int) :
    Calls Try.prog 60 #[.agg #[.int .i64 s.n, .slice A1 s.L.length c1, .slice A2 s.by_.length c2, .int .i64 s.made], .int .u64 r, .int .u64 o, .int .u8 v] w (DocP X w { s with by_ := putB s.by_ r o v }) := by
  have HM := Aside0.mk hh.m
  have HM0 := Aside0.mk hh
  clear hh
  obtain ⟨D, hD⟩ : ∃ D, w.heap.size = D := ⟨_, rfl⟩
  have HDS := Aside0.mk hD
  go_enter Try.func60, Try.ntmps60
  go_upto_region 1 with fail
  have hx := boxes hD #[.int .i64 s.n, .slice A1 s.L.length c1, .slice A2 s.by_.length c2, .int .i64 s.made] #[.int .i64 0, .slice none 0 0, .slice none 0 0, .int .i64 0]
  have HX1 := Aside0.mk hx
  generalize (w.alloc (.cells #[.int .i64 s.n, .slice A1 s.L.length c1, .slice A2 s.by_.length c2, .int .i64 s.made] 29)).alloc (.cells #[.int .i64 0, .slice none 0 0, .slice none 0 0, .int .i64 0] 29) = w1 at *
  clear hx
  have hr0 : Kd.R k114 114 (w1.alloc (.cells #[.int .u64 r, .int .u64 o, .int .u8 v] 114)) w.heap.size (fun k => k ≠ D ∧ k ≠ D + 1) (.slice (some ⟨w1.heap.size, 0, none⟩) 1 1) [(⟨r, o, v⟩ : Bt)] :=
    R_new1 k114 w1 w.heap.size 114 (p := (⟨r, o, v⟩ : Bt)) (cs := [.int .u64 r, .int .u64 o, .int .u8 v]) (Reps.c3 (show Kd.M k114 _ _ _ (⟨r, o, v⟩ : Bt) [.int .u64 r, .int .u64 o, .int .u8 v] from (k114_mkM _ _ _ (⟨r, o, v⟩ : Bt))) (Reps.none _ _)) ⟨by have := blk_lt HX1.out.res; omega, by have := blk_lt HX1.out.res; omega⟩ HX1.out.lo.size
  have HO2 := Aside0.mk hr0
  clear hr0
  go_upto_region 2 with fail
  have hal := (Below.refl _ w1).alloc (Nat.le_refl _) (.cells #[.int .u64 r, .int .u64 o, .int .u8 v] 114)
  have HX2 := Aside0.mk (HX1.out.below hal)
  clear hal
  generalize w1.alloc (.cells #[.int .u64 r, .int .u64 o, .int .u8 v] 114) = w2 at *
  generalize w1.heap.size = G at *
  clear HX1 hD
  go_wp2_with fail
  go_loopg [9, 10] s.by_.length (fun kq lv iv W => ∃ (i : Nat) (l : List Bt), iv = .int .i64 (i : Int) ∧ i + kq = s.by_.length ∧ Aside0 (l = ⟨r, o, v⟩ :: (s.by_.take i).filter (fun b => !(b.f0 == r && b.f1 == o))) ∧ Aside0 (Kd.R k114 114 W w.heap.size (fun k => k ≠ D ∧ k ≠ D + 1) lv l) ∧ Aside0 (Bx w W D #[.int .i64 s.n, .slice A1 s.L.length c1, .slice A2 s.by_.length c2, .int .i64 s.made] #[.int .i64 0, .slice none 0 0, .slice none 0 0, .int .i64 0]))
  case atStart => exact ⟨0, [⟨r, o, v⟩], rfl, by omega, ⟨by simp⟩, HO2, HX2⟩
  case round =>
    clear HO2 HX2
    obtain ⟨i, l, rfl, hik, HL, HO, HX⟩ := hrel
    have x2 := (blk_cell HX.out.box 2).trans rfl
    have hk0 : (0 : Int) ≤ (i : Int) := by omega
    by_cases hlt : i < s.by_.length
    · have hk1 : (i : Int) < (s.by_.length : Int) := by omega
      obtain ⟨ad, hA, y0, y1, y2⟩ := at_T114 (HM.out.below HX.out.lo).b (i : Int) hk0 hk1
      subst hA
      rw [rd_bt hlt, Int.toNat_natCast] at y0 y1 y2
      have HTK := Aside0.mk (List.take_succ_eq_append_getElem hlt)
      generalize s.by_[i] = b at y0 y1 y2 HTK
      by_cases h0 : b.f0 = r
      · by_cases h1 : b.f1 = o
        · have HQ := Aside0.mk (show (b.f0 == r && b.f1 == o) = true by simp [h0, h1])
          have hb0 : (b.f0 != r) = false := by simp [h0]
          have hb1 : (b.f1 != o) = false := by simp [h1]
          go_wp2_with fail
          go_roundg (gk - 1)
          case measure => omega
          case rel => exact ⟨i + 1, l, by go_num, by omega, ⟨by rw [HL.out, HTK.out, List.filter_append, show List.filter (fun b : Bt => !(b.f0 == r && b.f1 == o)) [b] = [] by simp only [List.filter_cons, HQ.out]; rfl, List.append_nil]⟩, HO, HX⟩
        · have HQ := Aside0.mk (show (b.f0 == r && b.f1 == o) = false by simp [h1])
          have hb0 : (b.f0 != r) = false := by simp [h0]
          have hb1 : (b.f1 != o) = true := by simp [h1]
          clear h0 h1
          obtain ⟨A5, c5, hv5⟩ := Kd.R_slice HO.out
          subst hv5
          have HLL := Aside0.mk (show l.length ≤ 1 + i by rw [HL.out]; have := List.length_filter_le (fun b : Bt => !(b.f0 == r && b.f1 == o)) (s.by_.take i); simp at this ⊢; omega)
          have hll := HLL.out
          go_wp2_with (first | ((with_reducible refine gate_builtin (b := .append) (xs := #[.tmp 41, .tmp 47]) rfl ?_); at_builtin; refine Kd.R_append k114 (w0 := w) w.heap.size rfl (.tmp 41) (.tmp 47) 27 114 (.agg #[.int .u64 0, .int .u64 0, .int .u8 0]) 24 rfl Try.underlying27 info114 rfl (by decide) (by omega) (.slice A5 l.length c5) l b [.int .u64 b.f0, .int .u64 b.f1, .int .u8 b.f2] (fun k => k ≠ D ∧ k ≠ D + 1) (fun _ => False) rfl rfl ?aP (fun _ hk => hk.elim) ?aF ?aO ?aB ?aS ?aL ?_; (case aP => exact k114_mkM _ _ _ b); (case aB => exact HX.out.lo); (case aF => exact (fun k hk => ⟨by have := blk_lt HX.out.res; omega, by have := blk_lt HX.out.res; omega⟩)); (case aO => exact HO.out); (case aS => exact HX.out.lo.size); (case aL => omega); intro v5 w5 ho5 hb5 hg5 hat5; have HO5 := Aside0.mk ho5; have HB5 := Aside0.mk hb5; have HG5 := Aside0.mk hg5; clear ho5 hb5 hg5 hat5))
          obtain ⟨A6, c6, hv6⟩ := Kd.R_slice HO5.out
          subst hv6
          have HX5 := Aside0.mk (HX.out.grown HO.out HG5.out HB5.out)
          clear y0 y1 y2 x2
          go_wp2_with fail
          go_roundg (gk - 1)
          case measure => omega
          case rel => exact ⟨i + 1, l ++ [b], by go_num, by omega, ⟨by rw [HL.out, HTK.out, List.filter_append, show List.filter (fun b : Bt => !(b.f0 == r && b.f1 == o)) [b] = [b] by simp only [List.filter_cons, HQ.out]; rfl]; rfl⟩, HO5, HX5⟩
      · have HQ := Aside0.mk (show (b.f0 == r && b.f1 == o) = false by simp [h0])
        have hb0 : (b.f0 != r) = true := by simp [h0]
        obtain ⟨A5, c5, hv5⟩ := Kd.R_slice HO.out
        subst hv5
        have HLL := Aside0.mk (show l.length ≤ 1 + i by rw [HL.out]; have := List.length_filter_le (fun b : Bt => !(b.f0 == r && b.f1 == o)) (s.by_.take i); simp at this ⊢; omega)
        have hll := HLL.out
        go_wp2_with (first | ((with_reducible refine gate_builtin (b := .append) (xs := #[.tmp 41, .tmp 47]) rfl ?_); at_builtin; refine Kd.R_append k114 (w0 := w) w.heap.size rfl (.tmp 41) (.tmp 47) 27 114 (.agg #[.int .u64 0, .int .u64 0, .int .u8 0]) 24 rfl Try.underlying27 info114 rfl (by decide) (by omega) (.slice A5 l.length c5) l b [.int .u64 b.f0, .int .u64 b.f1, .int .u8 b.f2] (fun k => k ≠ D ∧ k ≠ D + 1) (fun _ => False) rfl rfl ?aP (fun _ hk => hk.elim) ?aF ?aO ?aB ?aS ?aL ?_; (case aP => exact k114_mkM _ _ _ b); (case aB => exact HX.out.lo); (case aF => exact (fun k hk => ⟨by have := blk_lt HX.out.res; omega, by have := blk_lt HX.out.res; omega⟩)); (case aO => exact HO.out); (case aS => exact HX.out.lo.size); (case aL => omega); intro v5 w5 ho5 hb5 hg5 hat5; have HO5 := Aside0.mk ho5; have HB5 := Aside0.mk hb5; have HG5 := Aside0.mk hg5; clear ho5 hb5 hg5 hat5))
        obtain ⟨A6, c6, hv6⟩ := Kd.R_slice HO5.out
        subst hv6
        have HX5 := Aside0.mk (HX.out.grown HO.out HG5.out HB5.out)
        clear y0 y1 y2 x2
        go_wp2_with fail
        go_roundg (gk - 1)
        case measure => omega
        case rel => exact ⟨i + 1, l ++ [b], by go_num, by omega, ⟨by rw [HL.out, HTK.out, List.filter_append, show List.filter (fun b : Bt => !(b.f0 == r && b.f1 == o)) [b] = [b] by simp only [List.filter_cons, HQ.out]; rfl]; rfl⟩, HO5, HX5⟩
    · have hk1 : ¬ (i : Int) < (s.by_.length : Int) := by omega
      have hd : decide ((i : Int) < (s.by_.length : Int)) = false := decide_eq_false hk1
      obtain ⟨A5, c5, hv5⟩ := Kd.R_slice HO.out
      subst hv5
      have f2 := blk_frozen HX.out.box 2
      have HLF := Aside0.mk (show l = putB s.by_ r o v by rw [HL.out, List.take_of_length_le (by omega)]; rfl)
      go_upto_region 8 with fail
      rw [setCell_block (t := 29) (i := 2) (cs' := #[.int .i64 s.n, .slice A1 s.L.length c1, .slice A5 l.length c5, .int .i64 s.made]) HX.out.box (.slice A5 l.length c5) rfl]
      have HX3 := Aside0.mk (HX.out.sbox (box' := #[.int .i64 s.n, .slice A1 s.L.length c1, .slice A5 l.length c5, .int .i64 s.made]))
      have HO3 := Aside0.mk (R_sb HO.out (.cells #[.int .i64 s.n, .slice A1 s.L.length c1, .slice A5 l.length c5, .int .i64 s.made] 29 (0, 0)) (.inl rfl))
      generalize ChangeMaps.setBlock wr D (.cells #[.int .i64 s.n, .slice A1 s.L.length c1, .slice A5 l.length c5, .int .i64 s.made] 29 (0, 0)) = w3 at *
      clear x2 f2 hd hk1 hk0 HX HO
      obtain ⟨x0, x1, x2, x3⟩ := cells4 HX3.out.box
      obtain ⟨z0, z1, z2, z3⟩ := cells4 HX3.out.res
      have g0 := blk_frozen HX3.out.res 0
      have g1 := blk_frozen HX3.out.res 1
      have g2 := blk_frozen HX3.out.res 2
      have g3 := blk_frozen HX3.out.res 3
      go_wp2_with fail
      rw [set4 HX3.out.res]
      refine bodyPost_ret (results_cell_row rfl _ _ (D + 1) 29 _ (0, 0) _ rfl (sb_same HX3.out.res _) Try.underlying29 rfl (by kernel_rfl)) rfl ?_
      have hx4 := HX3.out.sres (res' := #[.int .i64 s.n, .slice A1 s.L.length c1, .slice A5 l.length c5, .int .i64 s.made])
      have ho4 := R_sb HO3.out (.cells #[.int .i64 s.n, .slice A1 s.L.length c1, .slice A5 l.length c5, .int .i64 s.made] 29 (0, 0)) (.inr rfl)
      have h5 := (Kd.R_reads' ho4).2.1
      have he := HLF.out
      subst he
      refine ⟨A1, c1, A5, c5, rfl, fun W hW => ?_, hx4.lo⟩
      have hm := HM0.out.keep _ (hW.old HM0.out.lt hx4.lo)
      obtain ⟨ok', hr'⟩ := hW.own ho4
      exact ⟨hm.l, hm.lc, (Kd.R_reads' hr').2.2, h5⟩
end
end Go.Proofs.Ytalmemcidbmdgaa.PM


/- The document's model of spaces (layer 16): with: the walk. -/
set_option linter.unusedVariables false
set_option linter.unusedSimpArgs false
namespace Go.Proofs.Ytalmemcidbmdgaa.PM
open Go.RowKit Go.Proofs.YtalmemcidbmdgaaW.PrintWords Go.Proofs.YtalmemcidbmdgaaW.PrintLast Go.Proofs.YtalmemcidbmdgaaW.PrintMore Go.Proofs.Ytalmemcidbmdgaa.PageG
attribute [local go_sem] max2_int min2_int max_two min_two max_three min_three max_four min_four   -- for this text's walks alone
/-- A walk with a box, a page and a result. -/
structure Bp (w W : World) (D : Nat) (box pg res : Array Value) : Prop where
  box : W.heap[D]? = some (.cells box 29 (0, 0))
  pg : W.heap[D + 1]? = some (.cells pg 50 (0, 0))
  res : W.heap[D + 1 + 1]? = some (.cells res 29 (0, 0))
  lo : Below w.heap.size w W
  hD : w.heap.size = D
def okP (D : Nat) (k : Nat) : Prop := k ≠ D ∧ k ≠ D + 1 ∧ k ≠ D + 1 + 1
theorem Bp.sbox {w W : World} {D : Nat} {box box' pg res : Array Value} (h : Bp w W D box pg res) : Bp w (ChangeMaps.setBlock W D (.cells box' 29 (0, 0))) D box' pg res :=
  ⟨sb_same h.box _, (sb_other _ (by omega)).trans h.pg, (sb_other _ (by omega)).trans h.res, below_sb h.lo (by rw [h.hD]; exact Nat.le_refl _) _, h.hD⟩
theorem Bp.sres {w W : World} {D : Nat} {box pg res res' : Array Value} (h : Bp w W D box pg res) : Bp w (ChangeMaps.setBlock W (D + 1 + 1) (.cells res' 29 (0, 0))) D box pg res' :=
  ⟨(sb_other _ (by omega)).trans h.box, (sb_other _ (by omega)).trans h.pg, sb_same h.res _, below_sb h.lo (by rw [h.hD]; omega) _, h.hD⟩
theorem R_sbp {α : Type} {d : Kd α} {e base : Nat} {W : World} {D b : Nat} {v : Value} {xs : List α} (h : Kd.R d e W base (okP D) v xs) (o : Obj) (hb : b = D ∨ b = D + 1 + 1) : Kd.R d e (ChangeMaps.setBlock W b o) base (okP D) v xs :=
  Kd.R_move h (fun k hk => sb_other o (by rcases hb with rfl | rfl; exact hk.1; exact hk.2.2))
theorem Bp.below {w W W' : World} {D : Nat} {box pg res : Array Value} (h : Bp w W D box pg res) (hb : Below W.heap.size W W') : Bp w W' D box pg res :=
  ⟨blk_below h.box hb, blk_below h.pg hb, blk_below h.res hb, h.lo.trans (hb.mono h.lo.size), h.hD⟩
theorem Bp.grown {α : Type} {d : Kd α} {e base : Nat} {w W W' : World} {D : Nat} {box pg res : Array Value} {v : Value} {xs : List α} (h : Bp w W D box pg res) (hR : Kd.R d e W base (okP D) v xs) (hg : W.grownBy W' v.ownBlock) (hb : Below w.heap.size w W') : Bp w W' D box pg res :=
  ⟨(kept_grown hR hg (blk_lt h.box) (fun h => h.1 rfl)).trans h.box, (kept_grown hR hg (blk_lt h.pg) (fun h => h.2.1 rfl)).trans h.pg, (kept_grown hR hg (blk_lt h.res) (fun h => h.2.2 rfl)).trans h.res, hb, h.hD⟩
theorem pboxes {w : World} {D : Nat} (hD : w.heap.size = D) (box pg res : Array Value) : Bp w (((w.alloc (.cells box 29)).alloc (.cells pg 50)).alloc (.cells res 29)) D box pg res := by
  have h1 := blk_alloc (blk_alloc (blk_new w (.cells box 29)) (.cells pg 50)) (.cells res 29)
  have h2 := blk_alloc (blk_new (w.alloc (.cells box 29)) (.cells pg 50)) (.cells res 29)
  have h3 := blk_new ((w.alloc (.cells box 29)).alloc (.cells pg 50)) (.cells res 29)
  rw [World.size_alloc] at h2
  rw [World.size_alloc, World.size_alloc] at h3
  rw [hD] at h1 h2 h3
  exact ⟨h1, h2, h3, (((Below.refl _ w).alloc (Nat.le_refl _) _).alloc (by simp) _).alloc (by simp; omega) _, hD⟩
theorem info105 : (Try.prog.info? 105).map (fun i => (i.zero, i.size, i.bytes)) = some (some (.agg #[(.int .i64 0), (.int .u64 0), (.int .i64 0), (.int .u64 0), (.bool false), (.bool false), (.bool false), (.bool false), (.bool false), (.bool false), (.bool false), (.bool false)]), 12, 40) := by kernel_rfl
theorem rd_en {l : List Ent} {i : Nat} {x : Ent} (h : l[i]? = some x) : l.getD i z105 = x := by
  simp [List.getD_eq_getElem?_getD, h]
section
variable {X : Nat → Prop} {w w' : World} {A1 A2 : Option Addr} {c1 c2 : Nat} {s : MS}
set_option maxHeartbeats 8000000 in
set_option maxRecDepth 100000 in
theorem dwith_calls (hh : DocX X w A1 c1 A2 c2 s) (hf : s.L.length ≤ 100000) {i : Nat} {x : Ent} (hi : s.L[i]? = some x) (p : Pg) :
    Calls Try.prog 58 #[.agg #[.int .i64 s.n, .slice A1 s.L.length c1, .slice A2 s.by_.length c2, .int .i64 s.made], .int .i64 (i : Int), .agg #[.int .u64 p.f0, .int .i64 p.f1, .int .u64 p.f2, .bool p.f3.f0, .bool p.f3.f1, .bool p.f3.f2, .bool p.f3.f3, .bool p.f3.f4, .bool p.f3.f5, .bool p.f4, .bool p.f5]] w (DocP X w { s with L := s.L.set i ⟨x.f0, p⟩ }) := by
  have HM := Aside0.mk hh.m
  have HM0 := Aside0.mk hh
  have HI := Aside0.mk hi
  have hil : i < s.L.length := (List.getElem?_eq_some_iff.1 hi).1
  clear hh hi
  obtain ⟨D, hD⟩ : ∃ D, w.heap.size = D := ⟨_, rfl⟩
  go_enter Try.func58, Try.ntmps58
  go_upto_region 2 with fail
  have hx := pboxes hD #[.int .i64 s.n, .slice A1 s.L.length c1, .slice A2 s.by_.length c2, .int .i64 s.made] #[.int .u64 p.f0, .int .i64 p.f1, .int .u64 p.f2, .bool p.f3.f0, .bool p.f3.f1, .bool p.f3.f2, .bool p.f3.f3, .bool p.f3.f4, .bool p.f3.f5, .bool p.f4, .bool p.f5] #[.int .i64 0, .slice none 0 0, .slice none 0 0, .int .i64 0]
  have HX := Aside0.mk hx
  generalize ((w.alloc (.cells #[.int .i64 s.n, .slice A1 s.L.length c1, .slice A2 s.by_.length c2, .int .i64 s.made] 29)).alloc (.cells #[.int .u64 p.f0, .int .i64 p.f1, .int .u64 p.f2, .bool p.f3.f0, .bool p.f3.f1, .bool p.f3.f2, .bool p.f3.f3, .bool p.f3.f4, .bool p.f3.f5, .bool p.f4, .bool p.f5] 50)).alloc (.cells #[.int .i64 0, .slice none 0 0, .slice none 0 0, .int .i64 0] 29) = w1 at *
  clear hx hD
  have x1 := (blk_cell HX.out.box 1).trans rfl
  go_upto_region 3 with (first | ((with_reducible refine gate_builtin (b := .append) (xs := #[.tmp 8, .tmp 10]) rfl ?_); at_builtin; refine Kd.R_append_rows k105 (w0 := w) w.heap.size rfl (.tmp 8) (.tmp 10) 26 105 (.agg #[(.int .i64 0), (.int .u64 0), (.int .i64 0), (.int .u64 0), (.bool false), (.bool false), (.bool false), (.bool false), (.bool false), (.bool false), (.bool false), (.bool false)]) 40 rfl Try.underlying26 info105 rfl (by decide) (by omega) (.slice none 0 0) ([] : List Ent) s.L _ _ _ (okP D) (fun _ => False) rfl rfl ?aO ?aR (fun _ _ h => h) (fun _ h => h.elim) ?aF ?aB ?aS ?aL ?_; (case aR => exact (HM.out.below HX.out.lo).l); (case aB => exact HX.out.lo); (case aF => exact (fun k hk => ⟨by have := blk_lt HX.out.res; omega, by have := blk_lt HX.out.res; omega, by have := blk_lt HX.out.res; omega⟩)); (case aO => exact Kd.R_nil _ _ _ _ _); (case aS => exact HX.out.lo.size); (case aL => simp; omega); intro v5 w5 ho5 hb5 hg5 hat5; have HO5 := Aside0.mk (show Kd.R k105 105 w5 w.heap.size (okP D) v5 s.L from by simpa using ho5); have HB5 := Aside0.mk hb5; have HG5 := Aside0.mk hg5; clear ho5 hb5 hg5 hat5))
  have HX5 := Aside0.mk (HX.out.grown (xs := ([] : List Ent)) (v := .slice none 0 0) (d := k105) (e := 105) (base := w.heap.size) (Kd.R_nil _ _ _ _ _) HG5.out HB5.out)
  clear x1 HX HG5 HB5
  obtain ⟨go, co, eo, gb, gl, cl, HGF⟩ := Kd.R_form HO5.out (by omega)
  subst eo
  clear gb gl cl HGF
  have hi0 : (0 : Int) ≤ (i : Int) := by omega
  have hi1 : (i : Int) < (s.L.length : Int) := by omega
  obtain ⟨ce, hcl, hM, hcc, hfr⟩ := Kd.R_elem HO5.out z105 (i : Int) hi0 hi1
  rw [Int.toNat_natCast] at hM hcc hfr
  rw [rd_en HI.out] at hM
  obtain rfl := k105_openM hM
  have HSG := Aside0.mk (Kd.R_seg HO5.out (i : Int) hi0 hi1 (seg := [.int .u64 p.f0, .int .i64 p.f1, .int .u64 p.f2, .bool p.f3.f0, .bool p.f3.f1, .bool p.f3.f2, .bool p.f3.f3, .bool p.f3.f4, .bool p.f3.f5, .bool p.f4, .bool p.f5]) (j := 1) hcl (by rw [Int.toNat_natCast]; exact hcc) (show 12 ≤ 12 from by decide) (x' := (⟨x.f0, p⟩ : Ent)) (k105_mkM _ _ _ (⟨x.f0, p⟩ : Ent)) (fun _ hk => hk))
  have y1 : w5.cell? ⟨go, i * 12 + 1, none⟩ = some (Value.int .u64 x.f1.f0) := hcc 1 _ rfl
  have f1 : w5.frozen? ⟨go, i * 12 + 1, none⟩ = false := hfr 1
  have y2 : w5.cell? ⟨go, i * 12 + 2, none⟩ = some (Value.int .i64 x.f1.f1) := hcc 2 _ rfl
  have f2 : w5.frozen? ⟨go, i * 12 + 2, none⟩ = false := hfr 2
  have y3 : w5.cell? ⟨go, i * 12 + 3, none⟩ = some (Value.int .u64 x.f1.f2) := hcc 3 _ rfl
  have f3 : w5.frozen? ⟨go, i * 12 + 3, none⟩ = false := hfr 3
  have y4 : w5.cell? ⟨go, i * 12 + 4, none⟩ = some (Value.bool x.f1.f3.f0) := hcc 4 _ rfl
  have f4 : w5.frozen? ⟨go, i * 12 + 4, none⟩ = false := hfr 4
  have y5 : w5.cell? ⟨go, i * 12 + 5, none⟩ = some (Value.bool x.f1.f3.f1) := hcc 5 _ rfl
  have f5 : w5.frozen? ⟨go, i * 12 + 5, none⟩ = false := hfr 5
  have y6 : w5.cell? ⟨go, i * 12 + 6, none⟩ = some (Value.bool x.f1.f3.f2) := hcc 6 _ rfl
  have f6 : w5.frozen? ⟨go, i * 12 + 6, none⟩ = false := hfr 6
  have y7 : w5.cell? ⟨go, i * 12 + 7, none⟩ = some (Value.bool x.f1.f3.f3) := hcc 7 _ rfl
  have f7 : w5.frozen? ⟨go, i * 12 + 7, none⟩ = false := hfr 7
  have y8 : w5.cell? ⟨go, i * 12 + 8, none⟩ = some (Value.bool x.f1.f3.f4) := hcc 8 _ rfl
  have f8 : w5.frozen? ⟨go, i * 12 + 8, none⟩ = false := hfr 8
  have y9 : w5.cell? ⟨go, i * 12 + 9, none⟩ = some (Value.bool x.f1.f3.f5) := hcc 9 _ rfl
  have f9 : w5.frozen? ⟨go, i * 12 + 9, none⟩ = false := hfr 9
  have y10 : w5.cell? ⟨go, i * 12 + 10, none⟩ = some (Value.bool x.f1.f4) := hcc 10 _ rfl
  have f10 : w5.frozen? ⟨go, i * 12 + 10, none⟩ = false := hfr 10
  have y11 : w5.cell? ⟨go, i * 12 + 11, none⟩ = some (Value.bool x.f1.f5) := hcc 11 _ rfl
  have f11 : w5.frozen? ⟨go, i * 12 + 11, none⟩ = false := hfr 11
  clear hcc hfr hM hcl
  obtain ⟨p0, p1, p2, p3, p4, p5, p6, p7, p8, p9, p10⟩ := cells11 HX5.out.pg
  go_upto_region 4 with fail
  have hge : w.heap.size ≤ go := ((Kd.R_bound HO5.out).1 go rfl).2.1
  have hb6 : Below w.heap.size w (((((((((((w5.setCell ⟨go, i * 12 + 1, none⟩ (.int .u64 p.f0)).setCell ⟨go, i * 12 + 1 + 1, none⟩ (.int .i64 p.f1)).setCell ⟨go, i * 12 + 1 + 2, none⟩ (.int .u64 p.f2)).setCell ⟨go, i * 12 + 1 + 3, none⟩ (.bool p.f3.f0)).setCell ⟨go, i * 12 + 1 + 4, none⟩ (.bool p.f3.f1)).setCell ⟨go, i * 12 + 1 + 5, none⟩ (.bool p.f3.f2)).setCell ⟨go, i * 12 + 1 + 6, none⟩ (.bool p.f3.f3)).setCell ⟨go, i * 12 + 1 + 7, none⟩ (.bool p.f3.f4)).setCell ⟨go, i * 12 + 1 + 8, none⟩ (.bool p.f3.f5)).setCell ⟨go, i * 12 + 1 + 9, none⟩ (.bool p.f4)).setCell ⟨go, i * 12 + 1 + 10, none⟩ (.bool p.f5)) := (below_set (below_set (below_set (below_set (below_set (below_set (below_set (below_set (below_set (below_set (below_set HX5.out.lo hge) hge) hge) hge) hge) hge) hge) hge) hge) hge) hge)
  have hr6 : Kd.R k105 105 (((((((((((w5.setCell ⟨go, i * 12 + 1, none⟩ (.int .u64 p.f0)).setCell ⟨go, i * 12 + 1 + 1, none⟩ (.int .i64 p.f1)).setCell ⟨go, i * 12 + 1 + 2, none⟩ (.int .u64 p.f2)).setCell ⟨go, i * 12 + 1 + 3, none⟩ (.bool p.f3.f0)).setCell ⟨go, i * 12 + 1 + 4, none⟩ (.bool p.f3.f1)).setCell ⟨go, i * 12 + 1 + 5, none⟩ (.bool p.f3.f2)).setCell ⟨go, i * 12 + 1 + 6, none⟩ (.bool p.f3.f3)).setCell ⟨go, i * 12 + 1 + 7, none⟩ (.bool p.f3.f4)).setCell ⟨go, i * 12 + 1 + 8, none⟩ (.bool p.f3.f5)).setCell ⟨go, i * 12 + 1 + 9, none⟩ (.bool p.f4)).setCell ⟨go, i * 12 + 1 + 10, none⟩ (.bool p.f5)) w.heap.size (okP D) (.slice (some ⟨go, 0, none⟩) s.L.length co) (s.L.set i ⟨x.f0, p⟩) := HSG.out.1
  have hg6 : w5.grownBy (((((((((((w5.setCell ⟨go, i * 12 + 1, none⟩ (.int .u64 p.f0)).setCell ⟨go, i * 12 + 1 + 1, none⟩ (.int .i64 p.f1)).setCell ⟨go, i * 12 + 1 + 2, none⟩ (.int .u64 p.f2)).setCell ⟨go, i * 12 + 1 + 3, none⟩ (.bool p.f3.f0)).setCell ⟨go, i * 12 + 1 + 4, none⟩ (.bool p.f3.f1)).setCell ⟨go, i * 12 + 1 + 5, none⟩ (.bool p.f3.f2)).setCell ⟨go, i * 12 + 1 + 6, none⟩ (.bool p.f3.f3)).setCell ⟨go, i * 12 + 1 + 7, none⟩ (.bool p.f3.f4)).setCell ⟨go, i * 12 + 1 + 8, none⟩ (.bool p.f3.f5)).setCell ⟨go, i * 12 + 1 + 9, none⟩ (.bool p.f4)).setCell ⟨go, i * 12 + 1 + 10, none⟩ (.bool p.f5)) (Value.slice (some ⟨go, 0, none⟩) s.L.length co).ownBlock := HSG.out.2
  have hx6 := HX5.out.grown HO5.out hg6 hb6
  clear hg6 hb6 hge HSG HO5 HX5 p0 p1 p2 p3 p4 p5 p6 p7 p8 p9 p10 y1 f1 y2 f2 y3 f3 y4 f4 y5 f5 y6 f6 y7 f7 y8 f8 y9 f9 y10 f10 y11 f11
  generalize ((((((((((w5.setCell ⟨go, i * 12 + 1, none⟩ (.int .u64 p.f0)).setCell ⟨go, i * 12 + 1 + 1, none⟩ (.int .i64 p.f1)).setCell ⟨go, i * 12 + 1 + 2, none⟩ (.int .u64 p.f2)).setCell ⟨go, i * 12 + 1 + 3, none⟩ (.bool p.f3.f0)).setCell ⟨go, i * 12 + 1 + 4, none⟩ (.bool p.f3.f1)).setCell ⟨go, i * 12 + 1 + 5, none⟩ (.bool p.f3.f2)).setCell ⟨go, i * 12 + 1 + 6, none⟩ (.bool p.f3.f3)).setCell ⟨go, i * 12 + 1 + 7, none⟩ (.bool p.f3.f4)).setCell ⟨go, i * 12 + 1 + 8, none⟩ (.bool p.f3.f5)).setCell ⟨go, i * 12 + 1 + 9, none⟩ (.bool p.f4)).setCell ⟨go, i * 12 + 1 + 10, none⟩ (.bool p.f5) = w6 at *
  have HO6 := Aside0.mk hr6
  have HX6 := Aside0.mk hx6
  clear hr6 hx6
  obtain ⟨-, x1, -, -⟩ := cells4 HX6.out.box
  have f1 := blk_frozen HX6.out.box 1
  go_upto_region 5 with fail
  rw [setCell_block (t := 29) (i := 1) (cs' := #[.int .i64 s.n, .slice (some ⟨go, 0, none⟩) s.L.length co, .slice A2 s.by_.length c2, .int .i64 s.made]) HX6.out.box (.slice (some ⟨go, 0, none⟩) s.L.length co) rfl]
  have HX3 := Aside0.mk (HX6.out.sbox (box' := #[.int .i64 s.n, .slice (some ⟨go, 0, none⟩) s.L.length co, .slice A2 s.by_.length c2, .int .i64 s.made]))
  have HO3 := Aside0.mk (R_sbp HO6.out (.cells #[.int .i64 s.n, .slice (some ⟨go, 0, none⟩) s.L.length co, .slice A2 s.by_.length c2, .int .i64 s.made] 29 (0, 0)) (.inl rfl))
  generalize ChangeMaps.setBlock w6 D (.cells #[.int .i64 s.n, .slice (some ⟨go, 0, none⟩) s.L.length co, .slice A2 s.by_.length c2, .int .i64 s.made] 29 (0, 0)) = w3 at *
  clear x1 f1 HX6 HO6
  obtain ⟨x0, x1, x2, x3⟩ := cells4 HX3.out.box
  obtain ⟨z0, z1, z2, z3⟩ := cells4 HX3.out.res
  have g0 := blk_frozen HX3.out.res 0
  have g1 := blk_frozen HX3.out.res 1
  have g2 := blk_frozen HX3.out.res 2
  have g3 := blk_frozen HX3.out.res 3
  go_wp2_with fail
  rw [set4 HX3.out.res]
  refine bodyPost_ret (results_cell_row rfl _ _ (D + 1 + 1) 29 _ (0, 0) _ rfl (sb_same HX3.out.res _) Try.underlying29 rfl (by kernel_rfl)) rfl ?_
  have hx4 := HX3.out.sres (res' := #[.int .i64 s.n, .slice (some ⟨go, 0, none⟩) s.L.length co, .slice A2 s.by_.length c2, .int .i64 s.made])
  have ho4 := R_sbp HO3.out (.cells #[.int .i64 s.n, .slice (some ⟨go, 0, none⟩) s.L.length co, .slice A2 s.by_.length c2, .int .i64 s.made] 29 (0, 0)) (.inr rfl)
  have h5 := (Kd.R_reads' ho4).2.1
  have hl : (s.L.set i ⟨x.f0, p⟩).length = s.L.length := List.length_set
  refine ⟨some ⟨go, 0, none⟩, co, A2, c2, ?_, fun W hW => ?_, hx4.lo⟩
  · show _ = Ending.returned (.agg #[.int .i64 s.n, .slice (some ⟨go, 0, none⟩) (s.L.set i ⟨x.f0, p⟩).length co, .slice A2 s.by_.length c2, .int .i64 s.made])
    rw [hl]
  · have hm := HM0.out.keep _ (hW.old HM0.out.lt hx4.lo)
    obtain ⟨ok', hr'⟩ := hW.own ho4
    exact ⟨(Kd.R_reads' hr').2.2, by show (s.L.set i ⟨x.f0, p⟩).length ≤ co; rw [hl]; exact h5, hm.b, hm.bc⟩
end
end Go.Proofs.Ytalmemcidbmdgaa.PM


/- The document's model of spaces (layer 16): drop: the walk. -/
set_option linter.unusedVariables false
set_option linter.unusedSimpArgs false
namespace Go.Proofs.Ytalmemcidbmdgaa.PM
open Go.RowKit Go.Proofs.YtalmemcidbmdgaaW.PrintWords Go.Proofs.YtalmemcidbmdgaaW.PrintLast Go.Proofs.YtalmemcidbmdgaaW.PrintMore Go.Proofs.Ytalmemcidbmdgaa.PageG
attribute [local go_sem] max2_int min2_int max_two min_two max_three min_three max_four min_four   -- for this text's walks alone
theorem C_take {α : Type} {d : Kd α} {w : World} {A : Option Addr} {n m : Nat} {xs : List α} (h : Kd.C d w A n xs) (hm : m ≤ n) : Kd.C d w A m (xs.take m) := by
  refine ⟨by rw [List.length_take, h.1]; omega, by have := h.2.1; omega, fun h0 => ?_⟩
  obtain ⟨ad, e, hc⟩ := h.2.2 (by omega)
  refine ⟨ad, e, fun j p hj => hc j p ?_⟩
  rw [List.getElem?_take] at hj
  split at hj
  · exact hj
  · cases hj
theorem C_drop {α : Type} {d : Kd α} {w : World} {ad : Addr} {n m : Nat} {xs : List α} (h : Kd.C d w (some ad) n xs) (hm : m ≤ n) : Kd.C d w (some (ad.add (m * d.sz))) (n - m) (xs.drop m) := by
  refine ⟨by rw [List.length_drop, h.1], by have := h.2.1; omega, fun h0 => ⟨_, rfl, fun j p hj => ?_⟩⟩
  obtain ⟨ad', e, hc⟩ := h.2.2 (by omega)
  cases e
  rw [List.getElem?_drop] at hj
  obtain ⟨c, hs, hr, hcell⟩ := hc _ _ hj
  refine ⟨c, hs, hr, fun i u hu => ?_⟩
  rw [Go.Deep.add_add, show m * d.sz + (j * d.sz + i) = (m + j) * d.sz + i by rw [Nat.add_mul]; omega]
  exact hcell i u hu
theorem win_l0 (n r m : Int) (l : List Ent) (bs : List Bt) (hl : l.length ≤ 100000) : ∀ (d i c : Nat), i + d = l.length → c ≤ i → lookasideref16_Windows.l0 (d + 1) r (c : Int) (i : Int) n l bs m = some ((c + winN (l.drop i) r : Nat) : Int)
  | 0, i, c, hi, hc => by
    simp only [lookasideref16_Windows.l0]
    rw [if_neg (by omega), List.drop_eq_nil_of_le (by omega)]
    rfl
  | d + 1, i, c, hi, hc => by
    have hlt : i < l.length := by omega
    have hrd : rd_T105 l (i : Int) = l[i] := by
      simp [rd_T105, List.getD_eq_getElem?_getD, hlt]
    have hw1 : wrap64 ((i : Int) + 1) = ((i + 1 : Nat) : Int) := by unfold wrap64; omega
    have hw2 : wrap64 ((c : Int) + 1) = ((c + 1 : Nat) : Int) := by unfold wrap64; omega
    have hd : l.drop i = l[i] :: l.drop (i + 1) := List.drop_eq_getElem_cons hlt
    rw [lookasideref16_Windows.l0, if_pos (by omega), if_pos (by omega), hrd, hw1, hw2, hd]
    by_cases h : l[i].f1.f2 = r
    · rw [if_pos h, win_l0 n r m l bs hl d (i + 1) (c + 1) (by omega) (by omega)]
      unfold winN
      rw [List.countP_cons, if_pos (by simp [h])]
      congr 2
      omega
    · have e : winN (l[i] :: l.drop (i + 1)) r = winN (l.drop (i + 1)) r := by
        unfold winN
        rw [List.countP_cons, if_neg (by simp [h]), Nat.add_zero]
      rw [if_neg h, win_l0 n r m l bs hl d (i + 1) c (by omega) (by omega), e]
theorem win_f (n r m : Int) (l : List Ent) (bs : List Bt) (hl : l.length ≤ 100000) : lookasideref16_Windows.f (l.length + 1) n l bs m r = some ((winN l r : Nat) : Int) := by
  have h := win_l0 n r m l bs hl l.length 0 0 (by omega) (Nat.le_refl _)
  rw [List.drop_zero, Nat.zero_add] at h
  exact h
section
variable {X : Nat → Prop} {w w' : World} {A1 A2 : Option Addr} {c1 c2 : Nat} {s : MS}
set_option maxHeartbeats 8000000 in
set_option maxRecDepth 100000 in
theorem ddrop_calls (hh : DocX X w A1 c1 A2 c2 s) (hf : s.L.length ≤ 100000) (hfb : s.by_.length ≤ 100000) {i : Nat} {x : Ent} (hi : s.L[i]? = some x) (hr0 : 0 ≤ x.f1.f2 ∧ x.f1.f2 < 1000000) :
    Calls Try.prog 35 #[.agg #[.int .i64 s.n, .slice A1 s.L.length c1, .slice A2 s.by_.length c2, .int .i64 s.made], .int .i64 (i : Int)] w (DocP X w (dropS s i x)) := by
  have h := hh.m
  have HM := Aside0.mk h
  have HI := Aside0.mk hi
  have hil : i < s.L.length := (List.getElem?_eq_some_iff.1 hi).1
  have hlc := h.lc
  have hi0 : (0 : Int) ≤ (i : Int) := by omega
  have hi1 : (i : Int) < (s.L.length : Int) := by omega
  have hrd : rd_T105 s.L (i : Int) = x := by
    simp [rd_T105, List.getD_eq_getElem?_getD, hi]
  obtain ⟨ad, hA, -⟩ := at_T105 h.l (i : Int) hi0 hi1
  subst hA
  have HM0 := Aside0.mk hh
  have HRD := Aside0.mk hrd
  clear h hh hi hrd
  obtain ⟨D, hD⟩ : ∃ D, w.heap.size = D := ⟨_, rfl⟩
  go_enter Try.func35, Try.ntmps35
  go_upto_region 1 with fail
  have hx := boxes hD #[.int .i64 s.n, .slice (some ad) s.L.length c1, .slice A2 s.by_.length c2, .int .i64 s.made] #[.int .i64 0, .slice none 0 0, .slice none 0 0, .int .i64 0]
  have HX1 := Aside0.mk hx
  generalize (w.alloc (.cells #[.int .i64 s.n, .slice (some ad) s.L.length c1, .slice A2 s.by_.length c2, .int .i64 s.made] 29)).alloc (.cells #[.int .i64 0, .slice none 0 0, .slice none 0 0, .int .i64 0] 29) = w1 at *
  clear hx hD
  have x1 := (blk_cell HX1.out.box 1).trans rfl
  obtain ⟨ad', hA, q0, q1, q2, q3, -⟩ := at_T105 (HM.out.below HX1.out.lo).l (i : Int) hi0 hi1
  cases hA
  rw [HRD.out, Int.toNat_natCast] at q3
  clear q0 q1 q2
  go_upto_region 3 with fail
  clear q3
  have hic : (i : Int) ≤ (c1 : Int) := by omega
  go_upto_region 4 with (first | ((with_reducible refine gate_builtin (b := .append) (xs := #[.tmp 16, .tmp 20]) rfl ?_); at_builtin; refine Kd.R_append_rows k105 (w0 := w) w.heap.size rfl (.tmp 16) (.tmp 20) 26 105 (.agg #[(.int .i64 0), (.int .u64 0), (.int .i64 0), (.int .u64 0), (.bool false), (.bool false), (.bool false), (.bool false), (.bool false), (.bool false), (.bool false), (.bool false)]) 40 rfl Try.underlying26 info105 rfl (by decide) (by omega) (.slice none 0 0) ([] : List Ent) (s.L.take i) _ _ _ (fun k => k ≠ D ∧ k ≠ D + 1) (fun _ => False) rfl rfl ?aO ?aR (fun _ _ h => h) (fun _ h => h.elim) ?aF ?aB ?aS ?aL ?_; (case aR => exact C_take (HM.out.below HX1.out.lo).l (by omega)); (case aB => exact HX1.out.lo); (case aF => exact (fun k hk => ⟨by have := blk_lt HX1.out.res; omega, by have := blk_lt HX1.out.res; omega⟩)); (case aO => exact Kd.R_nil _ _ _ _ _); (case aS => exact HX1.out.lo.size); (case aL => simp; omega); intro v5 w5 ho5 hb5 hg5 hat5; have HO5 := Aside0.mk ho5; have HB5 := Aside0.mk hb5; have HG5 := Aside0.mk hg5; clear ho5 hb5 hg5 hat5))
  obtain ⟨A5, c5, hv5⟩ := Kd.R_slice HO5.out
  subst hv5
  have HX5 := Aside0.mk (HX1.out.grown (xs := ([] : List Ent)) (v := .slice none 0 0) (d := k105) (e := 105) (base := w.heap.size) (Kd.R_nil _ _ _ _ _) HG5.out HB5.out)
  have HO6 := Aside0.mk (show Kd.R k105 105 w5 w.heap.size (fun k => k ≠ D ∧ k ≠ D + 1) (.slice A5 (([] : List Ent) ++ s.L.take i).length c5) (s.L.take i) from by simpa using HO5.out)
  have hlt5 : (([] : List Ent) ++ s.L.take i).length = i := by simp; omega
  rw [hlt5] at HO6 ⊢
  clear x1 HX1 HG5 HB5 HO5
  have x1 := (blk_cell HX5.out.box 1).trans rfl
  have f1 := blk_frozen HX5.out.box 1
  have hw1 : wrap64 ((i : Int) + 1) = (i : Int) + 1 := by unfold wrap64; omega
  have hcc : c1 = i + 1 ∨ i + 1 < c1 := by omega
  rcases hcc with hcc | hcc
  · subst hcc
    go_upto_region 5 with (first | ((with_reducible refine gate_builtin (b := .append) (xs := #[.tmp 22, .tmp 27]) rfl ?_); at_builtin; refine Kd.R_append_rows k105 (w0 := w) w.heap.size rfl (.tmp 22) (.tmp 27) 26 105 (.agg #[(.int .i64 0), (.int .u64 0), (.int .i64 0), (.int .u64 0), (.bool false), (.bool false), (.bool false), (.bool false), (.bool false), (.bool false), (.bool false), (.bool false)]) 40 rfl Try.underlying26 info105 rfl (by decide) (by omega) (.slice A5 i c5) (s.L.take i) (s.L.drop (i + 1)) _ _ _ (fun k => k ≠ D ∧ k ≠ D + 1) (fun _ => False) rfl rfl ?aO ?aR (fun _ _ h => h) (fun _ h => h.elim) ?aF ?aB ?aS ?aL ?_; (case aR => exact (⟨by rw [List.length_drop]; omega, by omega, fun h0 => absurd h0 (by omega)⟩ : Kd.C k105 w5 (some ad) 0 (s.L.drop (i + 1)))); (case aB => exact HX5.out.lo); (case aF => exact (fun k hk => ⟨by have := blk_lt HX5.out.res; omega, by have := blk_lt HX5.out.res; omega⟩)); (case aO => exact HO6.out); (case aS => exact HX5.out.lo.size); (case aL => simp; omega); intro v7 w7 ho5 hb5 hg5 hat5; have HO7 := Aside0.mk ho5; have HB7 := Aside0.mk hb5; have HG7 := Aside0.mk hg5; clear ho5 hb5 hg5 hat5; have HX7 := Aside0.mk (HX5.out.grown HO6.out HG7.out HB7.out); have HO8 := Aside0.mk (show Kd.R k105 105 w7 w.heap.size (fun k => k ≠ D ∧ k ≠ D + 1) v7 (s.L.eraseIdx i) from by rw [List.eraseIdx_eq_take_drop_succ]; exact HO7.out); clear HO7 HG7 HB7 x1 f1; obtain ⟨A7, c7, hv7⟩ := Kd.R_slice HO8.out; subst hv7; have x1 := (blk_cell HX7.out.box 1).trans rfl; have f1 := blk_frozen HX7.out.box 1))
    rw [setCell_block (t := 29) (i := 1) (cs' := #[.int .i64 s.n, .slice A7 (s.L.eraseIdx i).length c7, .slice A2 s.by_.length c2, .int .i64 s.made]) HX7.out.box (.slice A7 (s.L.eraseIdx i).length c7) rfl]
    have HX9 := Aside0.mk (HX7.out.sbox (box' := #[.int .i64 s.n, .slice A7 (s.L.eraseIdx i).length c7, .slice A2 s.by_.length c2, .int .i64 s.made]))
    have HO9 := Aside0.mk (R_sb HO8.out (.cells #[.int .i64 s.n, .slice A7 (s.L.eraseIdx i).length c7, .slice A2 s.by_.length c2, .int .i64 s.made] 29 (0, 0)) (.inl rfl))
    generalize ChangeMaps.setBlock w7 D (.cells #[.int .i64 s.n, .slice A7 (s.L.eraseIdx i).length c7, .slice A2 s.by_.length c2, .int .i64 s.made] 29 (0, 0)) = w9 at *
    clear x1 f1 HX7 HO8 HX5 HO6
    obtain ⟨x0, x1, x2, x3⟩ := cells4 HX9.out.box
    have hel : (s.L.eraseIdx i).length ≤ 100000 := by have := (List.eraseIdx_sublist s.L i).length_le; omega
    have hwf := win_f s.n x.f1.f2 s.made (s.L.eraseIdx i) s.by_ hel
    have HWF := Aside0.mk hwf
    clear hwf hel
    go_wp2_with fail
    refine (lookasideref16_Windows.calls ((s.L.eraseIdx i).length + 1) s.n A7 c7 (s.L.eraseIdx i) A2 c2 s.by_ s.made x.f1.f2 _ w9 (Kd.R_reads' HO9.out).2.2 (Kd.R_reads' HO9.out).2.1 (HM.out.below HX9.out.lo).b (HM.out.below HX9.out.lo).bc HWF.out).mono ?_
    rintro e w10 ⟨rfl, hb⟩
    have HX10 := Aside0.mk (HX9.out.below hb)
    have HO10 := Aside0.mk (Kd.R_below HO9.out hb)
    clear hb HX9 HO9 x0 x1 x2 x3
    obtain ⟨x0, x1, x2, x3⟩ := cells4 HX10.out.box
    by_cases hw0 : winN (s.L.eraseIdx i) x.f1.f2 = 0
    · have HW0 := Aside0.mk hw0
      rw [hw0]
      clear hw0
      go_wp2_with fail
      clear x0 x1 x2 x3
      have hnl := Kd.R_nil k114 114 w10 w10.heap.size (fun _ => True)
      go_loopg [7, 8] s.by_.length (fun kq lv iv W => ∃ (j : Nat) (l : List Bt), iv = .int .i64 (j : Int) ∧ j + kq = s.by_.length ∧ Aside0 (l = (s.by_.take j).filter (fun b => !(b.f0 == x.f1.f2))) ∧ Aside0 (Kd.R k114 114 W w10.heap.size (fun _ => True) lv l) ∧ Aside0 (Below w10.heap.size w10 W))
      case atStart => exact ⟨0, [], rfl, by omega, ⟨by simp⟩, ⟨hnl⟩, ⟨Below.refl _ _⟩⟩
      case round =>
        clear hnl
        obtain ⟨j, l, rfl, hik, HL, HO, HB⟩ := hrel
        have HXB := Aside0.mk (HX10.out.below HB.out)
        have x2 := (blk_cell HXB.out.box 2).trans rfl
        have hk0 : (0 : Int) ≤ (j : Int) := by omega
        obtain ⟨A5, c5, hv5⟩ := Kd.R_slice HO.out
        subst hv5
        by_cases hlt : j < s.by_.length
        · have hk1 : (j : Int) < (s.by_.length : Int) := by omega
          obtain ⟨ad2, hA2, y0, y1, y2⟩ := at_T114 (HM.out.below HXB.out.lo).b (j : Int) hk0 hk1
          subst hA2
          rw [rd_bt hlt, Int.toNat_natCast] at y0 y1 y2
          have HTK := Aside0.mk (List.take_succ_eq_append_getElem hlt)
          generalize s.by_[j] = b at y0 y1 y2 HTK
          have HLL := Aside0.mk (show l.length ≤ j by rw [HL.out]; have := List.length_filter_le (fun b : Bt => !(b.f0 == x.f1.f2)) (s.by_.take j); simp at this ⊢; omega)
          have hll := HLL.out
          by_cases h0 : b.f0 = x.f1.f2
          · have HQ := Aside0.mk (show (b.f0 == x.f1.f2) = true by simp [h0])
            have hb0 : (b.f0 != x.f1.f2) = false := by simp [h0]
            clear h0
            go_wp2_with fail
            go_roundg (gk - 1)
            case measure => omega
            case rel => exact ⟨j + 1, l, by go_num, by omega, ⟨by rw [HL.out, HTK.out, List.filter_append, show List.filter (fun b : Bt => !(b.f0 == x.f1.f2)) [b] = [] by simp only [List.filter_cons, HQ.out]; rfl, List.append_nil]⟩, HO, HB⟩
          · have HQ := Aside0.mk (show (b.f0 == x.f1.f2) = false by simp [h0])
            have hb0 : (b.f0 != x.f1.f2) = true := by simp [h0]
            clear h0
            go_wp2_with (first | ((with_reducible refine gate_builtin (b := .append) (xs := #[.tmp 50, .tmp 56]) rfl ?_); at_builtin; refine Kd.R_append k114 (w0 := w10) w10.heap.size rfl (.tmp 50) (.tmp 56) 27 114 (.agg #[.int .u64 0, .int .u64 0, .int .u8 0]) 24 rfl Try.underlying27 info114 rfl (by decide) (by omega) (.slice A5 l.length c5) l b [.int .u64 b.f0, .int .u64 b.f1, .int .u8 b.f2] (fun _ => True) (fun _ => False) rfl rfl ?aP (fun _ hk => hk.elim) ?aF ?aO ?aB ?aS ?aL ?_; (case aP => exact k114_mkM _ _ _ b); (case aB => exact HB.out); (case aF => exact (fun _ _ => trivial)); (case aO => exact HO.out); (case aS => exact HB.out.size); (case aL => omega); intro v5 w5 ho5 hb5 hg5 hat5; have HO5 := Aside0.mk ho5; have HB5 := Aside0.mk hb5; clear ho5 hb5 hg5 hat5))
            clear y0 y1 y2 x2
            go_wp2_with fail
            go_roundg (gk - 1)
            case measure => omega
            case rel => exact ⟨j + 1, l ++ [b], by go_num, by omega, ⟨by rw [HL.out, HTK.out, List.filter_append, show List.filter (fun b : Bt => !(b.f0 == x.f1.f2)) [b] = [b] by simp only [List.filter_cons, HQ.out]; rfl]⟩, HO5, HB5⟩
        · have hk1 : ¬ (j : Int) < (s.by_.length : Int) := by omega
          have hd : decide ((j : Int) < (s.by_.length : Int)) = false := decide_eq_false hk1
          have f2 := blk_frozen HXB.out.box 2
          have HLF := Aside0.mk (show l = cutB s.by_ x.f1.f2 by rw [HL.out, List.take_of_length_le (by omega)]; rfl)
          have HOP := Aside0.mk (Kd.R_below HO10.out HB.out)
          have hDlt := blk_lt HX10.out.res
          have HLE := Aside0.mk (show w.heap.size ≤ w10.heap.size from HX10.out.lo.size)
          have HOB := Aside0.mk (show Kd.R k114 114 wr w10.heap.size (fun k => k ≠ D ∧ k ≠ D + 1) (.slice A5 l.length c5) l from Kd.R_mono (Kd.R_bound HO.out) (fun k hk => ⟨by have := hk.2.1; omega, by have := hk.2.1; omega⟩))
          clear hDlt
          go_upto_region 14 with fail
          rw [setCell_block (t := 29) (i := 2) (cs' := #[.int .i64 s.n, .slice A7 (s.L.eraseIdx i).length c7, .slice A5 l.length c5, .int .i64 s.made]) HXB.out.box (.slice A5 l.length c5) rfl]
          have HX3 := Aside0.mk (HXB.out.sbox (box' := #[.int .i64 s.n, .slice A7 (s.L.eraseIdx i).length c7, .slice A5 l.length c5, .int .i64 s.made]))
          have HO3 := Aside0.mk (R_sb HOB.out (.cells #[.int .i64 s.n, .slice A7 (s.L.eraseIdx i).length c7, .slice A5 l.length c5, .int .i64 s.made] 29 (0, 0)) (.inl rfl))
          have HP3 := Aside0.mk (R_sb HOP.out (.cells #[.int .i64 s.n, .slice A7 (s.L.eraseIdx i).length c7, .slice A5 l.length c5, .int .i64 s.made] 29 (0, 0)) (.inl rfl))
          generalize ChangeMaps.setBlock wr D (.cells #[.int .i64 s.n, .slice A7 (s.L.eraseIdx i).length c7, .slice A5 l.length c5, .int .i64 s.made] 29 (0, 0)) = w3 at *
          clear x2 f2 hd hk1 hk0 HXB HO HOB HOP
          obtain ⟨x0, x1, x2, x3⟩ := cells4 HX3.out.box
          obtain ⟨z0, z1, z2, z3⟩ := cells4 HX3.out.res
          have g0 := blk_frozen HX3.out.res 0
          have g1 := blk_frozen HX3.out.res 1
          have g2 := blk_frozen HX3.out.res 2
          have g3 := blk_frozen HX3.out.res 3
          go_wp2_with fail
          rw [set4 HX3.out.res]
          refine bodyPost_ret (results_cell_row rfl _ _ (D + 1) 29 _ (0, 0) _ rfl (sb_same HX3.out.res _) Try.underlying29 rfl (by kernel_rfl)) rfl ?_
          have hx4 := HX3.out.sres (res' := #[.int .i64 s.n, .slice A7 (s.L.eraseIdx i).length c7, .slice A5 l.length c5, .int .i64 s.made])
          have ho5 := R_sb HO3.out (.cells #[.int .i64 s.n, .slice A7 (s.L.eraseIdx i).length c7, .slice A5 l.length c5, .int .i64 s.made] 29 (0, 0)) (.inr rfl)
          have ho7 := R_sb HP3.out (.cells #[.int .i64 s.n, .slice A7 (s.L.eraseIdx i).length c7, .slice A5 l.length c5, .int .i64 s.made] 29 (0, 0)) (.inr rfl)
          have h5 := (Kd.R_reads' ho5).2.1
          have h7 := (Kd.R_reads' ho7).2.1
          have he := HLF.out
          subst he
          have hq : dropS s i x = { s with L := s.L.eraseIdx i, by_ := cutB s.by_ x.f1.f2 } := by unfold dropS; rw [if_pos HW0.out]
          rw [hq]
          refine ⟨A7, c7, A5, c5, rfl, fun W hW => ?_, hx4.lo⟩
          obtain ⟨ok', hr'⟩ := hW.own ho7
          obtain ⟨ok2, hr2⟩ := hW.own (Kd.R_lower ho5 HLE.out)
          exact ⟨(Kd.R_reads' hr').2.2, h7, (Kd.R_reads' hr2).2.2, h5⟩
    · have HW0 := Aside0.mk hw0
      have hg0 : (0 : Int) < ((winN (s.L.eraseIdx i) x.f1.f2 : Nat) : Int) := by omega
      clear hw0
      obtain ⟨z0, z1, z2, z3⟩ := cells4 HX10.out.res
      have g0 := blk_frozen HX10.out.res 0
      have g1 := blk_frozen HX10.out.res 1
      have g2 := blk_frozen HX10.out.res 2
      have g3 := blk_frozen HX10.out.res 3
      go_wp2_with fail
      rw [set4 HX10.out.res]
      refine bodyPost_ret (results_cell_row rfl _ _ (D + 1) 29 _ (0, 0) _ rfl (sb_same HX10.out.res _) Try.underlying29 rfl (by kernel_rfl)) rfl ?_
      have hx4 := HX10.out.sres (res' := #[.int .i64 s.n, .slice A7 (s.L.eraseIdx i).length c7, .slice A2 s.by_.length c2, .int .i64 s.made])
      have ho4 := R_sb HO10.out (.cells #[.int .i64 s.n, .slice A7 (s.L.eraseIdx i).length c7, .slice A2 s.by_.length c2, .int .i64 s.made] 29 (0, 0)) (.inr rfl)
      have h5 := (Kd.R_reads' ho4).2.1
      have he : dropS s i x = { s with L := s.L.eraseIdx i } := by unfold dropS; rw [if_neg HW0.out]
      rw [he]
      refine ⟨A7, c7, A2, c2, rfl, fun W hW => ?_, hx4.lo⟩
      have hm := HM0.out.keep _ (hW.old HM0.out.lt hx4.lo)
      obtain ⟨ok', hr'⟩ := hW.own ho4
      exact ⟨(Kd.R_reads' hr').2.2, h5, hm.b, hm.bc⟩
  · have hd0 : ¬ c1 - (i + 1) = 0 := by omega
    go_upto_region 5 with (first | ((with_reducible refine gate_builtin (b := .append) (xs := #[.tmp 22, .tmp 27]) rfl ?_); at_builtin; refine Kd.R_append_rows k105 (w0 := w) w.heap.size rfl (.tmp 22) (.tmp 27) 26 105 (.agg #[(.int .i64 0), (.int .u64 0), (.int .i64 0), (.int .u64 0), (.bool false), (.bool false), (.bool false), (.bool false), (.bool false), (.bool false), (.bool false), (.bool false)]) 40 rfl Try.underlying26 info105 rfl (by decide) (by omega) (.slice A5 i c5) (s.L.take i) (s.L.drop (i + 1)) _ _ _ (fun k => k ≠ D ∧ k ≠ D + 1) (fun _ => False) rfl rfl ?aO ?aR (fun _ _ h => h) (fun _ h => h.elim) ?aF ?aB ?aS ?aL ?_; (case aR => exact (C_drop (HM.out.below HX5.out.lo).l (by omega))); (case aB => exact HX5.out.lo); (case aF => exact (fun k hk => ⟨by have := blk_lt HX5.out.res; omega, by have := blk_lt HX5.out.res; omega⟩)); (case aO => exact HO6.out); (case aS => exact HX5.out.lo.size); (case aL => simp; omega); intro v7 w7 ho5 hb5 hg5 hat5; have HO7 := Aside0.mk ho5; have HB7 := Aside0.mk hb5; have HG7 := Aside0.mk hg5; clear ho5 hb5 hg5 hat5; have HX7 := Aside0.mk (HX5.out.grown HO6.out HG7.out HB7.out); have HO8 := Aside0.mk (show Kd.R k105 105 w7 w.heap.size (fun k => k ≠ D ∧ k ≠ D + 1) v7 (s.L.eraseIdx i) from by rw [List.eraseIdx_eq_take_drop_succ]; exact HO7.out); clear HO7 HG7 HB7 x1 f1; obtain ⟨A7, c7, hv7⟩ := Kd.R_slice HO8.out; subst hv7; have x1 := (blk_cell HX7.out.box 1).trans rfl; have f1 := blk_frozen HX7.out.box 1))
    rw [setCell_block (t := 29) (i := 1) (cs' := #[.int .i64 s.n, .slice A7 (s.L.eraseIdx i).length c7, .slice A2 s.by_.length c2, .int .i64 s.made]) HX7.out.box (.slice A7 (s.L.eraseIdx i).length c7) rfl]
    have HX9 := Aside0.mk (HX7.out.sbox (box' := #[.int .i64 s.n, .slice A7 (s.L.eraseIdx i).length c7, .slice A2 s.by_.length c2, .int .i64 s.made]))
    have HO9 := Aside0.mk (R_sb HO8.out (.cells #[.int .i64 s.n, .slice A7 (s.L.eraseIdx i).length c7, .slice A2 s.by_.length c2, .int .i64 s.made] 29 (0, 0)) (.inl rfl))
    generalize ChangeMaps.setBlock w7 D (.cells #[.int .i64 s.n, .slice A7 (s.L.eraseIdx i).length c7, .slice A2 s.by_.length c2, .int .i64 s.made] 29 (0, 0)) = w9 at *
    clear x1 f1 HX7 HO8 HX5 HO6
    obtain ⟨x0, x1, x2, x3⟩ := cells4 HX9.out.box
    have hel : (s.L.eraseIdx i).length ≤ 100000 := by have := (List.eraseIdx_sublist s.L i).length_le; omega
    have hwf := win_f s.n x.f1.f2 s.made (s.L.eraseIdx i) s.by_ hel
    have HWF := Aside0.mk hwf
    clear hwf hel
    go_wp2_with fail
    refine (lookasideref16_Windows.calls ((s.L.eraseIdx i).length + 1) s.n A7 c7 (s.L.eraseIdx i) A2 c2 s.by_ s.made x.f1.f2 _ w9 (Kd.R_reads' HO9.out).2.2 (Kd.R_reads' HO9.out).2.1 (HM.out.below HX9.out.lo).b (HM.out.below HX9.out.lo).bc HWF.out).mono ?_
    rintro e w10 ⟨rfl, hb⟩
    have HX10 := Aside0.mk (HX9.out.below hb)
    have HO10 := Aside0.mk (Kd.R_below HO9.out hb)
    clear hb HX9 HO9 x0 x1 x2 x3
    obtain ⟨x0, x1, x2, x3⟩ := cells4 HX10.out.box
    by_cases hw0 : winN (s.L.eraseIdx i) x.f1.f2 = 0
    · have HW0 := Aside0.mk hw0
      rw [hw0]
      clear hw0
      go_wp2_with fail
      clear x0 x1 x2 x3
      have hnl := Kd.R_nil k114 114 w10 w10.heap.size (fun _ => True)
      go_loopg [7, 8] s.by_.length (fun kq lv iv W => ∃ (j : Nat) (l : List Bt), iv = .int .i64 (j : Int) ∧ j + kq = s.by_.length ∧ Aside0 (l = (s.by_.take j).filter (fun b => !(b.f0 == x.f1.f2))) ∧ Aside0 (Kd.R k114 114 W w10.heap.size (fun _ => True) lv l) ∧ Aside0 (Below w10.heap.size w10 W))
      case atStart => exact ⟨0, [], rfl, by omega, ⟨by simp⟩, ⟨hnl⟩, ⟨Below.refl _ _⟩⟩
      case round =>
        clear hnl
        obtain ⟨j, l, rfl, hik, HL, HO, HB⟩ := hrel
        have HXB := Aside0.mk (HX10.out.below HB.out)
        have x2 := (blk_cell HXB.out.box 2).trans rfl
        have hk0 : (0 : Int) ≤ (j : Int) := by omega
        obtain ⟨A5, c5, hv5⟩ := Kd.R_slice HO.out
        subst hv5
        by_cases hlt : j < s.by_.length
        · have hk1 : (j : Int) < (s.by_.length : Int) := by omega
          obtain ⟨ad2, hA2, y0, y1, y2⟩ := at_T114 (HM.out.below HXB.out.lo).b (j : Int) hk0 hk1
          subst hA2
          rw [rd_bt hlt, Int.toNat_natCast] at y0 y1 y2
          have HTK := Aside0.mk (List.take_succ_eq_append_getElem hlt)
          generalize s.by_[j] = b at y0 y1 y2 HTK
          have HLL := Aside0.mk (show l.length ≤ j by rw [HL.out]; have := List.length_filter_le (fun b : Bt => !(b.f0 == x.f1.f2)) (s.by_.take j); simp at this ⊢; omega)
          have hll := HLL.out
          by_cases h0 : b.f0 = x.f1.f2
          · have HQ := Aside0.mk (show (b.f0 == x.f1.f2) = true by simp [h0])
            have hb0 : (b.f0 != x.f1.f2) = false := by simp [h0]
            clear h0
            go_wp2_with fail
            go_roundg (gk - 1)
            case measure => omega
            case rel => exact ⟨j + 1, l, by go_num, by omega, ⟨by rw [HL.out, HTK.out, List.filter_append, show List.filter (fun b : Bt => !(b.f0 == x.f1.f2)) [b] = [] by simp only [List.filter_cons, HQ.out]; rfl, List.append_nil]⟩, HO, HB⟩
          · have HQ := Aside0.mk (show (b.f0 == x.f1.f2) = false by simp [h0])
            have hb0 : (b.f0 != x.f1.f2) = true := by simp [h0]
            clear h0
            go_wp2_with (first | ((with_reducible refine gate_builtin (b := .append) (xs := #[.tmp 50, .tmp 56]) rfl ?_); at_builtin; refine Kd.R_append k114 (w0 := w10) w10.heap.size rfl (.tmp 50) (.tmp 56) 27 114 (.agg #[.int .u64 0, .int .u64 0, .int .u8 0]) 24 rfl Try.underlying27 info114 rfl (by decide) (by omega) (.slice A5 l.length c5) l b [.int .u64 b.f0, .int .u64 b.f1, .int .u8 b.f2] (fun _ => True) (fun _ => False) rfl rfl ?aP (fun _ hk => hk.elim) ?aF ?aO ?aB ?aS ?aL ?_; (case aP => exact k114_mkM _ _ _ b); (case aB => exact HB.out); (case aF => exact (fun _ _ => trivial)); (case aO => exact HO.out); (case aS => exact HB.out.size); (case aL => omega); intro v5 w5 ho5 hb5 hg5 hat5; have HO5 := Aside0.mk ho5; have HB5 := Aside0.mk hb5; clear ho5 hb5 hg5 hat5))
            clear y0 y1 y2 x2
            go_wp2_with fail
            go_roundg (gk - 1)
            case measure => omega
            case rel => exact ⟨j + 1, l ++ [b], by go_num, by omega, ⟨by rw [HL.out, HTK.out, List.filter_append, show List.filter (fun b : Bt => !(b.f0 == x.f1.f2)) [b] = [b] by simp only [List.filter_cons, HQ.out]; rfl]⟩, HO5, HB5⟩
        · have hk1 : ¬ (j : Int) < (s.by_.length : Int) := by omega
          have hd : decide ((j : Int) < (s.by_.length : Int)) = false := decide_eq_false hk1
          have f2 := blk_frozen HXB.out.box 2
          have HLF := Aside0.mk (show l = cutB s.by_ x.f1.f2 by rw [HL.out, List.take_of_length_le (by omega)]; rfl)
          have HOP := Aside0.mk (Kd.R_below HO10.out HB.out)
          have hDlt := blk_lt HX10.out.res
          have HLE := Aside0.mk (show w.heap.size ≤ w10.heap.size from HX10.out.lo.size)
          have HOB := Aside0.mk (show Kd.R k114 114 wr w10.heap.size (fun k => k ≠ D ∧ k ≠ D + 1) (.slice A5 l.length c5) l from Kd.R_mono (Kd.R_bound HO.out) (fun k hk => ⟨by have := hk.2.1; omega, by have := hk.2.1; omega⟩))
          clear hDlt
          go_upto_region 14 with fail
          rw [setCell_block (t := 29) (i := 2) (cs' := #[.int .i64 s.n, .slice A7 (s.L.eraseIdx i).length c7, .slice A5 l.length c5, .int .i64 s.made]) HXB.out.box (.slice A5 l.length c5) rfl]
          have HX3 := Aside0.mk (HXB.out.sbox (box' := #[.int .i64 s.n, .slice A7 (s.L.eraseIdx i).length c7, .slice A5 l.length c5, .int .i64 s.made]))
          have HO3 := Aside0.mk (R_sb HOB.out (.cells #[.int .i64 s.n, .slice A7 (s.L.eraseIdx i).length c7, .slice A5 l.length c5, .int .i64 s.made] 29 (0, 0)) (.inl rfl))
          have HP3 := Aside0.mk (R_sb HOP.out (.cells #[.int .i64 s.n, .slice A7 (s.L.eraseIdx i).length c7, .slice A5 l.length c5, .int .i64 s.made] 29 (0, 0)) (.inl rfl))
          generalize ChangeMaps.setBlock wr D (.cells #[.int .i64 s.n, .slice A7 (s.L.eraseIdx i).length c7, .slice A5 l.length c5, .int .i64 s.made] 29 (0, 0)) = w3 at *
          clear x2 f2 hd hk1 hk0 HXB HO HOB HOP
          obtain ⟨x0, x1, x2, x3⟩ := cells4 HX3.out.box
          obtain ⟨z0, z1, z2, z3⟩ := cells4 HX3.out.res
          have g0 := blk_frozen HX3.out.res 0
          have g1 := blk_frozen HX3.out.res 1
          have g2 := blk_frozen HX3.out.res 2
          have g3 := blk_frozen HX3.out.res 3
          go_wp2_with fail
          rw [set4 HX3.out.res]
          refine bodyPost_ret (results_cell_row rfl _ _ (D + 1) 29 _ (0, 0) _ rfl (sb_same HX3.out.res _) Try.underlying29 rfl (by kernel_rfl)) rfl ?_
          have hx4 := HX3.out.sres (res' := #[.int .i64 s.n, .slice A7 (s.L.eraseIdx i).length c7, .slice A5 l.length c5, .int .i64 s.made])
          have ho5 := R_sb HO3.out (.cells #[.int .i64 s.n, .slice A7 (s.L.eraseIdx i).length c7, .slice A5 l.length c5, .int .i64 s.made] 29 (0, 0)) (.inr rfl)
          have ho7 := R_sb HP3.out (.cells #[.int .i64 s.n, .slice A7 (s.L.eraseIdx i).length c7, .slice A5 l.length c5, .int .i64 s.made] 29 (0, 0)) (.inr rfl)
          have h5 := (Kd.R_reads' ho5).2.1
          have h7 := (Kd.R_reads' ho7).2.1
          have he := HLF.out
          subst he
          have hq : dropS s i x = { s with L := s.L.eraseIdx i, by_ := cutB s.by_ x.f1.f2 } := by unfold dropS; rw [if_pos HW0.out]
          rw [hq]
          refine ⟨A7, c7, A5, c5, rfl, fun W hW => ?_, hx4.lo⟩
          obtain ⟨ok', hr'⟩ := hW.own ho7
          obtain ⟨ok2, hr2⟩ := hW.own (Kd.R_lower ho5 HLE.out)
          exact ⟨(Kd.R_reads' hr').2.2, h7, (Kd.R_reads' hr2).2.2, h5⟩
    · have HW0 := Aside0.mk hw0
      have hg0 : (0 : Int) < ((winN (s.L.eraseIdx i) x.f1.f2 : Nat) : Int) := by omega
      clear hw0
      obtain ⟨z0, z1, z2, z3⟩ := cells4 HX10.out.res
      have g0 := blk_frozen HX10.out.res 0
      have g1 := blk_frozen HX10.out.res 1
      have g2 := blk_frozen HX10.out.res 2
      have g3 := blk_frozen HX10.out.res 3
      go_wp2_with fail
      rw [set4 HX10.out.res]
      refine bodyPost_ret (results_cell_row rfl _ _ (D + 1) 29 _ (0, 0) _ rfl (sb_same HX10.out.res _) Try.underlying29 rfl (by kernel_rfl)) rfl ?_
      have hx4 := HX10.out.sres (res' := #[.int .i64 s.n, .slice A7 (s.L.eraseIdx i).length c7, .slice A2 s.by_.length c2, .int .i64 s.made])
      have ho4 := R_sb HO10.out (.cells #[.int .i64 s.n, .slice A7 (s.L.eraseIdx i).length c7, .slice A2 s.by_.length c2, .int .i64 s.made] 29 (0, 0)) (.inr rfl)
      have h5 := (Kd.R_reads' ho4).2.1
      have he : dropS s i x = { s with L := s.L.eraseIdx i } := by unfold dropS; rw [if_neg HW0.out]
      rw [he]
      refine ⟨A7, c7, A2, c2, rfl, fun W hW => ?_, hx4.lo⟩
      have hm := HM0.out.keep _ (hW.old HM0.out.lt hx4.lo)
      obtain ⟨ok', hr'⟩ := hW.own ho4
      exact ⟨(Kd.R_reads' hr').2.2, h5, hm.b, hm.bc⟩
end
end Go.Proofs.Ytalmemcidbmdgaa.PM


/- The document's model of spaces (layer 16), plain: where a page is, the hole. -/
set_option linter.unusedVariables false
set_option linter.unusedSimpArgs false
namespace Go.Proofs.Ytalmemcidbmdgaa.PM
open Go.RowKit Go.Proofs.YtalmemcidbmdgaaW.PrintWords Go.Proofs.YtalmemcidbmdgaaW.PrintLast Go.Proofs.YtalmemcidbmdgaaW.PrintMore Go.Proofs.Ytalmemcidbmdgaa.PageG
attribute [local go_sem] max2_int min2_int max_two min_two max_three min_three max_four min_four   -- for this text's walks alone
theorem dbit_l0 (i : Nat) (hi : i < 2 ^ 62) (d : Nat) : ∀ (k x j : Nat), x < 2 ^ 64 → j ≤ i → i - j = d → d < k → lookasideref01_Bit.l0 k x i j = some ((x / 2 ^ d % 2 : Nat) : Int) := by
  induction d with
  | zero =>
    intro k x j hx hj hd hk
    obtain ⟨k, rfl⟩ : ∃ m, k = m + 1 := ⟨k - 1, by omega⟩
    simp only [lookasideref01_Bit.l0]
    rw [if_neg (by omega), show (2 : Int) = ((2 : Nat) : Int) from rfl, tmod_nat, Nat.pow_zero, Nat.div_one]
  | succ d ih =>
    intro k x j hx hj hd hk
    obtain ⟨k, rfl⟩ : ∃ m, k = m + 1 := ⟨k - 1, by omega⟩
    simp only [lookasideref01_Bit.l0]
    have hw : wrap64 ((j : Int) + 1) = ((j + 1 : Nat) : Int) := by unfold wrap64; omega
    rw [if_pos (by omega), show (2 : Int) = ((2 : Nat) : Int) from rfl, tdiv_nat, wu _ (by omega) (by omega), hw]
    have := ih k (x / 2) (j + 1) (by omega) (by omega) (by omega) (by omega)
    rw [Nat.div_div_eq_div_mul, ← Nat.pow_succ'] at this
    exact this
theorem dbit (k w i : Nat) (hw : w < 2 ^ 64) (hi : i < 2 ^ 62) (hk : i < k) : lookasideref01_Bit.f k w i = some ((w / 2 ^ i % 2 : Nat) : Int) := by
  unfold lookasideref01_Bit.f
  exact dbit_l0 i hi i k w 0 hw (by omega) (by omega) hk
/-- Are all bits from j on as that of 43? -/
theorem hole_l0 (va : Nat) (hv : va < 2 ^ 64) : ∀ (d j k : Nat), 44 ≤ j → j + d = 64 → d + 65 ≤ k → lookasideref02_Hole.l0 k va j = some (!(decide (va / 2 ^ j = if va / 2 ^ 43 % 2 = 1 then 2 ^ d - 1 else 0)))
  | 0, j, k, hj, hd, hk => by
    obtain ⟨k, rfl⟩ : ∃ m, k = m + 1 := ⟨k - 1, by omega⟩
    obtain rfl : j = 64 := by omega
    simp only [lookasideref02_Hole.l0]
    rw [if_neg (by omega), Nat.div_eq_of_lt hv]
    simp
  | d + 1, j, k, hj, hd, hk => by
    obtain ⟨k, rfl⟩ : ∃ m, k = m + 1 := ⟨k - 1, by omega⟩
    simp only [lookasideref02_Hole.l0]
    have hw : wrap64 ((j : Int) + 1) = ((j + 1 : Nat) : Int) := by unfold wrap64; omega
    have h43 := dbit k va 43 hv (by omega) (by omega)
    rw [if_pos (by omega), dbit k va j hv (by omega) (by omega), show (43 : Int) = ((43 : Nat) : Int) from rfl, h43, hw, hole_l0 va hv d (j + 1) k (by omega) (by omega) (by omega)]
    simp only [Option.bind_some]
    have hh : va / 2 ^ (j + 1) = va / 2 ^ j / 2 := by rw [Nat.pow_succ, ← Nat.div_div_eq_div_mul]
    have hp : 2 ^ (d + 1) = 2 * 2 ^ d := by rw [Nat.pow_succ]; omega
    have hp0 : 0 < 2 ^ d := Nat.two_pow_pos d
    have hb2 : va / 2 ^ 43 % 2 < 2 := Nat.mod_lt _ (by omega)
    rw [hh, hp]
    generalize va / 2 ^ j = q
    generalize va / 2 ^ 43 % 2 = b at *
    generalize 2 ^ d = P at *
    by_cases h : ((q % 2 : Nat) : Int) = (b : Int)
    · rw [if_pos h]
      congr 2
      apply decide_eq_decide.mpr
      by_cases hb1 : b = 1
      · rw [if_pos hb1, if_pos hb1]; omega
      · rw [if_neg hb1, if_neg hb1]
        omega
    · rw [if_neg h]
      congr 1
      symm
      rw [Bool.not_eq_true', decide_eq_false_iff_not]
      by_cases hb1 : b = 1
      · rw [if_pos hb1]; omega
      · rw [if_neg hb1]
        intro hq
        apply h
        omega
theorem hole_r (va : Nat) (hv : va < 2 ^ 64) : lookasideref02_Hole.f 90 va = some (holeB va) := by
  unfold lookasideref02_Hole.f
  have h := hole_l0 va hv 20 44 90 (by omega) (by omega) (by omega)
  rw [show (44 : Int) = ((44 : Nat) : Int) from rfl, h]
  congr 1
  unfold holeB Go.Proofs.Ytalmemcidbmdgaa.BitsN.get
  have hh : va / 2 ^ 44 = va / 2 ^ 43 / 2 := by rw [show (44 : Nat) = 43 + 1 from rfl, Nat.pow_succ, ← Nat.div_div_eq_div_mul]
  have hlt : va / 2 ^ 43 < 2 ^ 21 := by
    rw [Nat.div_lt_iff_lt_mul (Nat.two_pow_pos _), ← Nat.pow_add]
    exact hv
  rw [hh]
  generalize va / 2 ^ 43 = q at *
  rw [Nat.mod_eq_of_lt hlt]
  rw [Bool.eq_iff_iff]
  simp only [Bool.not_eq_true', decide_eq_false_iff_not, Bool.and_eq_true, bne_iff_ne, ne_eq]
  by_cases h1 : q % 2 = 1
  · rw [if_pos h1]; omega
  · rw [if_neg h1]; omega
theorem dat_l0 (sp : Int) (va : Nat) (hva : va < 2 ^ 64) (n m : Int) (l : List Ent) (tb : List (List S196)) (hl : l.length ≤ 100000) (hok : ∀ x ∈ l, OkE x) : ∀ (d i : Nat), i + d = l.length → lookasideref12_At.l0 (d + 1) sp (va : Int) (i : Int) n l m tb = some (match find (l.drop i) sp va with | some j => ((i + j : Nat) : Int) | none => -1)
  | 0, i, hi => by
    simp only [lookasideref12_At.l0]
    rw [if_neg (by omega), List.drop_eq_nil_of_le (by omega)]
    rfl
  | d + 1, i, hi => by
    have hlt : i < l.length := by omega
    have hrd : rd_T105 l (i : Int) = l[i] := by
      simp [rd_T105, List.getD_eq_getElem?_getD, hlt]
    have hw1 : wrap64 ((i : Int) + 1) = ((i + 1 : Nat) : Int) := by unfold wrap64; omega
    have hd : l.drop i = l[i] :: l.drop (i + 1) := List.drop_eq_getElem_cons hlt
    have hx := hok l[i] (List.getElem_mem hlt)
    have hb := base_r va (szN l[i]) hva hx.sz1
    have hih := dat_l0 sp va hva n m l tb hl hok d (i + 1) (by omega)
    have hf : find (l[i] :: l.drop (i + 1)) sp va = if hit sp va l[i] = true then some 0 else (find (l.drop (i + 1)) sp va).map (· + 1) := by
      unfold find
      rw [List.findIdx?_cons]
    rw [lookasideref12_At.l0, if_pos (by omega), if_pos (by omega), hrd, hw1, hd, hf, hih]
    have hno : (match (find (l.drop (i + 1)) sp va).map (· + 1) with | some j => ((i + j : Nat) : Int) | none => -1) = (match find (l.drop (i + 1)) sp va with | some j => ((i + 1 + j : Nat) : Int) | none => -1) := by
      cases find (l.drop (i + 1)) sp va with
      | none => rfl
      | some j => show ((i + (j + 1) : Nat) : Int) = ((i + 1 + j : Nat) : Int); omega
    by_cases h : l[i].f0 = sp
    · rw [if_pos h, hx.sz, hb]
      simp only [Option.bind_some]
      by_cases h2 : bs va (szN l[i]) = vaN l[i]
      · rw [if_pos (by rw [hx.va]; omega), if_pos (hit_iff.2 ⟨h, h2⟩)]
        rfl
      · rw [if_neg (by rw [hx.va]; omega), if_neg (fun hc => h2 (hit_iff.1 hc).2), hno]
    · rw [if_neg h, if_neg (fun hc => h (hit_iff.1 hc).1), hno]
def atI (l : List Ent) (sp : Int) (va : Nat) : Int := match find l sp va with | some j => (j : Int) | none => -1
theorem at_r (sp : Int) (va : Nat) (hva : va < 2 ^ 64) (n m : Int) (l : List Ent) (bs : List Bt) (hl : l.length ≤ 100000) (hok : ∀ x ∈ l, OkE x) : lookasideref16_At.f (l.length + 1) n l bs m sp (va : Int) = some (atI l sp va) := by
  unfold lookasideref16_At.f lookasideref12_At.f
  have h := dat_l0 sp va hva 0 0 l ([] : List (List S196)) hl hok l.length 0 (by omega)
  rw [show (0 : Int) = ((0 : Nat) : Int) from rfl] at h ⊢
  rw [h, List.drop_zero]
  unfold atI
  cases find l sp va with
  | none => rfl
  | some j => show some (((0 + j : Nat)) : Int) = some ((j : Nat) : Int); rw [Nat.zero_add]
end Go.Proofs.Ytalmemcidbmdgaa.PM


/- The document's model of spaces (layer 16): place: the walk. -/
set_option linter.unusedVariables false
set_option linter.unusedSimpArgs false
namespace Go.Proofs.Ytalmemcidbmdgaa.PM
open Go.RowKit Go.Proofs.YtalmemcidbmdgaaW.PrintWords Go.Proofs.YtalmemcidbmdgaaW.PrintLast Go.Proofs.YtalmemcidbmdgaaW.PrintMore Go.Proofs.Ytalmemcidbmdgaa.PageG
attribute [local go_sem] max2_int min2_int max_two min_two max_three min_three max_four min_four   -- for this text's walks alone
theorem results_ct {P : Program} {fn : Func} {p u : Tmp} {ty : TypeId} (h : fn.results = #[.cell p ty, .tmp u]) (tmps : Array Value) (w : World) (g : Nat) (t : TypeId) (cs : Array Value) (fr : Nat × Nat) (d : TypeDesc)
    (hp : tmps.getD p undef = .pointer (some ⟨g, 0, none⟩)) (hg : w.heap[g]? = some (.cells cs t fr))
    (hu : P.underlying ty = some d) (hd : (match d with | .struct _ | .array _ _ => true | _ => false) = true) (hi : (P.info? ty).map (·.size) = some cs.size) :
    (results fn tmps).run P w = .ok (.tuple #[.agg cs, tmps.getD u undef]) w := by
  have h1 : tmps[p]?.getD undef = .pointer (some ⟨g, 0, none⟩) := by simpa using hp
  simp [results, h, h1, asAddr, run_loadVar_row w g t ty cs fr d hg hu hd hi]
/-- What place hands back. -/
def DocE (X : Nat → Prop) (w : World) (r : Int × MS) (e : Ending) (w' : World) : Prop := ∃ A1 c1 A2 c2, e = .returned (.tuple #[.agg #[.int .i64 r.2.n, .slice A1 r.2.L.length c1, .slice A2 r.2.by_.length c2, .int .i64 r.2.made], .int .i64 r.1]) ∧ (∀ W, KeepsD X w w' W → DocM W A1 c1 A2 c2 r.2) ∧ Below w.heap.size w w'
theorem any_sel (sp : Int) (p : Pg) (l : List Ent) : (sel sp l).any (meetB p) = l.any (fun x => x.f0 == sp && meetB p x.f1) := by
  unfold sel
  induction l with
  | nil => rfl
  | cons x l ih =>
    rw [List.filter_cons, List.any_cons]
    cases h : x.f0 == sp with
    | true => simp only [h, if_true, List.map_cons, List.any_cons, Bool.true_and]; rw [ih]
    | false => simp only [h, Bool.false_and, Bool.false_or]; exact ih
section
variable {X : Nat → Prop} {w w' : World} {A1 A2 : Option Addr} {c1 c2 : Nat} {s : MS}
set_option maxHeartbeats 8000000 in
set_option maxRecDepth 100000 in
theorem dplace_calls (hh : DocX X w A1 c1 A2 c2 s) (hf : s.L.length ≤ 100000) (hok : ∀ x ∈ s.L, OkE x) (sp : Int) (p : Pg) (va sz : Nat) (hv : p.f0 = (va : Int)) (hv1 : va < 2 ^ 64) (hz : p.f1 = (sz : Int)) (hz1 : sz < 4) :
    Calls Try.prog 62 #[.agg #[.int .i64 s.n, .slice A1 s.L.length c1, .slice A2 s.by_.length c2, .int .i64 s.made], .int .i64 sp, .agg #[.int .u64 p.f0, .int .i64 p.f1, .int .u64 p.f2, .bool p.f3.f0, .bool p.f3.f1, .bool p.f3.f2, .bool p.f3.f3, .bool p.f3.f4, .bool p.f3.f5, .bool p.f4, .bool p.f5]] w (DocE X w (putS s sp p)) := by
  have HM := Aside0.mk hh.m
  have HM0 := Aside0.mk hh
  have HOK := Aside0.mk hok
  have HV := Aside0.mk hv
  have HZS := Aside0.mk hz
  have HR := Aside0.mk (show putS s sp p = if holeB va = true then (3, s) else if startsB p.f0 p.f1 = false then (4, s) else if s.L.any (fun x => x.f0 == sp && meetB p x.f1) = true then (9, s) else (0, { s with L := s.L ++ [⟨sp, p⟩] }) by
    unfold putS
    rw [any_sel, show p.f0.toNat = va by omega])
  have HHO := Aside0.mk (hole_r va hv1)
  have hst : startsB p.f0 p.f1 = decide (va % 2 ^ (13 + 3 * sz) = 0) := by
    unfold startsB
    rw [if_pos (by omega), show p.f0.toNat = va by omega, show p.f1.toNat = sz by omega]
  rw [hst] at HR
  clear hh hok hst hv hz
  generalize putS s sp p = res at *
  generalize hho : holeB va = hob at *
  obtain ⟨D, hD⟩ : ∃ D, w.heap.size = D := ⟨_, rfl⟩
  go_enter Try.func62, Try.ntmps62
  go_upto_region 1 with fail
  have hx := pboxes hD #[.int .i64 s.n, .slice A1 s.L.length c1, .slice A2 s.by_.length c2, .int .i64 s.made] #[.int .u64 p.f0, .int .i64 p.f1, .int .u64 p.f2, .bool p.f3.f0, .bool p.f3.f1, .bool p.f3.f2, .bool p.f3.f3, .bool p.f3.f4, .bool p.f3.f5, .bool p.f4, .bool p.f5] #[.int .i64 0, .slice none 0 0, .slice none 0 0, .int .i64 0]
  have HX := Aside0.mk hx
  generalize ((w.alloc (.cells #[.int .i64 s.n, .slice A1 s.L.length c1, .slice A2 s.by_.length c2, .int .i64 s.made] 29)).alloc (.cells #[.int .u64 p.f0, .int .i64 p.f1, .int .u64 p.f2, .bool p.f3.f0, .bool p.f3.f1, .bool p.f3.f2, .bool p.f3.f3, .bool p.f3.f4, .bool p.f3.f5, .bool p.f4, .bool p.f5] 50)).alloc (.cells #[.int .i64 0, .slice none 0 0, .slice none 0 0, .int .i64 0] 29) = w1 at *
  clear hx hD
  have p0 : w1.cell? ⟨D + 1, 0, none⟩ = some (.int .u64 (va : Int)) := by rw [← HV.out]; exact (blk_cell HX.out.pg 0).trans rfl
  go_wp2_with fail
  refine (lookasideref02_Hole.calls 90 (va : Int) hob w1 HHO.out).mono ?_
  rintro e w2 ⟨rfl, hd⟩
  have HX2 := Aside0.mk (HX.out.below hd.below)
  clear hd p0 HX
  cases hob with
  | true =>
    rw [if_pos rfl] at HR
    obtain ⟨x0, x1, x2, x3⟩ := cells4 HX2.out.box
    obtain ⟨z0, z1, z2, z3⟩ := cells4 HX2.out.res
    have g0 := blk_frozen HX2.out.res 0
    have g1 := blk_frozen HX2.out.res 1
    have g2 := blk_frozen HX2.out.res 2
    have g3 := blk_frozen HX2.out.res 3
    go_wp2_with fail
    rw [set4 HX2.out.res]
    refine bodyPost_ret (results_ct rfl _ _ (D + 1 + 1) 29 _ (0, 0) _ rfl (sb_same HX2.out.res _) Try.underlying29 rfl (by kernel_rfl)) rfl ?_
    have hx4 := HX2.out.sres (res' := #[.int .i64 s.n, .slice A1 s.L.length c1, .slice A2 s.by_.length c2, .int .i64 s.made])
    rw [HR.out]
    exact ⟨A1, c1, A2, c2, rfl, fun W hW => HM0.out.keep _ (hW.old HM0.out.lt hx4.lo), hx4.lo⟩
  | false =>
    rw [if_neg (by simp)] at HR
    go_upto_region 4 with fail
    have hbf : lookasideref02_Bytes.f (sz : Int) = some ((2 ^ (13 + 3 * sz) : Nat) : Int) := rbytes sz hz1
    have HBF := Aside0.mk hbf
    clear hbf
    have HPC := Aside0.mk (show ∀ W, Below w2.heap.size w2 W → (W.cell? ⟨D + 1, 0, none⟩ = some (.int .u64 (va : Int)) ∧ W.cell? ⟨D + 1, 1, none⟩ = some (.int .i64 (sz : Int)) ∧ Aside0 (Below w2.heap.size w2 W)) from fun W hb => by
      have hx := HX2.out.below hb
      refine ⟨?_, ?_, ⟨hb⟩⟩
      · rw [← HV.out]; exact (blk_cell hx.pg 0).trans rfl
      · rw [← HZS.out]; exact (blk_cell hx.pg 1).trans rfl)
    have hp0 : ((2 ^ (13 + 3 * sz) : Nat) : Int) ≠ 0 := by have := Nat.two_pow_pos (13 + 3 * sz); omega
    have hpb : (((2 ^ (13 + 3 * sz) : Nat) : Int) == 0) = false := beq_eq_false_iff_ne.2 hp0
    have hmod : Int.tmod (va : Int) ((2 ^ (13 + 3 * sz) : Nat) : Int) = ((va % 2 ^ (13 + 3 * sz) : Nat) : Int) := tmod_nat _ _
    generalize 2 ^ (13 + 3 * sz) = M at *
    have hpn : ¬ M = 0 := by omega
    have hpd : decide (((M : Nat) : Int) = 0) = false := decide_eq_false hp0
    have hpd2 : decide (M = 0) = false := decide_eq_false hpn
    go_region_held3 (fun W => W.cell? ⟨D + 1, 0, none⟩ = some (.int .u64 (va : Int)) ∧ W.cell? ⟨D + 1, 1, none⟩ = some (.int .i64 (sz : Int)) ∧ Aside0 (Below w2.heap.size w2 W))
      ((refine HPC.out _ ?_; first | exact (Below.refl _ _).drew | exact (Below.refl _ _).drew.trans hd.below | trace_state))
      ((go_at_call 17; refine (lookasideref02_Bytes.calls (sz : Int) ((M : Nat) : Int) _ HBF.out).mono ?_; rintro e w' ⟨rfl, hd⟩))
    rename_i hS
    have HX3 := Aside0.mk (HX2.out.below hS.2.2.out)
    clear hS HPC
    (try simp only [Exit.inBlock, Exit.then])
    clear hp0 hpb hpn hpd hpd2 hmod HBF HHO HX2
    by_cases hm0 : va % M = 0
    · rw [if_neg (by simp [hm0])] at HR
      have hb : ((va : Int) % (M : Int) != 0) = false := by
        have : (va : Int) % (M : Int) = 0 := by omega
        simp [this]
      clear hm0
      rw [hb]
      clear hb
      go_wp2_with fail
      go_loopg [9] s.L.length (fun kq iv W => ∃ (j : Nat), iv = .int .i64 (j : Int) ∧ j + kq = s.L.length ∧ Aside0 (∀ y ∈ s.L.take j, (y.f0 == sp && meetB p y.f1) = false) ∧ Aside0 (Bp w W D #[.int .i64 s.n, .slice A1 s.L.length c1, .slice A2 s.by_.length c2, .int .i64 s.made] #[.int .u64 p.f0, .int .i64 p.f1, .int .u64 p.f2, .bool p.f3.f0, .bool p.f3.f1, .bool p.f3.f2, .bool p.f3.f3, .bool p.f3.f4, .bool p.f3.f5, .bool p.f4, .bool p.f5] #[.int .i64 0, .slice none 0 0, .slice none 0 0, .int .i64 0]))
      case atStart => exact ⟨0, rfl, by omega, ⟨by simp⟩, HX3⟩
      case round =>
        clear HX3
        obtain ⟨j, rfl, hik, HNO, HX⟩ := hrel
        have hk0 : (0 : Int) ≤ (j : Int) := by omega
        have x1 := (blk_cell HX.out.box 1).trans rfl
        by_cases hlt : j < s.L.length
        · have hk1 : (j : Int) < (s.L.length : Int) := by omega
          obtain ⟨ad, hA, -⟩ := at_T105 (HM.out.below HX.out.lo).l (j : Int) hk0 hk1
          subst hA
          have HTK := Aside0.mk (List.take_succ_eq_append_getElem hlt)
          have HYM := Aside0.mk (List.getElem_mem hlt)
          have HRD := Aside0.mk (show rd_T105 s.L (j : Int) = s.L[j] by simp [rd_T105, List.getD_eq_getElem?_getD, hlt])
          generalize s.L[j] = y at HTK HYM HRD
          have HPC := Aside0.mk (show ∀ W, Below wr.heap.size wr W → (W.cell? ⟨D + 1, 0, none⟩ = some (.int .u64 (va : Int)) ∧ W.cell? ⟨D + 1, 1, none⟩ = some (.int .i64 (sz : Int)) ∧ W.cell? ⟨D, 1, none⟩ = some (.slice (some ad) s.L.length c1) ∧ W.cell? ⟨(ad.add (j * 12)).block, (ad.add (j * 12)).off + 1, none⟩ = some (.int .u64 (vaN y : Int)) ∧ W.cell? ⟨(ad.add (j * 12)).block, (ad.add (j * 12)).off + 2, none⟩ = some (.int .i64 (szN y : Int)) ∧ Aside0 (Below wr.heap.size wr W)) from fun W hb => by
            have hx := HX.out.below hb
            obtain ⟨ad', hA', q0, q1, q2, -⟩ := at_T105 (HM.out.below hx.lo).l (j : Int) hk0 hk1
            cases hA'
            rw [HRD.out, Int.toNat_natCast] at q1 q2
            rw [(HOK.out y HYM.out).va] at q1
            rw [(HOK.out y HYM.out).sz] at q2
            refine ⟨?_, ?_, (blk_cell hx.box 1).trans rfl, q1, q2, ⟨hb⟩⟩
            · rw [← HV.out]; exact (blk_cell hx.pg 0).trans rfl
            · rw [← HZS.out]; exact (blk_cell hx.pg 1).trans rfl)
          have HMT := Aside0.mk (show lookasideref02_Meet.f 1 (va : Int) (sz : Int) (vaN y : Int) (szN y : Int) = some (meetB p y.f1) by
            rw [meet_r 0 va sz (vaN y) (szN y) hv1 (HOK.out y HYM.out).va1 hz1 (HOK.out y HYM.out).sz1]
            unfold meetB
            rw [show p.f0.toNat = va by have := HV.out; omega, show p.f1.toNat = sz by have := HZS.out; omega]
            rfl)
          go_upto_region 9 with fail
          clear x1
          go_region_held3 (fun W => W.cell? ⟨D + 1, 0, none⟩ = some (.int .u64 (va : Int)) ∧ W.cell? ⟨D + 1, 1, none⟩ = some (.int .i64 (sz : Int)) ∧ W.cell? ⟨D, 1, none⟩ = some (.slice (some ad) s.L.length c1) ∧ W.cell? ⟨(ad.add (j * 12)).block, (ad.add (j * 12)).off + 1, none⟩ = some (.int .u64 (vaN y : Int)) ∧ W.cell? ⟨(ad.add (j * 12)).block, (ad.add (j * 12)).off + 2, none⟩ = some (.int .i64 (szN y : Int)) ∧ Aside0 (Below wr.heap.size wr W))
            ((refine HPC.out _ ?_; first | exact (Below.refl _ _).drew | exact (Below.refl _ _).drew.trans hd.below | trace_state))
            ((go_at_call 88; refine (lookasideref02_Meet.calls 1 (va : Int) (sz : Int) (vaN y : Int) (szN y : Int) (meetB p y.f1) _ HMT.out).mono ?_; rintro e w' ⟨rfl, hd⟩))
          rename_i hS
          have HXN := Aside0.mk (HX.out.below hS.2.2.2.2.2.out)
          clear hS HPC HMT
          (try simp only [Exit.inBlock, Exit.then])
          have x1 := (blk_cell HXN.out.box 1).trans rfl
          obtain ⟨ad', hA', q0, -⟩ := at_T105 (HM.out.below HXN.out.lo).l (j : Int) hk0 hk1
          cases hA'
          rw [HRD.out, Int.toNat_natCast] at q0
          by_cases hs : y.f0 = sp
          · have hbs : (y.f0 == sp) = true := by simp [hs]
            have HBS := Aside0.mk hbs
            clear hs
            cases hmt : meetB p y.f1 with
            | true =>
              have hany : s.L.any (fun x => x.f0 == sp && meetB p x.f1) = true := List.any_eq_true.2 ⟨y, HYM.out, by rw [HBS.out, hmt]; rfl⟩
              rw [if_pos hany] at HR
              clear hany hmt
              obtain ⟨x0, x1, x2, x3⟩ := cells4 HXN.out.box
              obtain ⟨z0, z1, z2, z3⟩ := cells4 HXN.out.res
              have g0 := blk_frozen HXN.out.res 0
              have g1 := blk_frozen HXN.out.res 1
              have g2 := blk_frozen HXN.out.res 2
              have g3 := blk_frozen HXN.out.res 3
              go_wp2_with fail
              rw [set4 HXN.out.res]
              refine bodyPost_ret (results_ct rfl _ _ (D + 1 + 1) 29 _ (0, 0) _ rfl (sb_same HXN.out.res _) Try.underlying29 rfl (by kernel_rfl)) rfl ?_
              have hx4 := HXN.out.sres (res' := #[.int .i64 s.n, .slice (some ad) s.L.length c1, .slice A2 s.by_.length c2, .int .i64 s.made])
              rw [HR.out]
              exact ⟨some ad, c1, A2, c2, rfl, fun W hW => HM0.out.keep _ (hW.old HM0.out.lt hx4.lo), hx4.lo⟩
            | false =>
              have HN := Aside0.mk (show ∀ z ∈ s.L.take (j + 1), (z.f0 == sp && meetB p z.f1) = false from fun z hz => by
                rw [HTK.out, List.mem_append, List.mem_singleton] at hz
                rcases hz with hz | rfl
                · exact HNO.out z hz
                · rw [hmt]; simp)
              clear hmt
              go_wp2_with fail
              go_roundg (gk - 1)
              case measure => omega
              case rel => exact ⟨j + 1, by go_num, by omega, HN, HXN⟩
          · have hbs : (y.f0 == sp) = false := by simp [hs]
            have HN := Aside0.mk (show ∀ z ∈ s.L.take (j + 1), (z.f0 == sp && meetB p z.f1) = false from fun z hz => by
              rw [HTK.out, List.mem_append, List.mem_singleton] at hz
              rcases hz with hz | rfl
              · exact HNO.out z hz
              · rw [hbs]; rfl)
            clear hs
            go_wp2_with fail
            go_roundg (gk - 1)
            case measure => omega
            case rel => exact ⟨j + 1, by go_num, by omega, HN, HXN⟩
        · have hk1 : ¬ (j : Int) < (s.L.length : Int) := by omega
          have hd : decide ((j : Int) < (s.L.length : Int)) = false := decide_eq_false hk1
          have hany : ¬ s.L.any (fun x => x.f0 == sp && meetB p x.f1) = true := by
            intro hc
            obtain ⟨z, hz, hzt⟩ := List.any_eq_true.1 hc
            have := HNO.out z (by rw [List.take_of_length_le (by omega)]; exact hz)
            rw [this] at hzt
            cases hzt
          rw [if_neg hany] at HR
          clear hany
          go_upto_region 14 with ((with_reducible refine gate_builtin (b := .append) (xs := #[.tmp 63, .tmp 65]) rfl ?_); at_builtin; refine Kd.R_append_rows k105 (w0 := w) w.heap.size rfl (.tmp 63) (.tmp 65) 26 105 (.agg #[(.int .i64 0), (.int .u64 0), (.int .i64 0), (.int .u64 0), (.bool false), (.bool false), (.bool false), (.bool false), (.bool false), (.bool false), (.bool false), (.bool false)]) 40 rfl Try.underlying26 info105 rfl (by decide) (by omega) (.slice none 0 0) ([] : List Ent) s.L _ _ _ (okP D) (fun _ => False) rfl rfl ?aO ?aR (fun _ _ h => h) (fun _ h => h.elim) ?aF ?aB ?aS ?aL ?_; (case aR => exact (HM.out.below HX.out.lo).l); (case aB => exact HX.out.lo); (case aF => exact (fun k hk => ⟨by have := blk_lt HX.out.res; omega, by have := blk_lt HX.out.res; omega, by have := blk_lt HX.out.res; omega⟩)); (case aO => exact Kd.R_nil _ _ _ _ _); (case aS => exact HX.out.lo.size); (case aL => simp; omega); intro v5 w5 ho5 hb5 hg5 hat5; have HO5 := Aside0.mk (show Kd.R k105 105 w5 w.heap.size (okP D) v5 s.L from by simpa using ho5); have HB5 := Aside0.mk hb5; have HG5 := Aside0.mk hg5; clear ho5 hb5 hg5 hat5)
          have HX5 := Aside0.mk (HX.out.grown (xs := ([] : List Ent)) (v := .slice none 0 0) (d := k105) (e := 105) (base := w.heap.size) (Kd.R_nil _ _ _ _ _) HG5.out HB5.out)
          clear x1 HX HG5 HB5 hd hk1 hk0
          obtain ⟨A5, c5, hv5⟩ := Kd.R_slice HO5.out
          subst hv5
          obtain ⟨p0, p1, p2, p3, p4, p5, p6, p7, p8, p9, p10⟩ := cells11 HX5.out.pg
          have x1 := (blk_cell HX5.out.box 1).trans rfl
          have f1 := blk_frozen HX5.out.box 1
          go_upto_region 15 with ((with_reducible refine gate_builtin (b := .append) (xs := #[.tmp 67, .tmp 71]) rfl ?_); at_builtin; refine Kd.R_append k105 (w0 := w) w.heap.size rfl (.tmp 67) (.tmp 71) 26 105 (.agg #[(.int .i64 0), (.int .u64 0), (.int .i64 0), (.int .u64 0), (.bool false), (.bool false), (.bool false), (.bool false), (.bool false), (.bool false), (.bool false), (.bool false)]) 40 rfl Try.underlying26 info105 rfl (by decide) (by omega) (.slice A5 s.L.length c5) s.L (⟨sp, p⟩ : Ent) [.int .i64 sp, .int .u64 p.f0, .int .i64 p.f1, .int .u64 p.f2, .bool p.f3.f0, .bool p.f3.f1, .bool p.f3.f2, .bool p.f3.f3, .bool p.f3.f4, .bool p.f3.f5, .bool p.f4, .bool p.f5] (okP D) (fun _ => False) rfl rfl ?aP (fun _ hk => hk.elim) ?aF ?aO ?aB ?aS ?aL ?_; (case aP => exact k105_mkM _ _ _ (⟨sp, p⟩ : Ent)); (case aB => exact HX5.out.lo); (case aF => exact (fun k hk => ⟨by have := blk_lt HX5.out.res; omega, by have := blk_lt HX5.out.res; omega, by have := blk_lt HX5.out.res; omega⟩)); (case aO => exact HO5.out); (case aS => exact HX5.out.lo.size); (case aL => omega); intro v7 w7 ho7 hb7 hg7 hat7; have HX7 := Aside0.mk (HX5.out.grown HO5.out hg7 hb7); have HO7 := Aside0.mk ho7; clear ho7 hb7 hg7 hat7 x1 f1; obtain ⟨A7, c7, hv7⟩ := Kd.R_slice HO7.out; rw [show (s.L ++ [(⟨sp, p⟩ : Ent)]).length = s.L.length + 1 from by simp] at hv7; subst hv7; have x1 := (blk_cell HX7.out.box 1).trans rfl; have f1 := blk_frozen HX7.out.box 1)
          rw [setCell_block (t := 29) (i := 1) (cs' := #[.int .i64 s.n, .slice A7 (s.L.length + 1) c7, .slice A2 s.by_.length c2, .int .i64 s.made]) HX7.out.box (.slice A7 (s.L.length + 1) c7) rfl]
          have HX3 := Aside0.mk (HX7.out.sbox (box' := #[.int .i64 s.n, .slice A7 (s.L.length + 1) c7, .slice A2 s.by_.length c2, .int .i64 s.made]))
          have HO3 := Aside0.mk (R_sbp HO7.out (.cells #[.int .i64 s.n, .slice A7 (s.L.length + 1) c7, .slice A2 s.by_.length c2, .int .i64 s.made] 29 (0, 0)) (.inl rfl))
          generalize ChangeMaps.setBlock w7 D (.cells #[.int .i64 s.n, .slice A7 (s.L.length + 1) c7, .slice A2 s.by_.length c2, .int .i64 s.made] 29 (0, 0)) = w3 at *
          clear x1 f1 HX7 HO7 HX5 HO5 p0 p1 p2 p3 p4 p5 p6 p7 p8 p9 p10
          obtain ⟨x0, x1, x2, x3⟩ := cells4 HX3.out.box
          obtain ⟨z0, z1, z2, z3⟩ := cells4 HX3.out.res
          have g0 := blk_frozen HX3.out.res 0
          have g1 := blk_frozen HX3.out.res 1
          have g2 := blk_frozen HX3.out.res 2
          have g3 := blk_frozen HX3.out.res 3
          go_wp2_with fail
          rw [set4 HX3.out.res]
          refine bodyPost_ret (results_ct rfl _ _ (D + 1 + 1) 29 _ (0, 0) _ rfl (sb_same HX3.out.res _) Try.underlying29 rfl (by kernel_rfl)) rfl ?_
          have hx4 := HX3.out.sres (res' := #[.int .i64 s.n, .slice A7 (s.L.length + 1) c7, .slice A2 s.by_.length c2, .int .i64 s.made])
          have ho4 := R_sbp HO3.out (.cells #[.int .i64 s.n, .slice A7 (s.L.length + 1) c7, .slice A2 s.by_.length c2, .int .i64 s.made] 29 (0, 0)) (.inr rfl)
          obtain ⟨h4, h5, -⟩ := Kd.R_reads' ho4
          rw [HR.out]
          refine ⟨A7, c7, A2, c2, ?_, fun W hW => ?_, hx4.lo⟩
          · show _ = Ending.returned (.tuple #[.agg #[.int .i64 s.n, .slice A7 (s.L ++ [(⟨sp, p⟩ : Ent)]).length c7, .slice A2 s.by_.length c2, .int .i64 s.made], .int .i64 0])
            rw [← h4]
            rfl
          · have hm := HM0.out.keep _ (hW.old HM0.out.lt hx4.lo)
            obtain ⟨ok', hr'⟩ := hW.own ho4
            exact ⟨(Kd.R_reads' hr').2.2, by show (s.L ++ [(⟨sp, p⟩ : Ent)]).length ≤ c7; rw [← h4]; exact h5, hm.b, hm.bc⟩
    · rw [if_pos (by simp [hm0])] at HR
      have hb : ((va : Int) % (M : Int) != 0) = true := by
        have : ¬ (va : Int) % (M : Int) = 0 := by omega
        simp [this]
      clear hm0
      obtain ⟨x0, x1, x2, x3⟩ := cells4 HX3.out.box
      obtain ⟨z0, z1, z2, z3⟩ := cells4 HX3.out.res
      have g0 := blk_frozen HX3.out.res 0
      have g1 := blk_frozen HX3.out.res 1
      have g2 := blk_frozen HX3.out.res 2
      have g3 := blk_frozen HX3.out.res 3
      go_wp2_with fail
      rw [set4 HX3.out.res]
      refine bodyPost_ret (results_ct rfl _ _ (D + 1 + 1) 29 _ (0, 0) _ rfl (sb_same HX3.out.res _) Try.underlying29 rfl (by kernel_rfl)) rfl ?_
      have hx4 := HX3.out.sres (res' := #[.int .i64 s.n, .slice A1 s.L.length c1, .slice A2 s.by_.length c2, .int .i64 s.made])
      rw [HR.out]
      exact ⟨A1, c1, A2, c2, rfl, fun W hW => HM0.out.keep _ (hW.old HM0.out.lt hx4.lo), hx4.lo⟩
end
end Go.Proofs.Ytalmemcidbmdgaa.PM


/- The document's model of spaces (layer 16): the boxes of changes, news, access; is. -/
set_option linter.unusedVariables false
set_option linter.unusedSimpArgs false
namespace Go.Proofs.Ytalmemcidbmdgaa.PM
open Go.RowKit Go.Proofs.YtalmemcidbmdgaaW.PrintWords Go.Proofs.YtalmemcidbmdgaaW.PrintLast Go.Proofs.YtalmemcidbmdgaaW.PrintMore Go.Proofs.Ytalmemcidbmdgaa.PageG
attribute [local go_sem] max2_int min2_int max_two min_two max_three min_three max_four min_four   -- for this text's walks alone
theorem is_r (n : Int) (l : List Ent) (bs : List Bt) (m sp : Int) : lookasideref16_is.f n l bs m sp = some (isAll n [sp]) := by
  unfold lookasideref16_is.f isAll
  by_cases h : sp ≥ 0
  · rw [if_pos h]
    simp [h]
  · rw [if_neg h]
    simp
    omega
/-- What the document's operations hand back: the model and the reply. -/
def DocR (X : Nat → Prop) (w : World) (r : (Int × Int × Int) × MS) (e : Ending) (w' : World) : Prop := ∃ A1 c1 A2 c2, e = .returned (.tuple #[.agg #[.int .i64 r.2.n, .slice A1 r.2.L.length c1, .slice A2 r.2.by_.length c2, .int .i64 r.2.made], .agg #[.int .i64 r.1.1, .int .i64 r.1.2.1, .int .u8 r.1.2.2]]) ∧ (∀ W, KeepsD X w w' W → DocM W A1 c1 A2 c2 r.2) ∧ Below w.heap.size w w'
theorem results_cc {P : Program} {fn : Func} {p p' : Tmp} {ty ty' : TypeId} (h : fn.results = #[.cell p ty, .cell p' ty']) (tmps : Array Value) (w : World) (g g' : Nat) (t t' : TypeId) (cs cs' : Array Value) (fr fr' : Nat × Nat) (d d' : TypeDesc)
    (hp : tmps.getD p undef = .pointer (some ⟨g, 0, none⟩)) (hg : w.heap[g]? = some (.cells cs t fr))
    (hu : P.underlying ty = some d) (hd : (match d with | .struct _ | .array _ _ => true | _ => false) = true) (hi : (P.info? ty).map (·.size) = some cs.size)
    (hp' : tmps.getD p' undef = .pointer (some ⟨g', 0, none⟩)) (hg' : w.heap[g']? = some (.cells cs' t' fr'))
    (hu' : P.underlying ty' = some d') (hd' : (match d' with | .struct _ | .array _ _ => true | _ => false) = true) (hi' : (P.info? ty').map (·.size) = some cs'.size) :
    (results fn tmps).run P w = .ok (.tuple #[.agg cs, .agg cs']) w := by
  have h1 : tmps[p]?.getD undef = .pointer (some ⟨g, 0, none⟩) := by simpa using hp
  have h2 : tmps[p']?.getD undef = .pointer (some ⟨g', 0, none⟩) := by simpa using hp'
  simp [results, h, h1, h2, asAddr, run_loadVar_row w g t ty cs fr d hg hu hd hi, run_loadVar_row w g' t' ty' cs' fr' d' hg' hu' hd' hi']
/-- A walk with a box, an operation, a result and a reply. -/
structure Bo (w W : World) (D : Nat) (box op res rep : Array Value) : Prop where
  box : W.heap[D]? = some (.cells box 29 (0, 0))
  op : W.heap[D + 1]? = some (.cells op 36 (0, 0))
  res : W.heap[D + 1 + 1]? = some (.cells res 29 (0, 0))
  rep : W.heap[D + 1 + 1 + 1]? = some (.cells rep 42 (0, 0))
  lo : Below w.heap.size w W
  hD : w.heap.size = D
theorem Bo.below {w W W' : World} {D : Nat} {box op res rep : Array Value} (h : Bo w W D box op res rep) (hb : Below W.heap.size W W') : Bo w W' D box op res rep :=
  ⟨blk_below h.box hb, blk_below h.op hb, blk_below h.res hb, blk_below h.rep hb, h.lo.trans (hb.mono h.lo.size), h.hD⟩
theorem oboxes {w : World} {D : Nat} (hD : w.heap.size = D) (box op res rep : Array Value) : Bo w ((((w.alloc (.cells box 29)).alloc (.cells op 36)).alloc (.cells res 29)).alloc (.cells rep 42)) D box op res rep := by
  have h1 := blk_alloc (blk_alloc (blk_alloc (blk_new w (.cells box 29)) (.cells op 36)) (.cells res 29)) (.cells rep 42)
  have h2 := blk_alloc (blk_alloc (blk_new (w.alloc (.cells box 29)) (.cells op 36)) (.cells res 29)) (.cells rep 42)
  have h3 := blk_alloc (blk_new ((w.alloc (.cells box 29)).alloc (.cells op 36)) (.cells res 29)) (.cells rep 42)
  have h4 := blk_new (((w.alloc (.cells box 29)).alloc (.cells op 36)).alloc (.cells res 29)) (.cells rep 42)
  rw [World.size_alloc] at h2
  rw [World.size_alloc, World.size_alloc] at h3
  rw [World.size_alloc, World.size_alloc, World.size_alloc] at h4
  rw [hD] at h1 h2 h3 h4
  exact ⟨h1, h2, h3, h4, ((((Below.refl _ w).alloc (Nat.le_refl _) _).alloc (by simp) _).alloc (by simp; omega) _).alloc (by simp; omega) _, hD⟩
theorem Bo.sres {w W : World} {D : Nat} {box op res res' rep : Array Value} (h : Bo w W D box op res rep) : Bo w (ChangeMaps.setBlock W (D + 1 + 1) (.cells res' 29 (0, 0))) D box op res' rep :=
  ⟨(sb_other _ (by omega)).trans h.box, (sb_other _ (by omega)).trans h.op, sb_same h.res _, (sb_other _ (by omega)).trans h.rep, below_sb h.lo (by rw [h.hD]; omega) _, h.hD⟩
theorem Bo.srep {w W : World} {D : Nat} {box op res rep rep' : Array Value} (h : Bo w W D box op res rep) : Bo w (ChangeMaps.setBlock W (D + 1 + 1 + 1) (.cells rep' 42 (0, 0))) D box op res rep' :=
  ⟨(sb_other _ (by omega)).trans h.box, (sb_other _ (by omega)).trans h.op, (sb_other _ (by omega)).trans h.res, sb_same h.rep _, below_sb h.lo (by rw [h.hD]; omega) _, h.hD⟩
end Go.Proofs.Ytalmemcidbmdgaa.PM


/- The document's model of spaces (layer 16): changes: the walk. -/
set_option linter.unusedVariables false
set_option linter.unusedSimpArgs false
namespace Go.Proofs.Ytalmemcidbmdgaa.PM
open Go.RowKit Go.Proofs.YtalmemcidbmdgaaW.PrintWords Go.Proofs.YtalmemcidbmdgaaW.PrintLast Go.Proofs.YtalmemcidbmdgaaW.PrintMore Go.Proofs.Ytalmemcidbmdgaa.PageG
attribute [local go_sem] max2_int min2_int max_two min_two max_three min_three max_four min_four   -- for this text's walks alone
theorem KeepsD.thru {X : Nat → Prop} {w w3 w4 wf W : World} (h : KeepsD X w wf W) (hw : w.heap.size ≤ w3.heap.size) (hs : w4.heap.size ≤ wf.heap.size) (hne : ∀ k, X k ∨ w3.heap.size ≤ k → wf.heap[k]? = w4.heap[k]?) : KeepsD X w3 w4 W :=
  fun k hk => (h k (hk.imp id (fun hk => ⟨Nat.le_trans hw hk.1, Nat.lt_of_lt_of_le hk.2 hs⟩))).trans (hne k (hk.imp id (·.1)))
/-- changes, as the document tells it. -/
def changeD (s : MS) (o : OpS) : (Int × Int × Int) × MS :=
  if isAll s.n [o.sp] = true ∧ ¬ (o.kind = 3 ∧ o.at_.f4 = true) then
    (match find s.L o.sp o.va.toNat with
     | none => ((10, 0, 0), s)
     | some i => ((0, 0, 0), if o.kind = 2 then unmapS s i else if o.kind = 3 then protS s o.at_ i else clearS s i))
  else ((1, 0, 0), s)
section
variable {X : Nat → Prop} {w w' : World} {A1 A2 : Option Addr} {c1 c2 : Nat} {s : MS}
set_option maxHeartbeats 8000000 in
set_option maxRecDepth 100000 in
theorem dchanges_calls (hh : DocX X w A1 c1 A2 c2 s) (hf : s.L.length ≤ 100000) (hfb : s.by_.length ≤ 100000) (hok : ∀ x ∈ s.L, OkE x) (o : OpS) (ho : OkO o) :
    Calls Try.prog 33 #[.agg #[.int .i64 s.n, .slice A1 s.L.length c1, .slice A2 s.by_.length c2, .int .i64 s.made], .agg #[.int .i64 o.kind, .int .i64 o.sp, .int .i64 o.ak, .bool o.ap, .int .u64 o.av, .int .u8 o.byte, .int .u64 o.va, .int .i64 o.size, .bool o.at_.f0, .bool o.at_.f1, .bool o.at_.f2, .bool o.at_.f3, .bool o.at_.f4, .bool o.at_.f5, .int .i64 o.other, .int .u64 o.too]] w (DocR X w (changeD s o)) := by
  have HM := Aside0.mk hh.m
  have HM0 := Aside0.mk hh
  have HOK := Aside0.mk hok
  obtain ⟨va, hvd⟩ : ∃ va : Nat, o.va.toNat = va := ⟨_, rfl⟩
  have hva : va < 2 ^ 64 := by have := ho.va; omega
  have HV := Aside0.mk (show o.va = (va : Int) by have := ho.va; omega)
  have hr : changeD s o = changeD s o := rfl
  conv at hr => rhs; unfold changeD; rw [hvd]
  have HR := Aside0.mk hr
  clear hr
  have HIS := Aside0.mk (is_r s.n s.L s.by_ s.made o.sp)
  have HAT := Aside0.mk (at_r o.sp va hva s.n s.made s.L s.by_ hf hok)
  clear hh hok ho hvd
  generalize changeD s o = res at *
  generalize hia : isAll s.n [o.sp] = ia at *
  clear hia
  obtain ⟨D, hD⟩ : ∃ D, w.heap.size = D := ⟨_, rfl⟩
  go_enter Try.func33, Try.ntmps33
  go_upto_region 1 with fail
  have hx := oboxes hD #[.int .i64 s.n, .slice A1 s.L.length c1, .slice A2 s.by_.length c2, .int .i64 s.made] #[.int .i64 o.kind, .int .i64 o.sp, .int .i64 o.ak, .bool o.ap, .int .u64 o.av, .int .u8 o.byte, .int .u64 o.va, .int .i64 o.size, .bool o.at_.f0, .bool o.at_.f1, .bool o.at_.f2, .bool o.at_.f3, .bool o.at_.f4, .bool o.at_.f5, .int .i64 o.other, .int .u64 o.too] #[.int .i64 0, .slice none 0 0, .slice none 0 0, .int .i64 0] #[.int .i64 0, .int .i64 0, .int .u8 0]
  have HX := Aside0.mk hx
  generalize (((w.alloc (.cells #[.int .i64 s.n, .slice A1 s.L.length c1, .slice A2 s.by_.length c2, .int .i64 s.made] 29)).alloc (.cells #[.int .i64 o.kind, .int .i64 o.sp, .int .i64 o.ak, .bool o.ap, .int .u64 o.av, .int .u8 o.byte, .int .u64 o.va, .int .i64 o.size, .bool o.at_.f0, .bool o.at_.f1, .bool o.at_.f2, .bool o.at_.f3, .bool o.at_.f4, .bool o.at_.f5, .int .i64 o.other, .int .u64 o.too] 36)).alloc (.cells #[.int .i64 0, .slice none 0 0, .slice none 0 0, .int .i64 0] 29)).alloc (.cells #[.int .i64 0, .int .i64 0, .int .u8 0] 42) = w1 at *
  clear hx hD
  obtain ⟨x0, x1, x2, x3⟩ := cells4 HX.out.box
  obtain ⟨-, o1, -⟩ := cells16 HX.out.op
  go_wp2_with fail
  refine (lookasideref16_is.calls s.n A1 c1 s.L A2 c2 s.by_ s.made o.sp ia w1 (HM.out.below HX.out.lo).l (HM.out.below HX.out.lo).lc (HM.out.below HX.out.lo).b (HM.out.below HX.out.lo).bc HIS.out).mono ?_
  rintro e w2 ⟨rfl, hb⟩
  have HX2 := Aside0.mk (HX.out.below hb)
  clear hb HX x0 x1 x2 x3 o1
  obtain ⟨o0, o1, -, -, -, -, o6, -, -, -, -, -, o12, -, -, -⟩ := cells16 HX2.out.op
  cases ia with
  | false =>
    rw [if_neg (by simp)] at HR
    obtain ⟨x0, x1, x2, x3⟩ := cells4 HX2.out.box
    obtain ⟨z0, z1, z2, z3⟩ := cells4 HX2.out.res
    obtain ⟨r0, r1, r2⟩ := cells3 HX2.out.rep
    have g0 := blk_frozen HX2.out.res 0
    have g1 := blk_frozen HX2.out.res 1
    have g2 := blk_frozen HX2.out.res 2
    have g3 := blk_frozen HX2.out.res 3
    have y0 := blk_frozen HX2.out.rep 0
    have y1 := blk_frozen HX2.out.rep 1
    have y2 := blk_frozen HX2.out.rep 2
    go_wp2_with fail
    rw [set4 HX2.out.res, set3 HX2.out.sres.rep]
    have hx4 := (HX2.out.sres (res' := #[.int .i64 s.n, .slice A1 s.L.length c1, .slice A2 s.by_.length c2, .int .i64 s.made])).srep (rep' := #[.int .i64 1, .int .i64 0, .int .u8 0])
    refine bodyPost_ret (results_cc rfl _ _ (D + 1 + 1) (D + 1 + 1 + 1) 29 42 _ _ (0, 0) (0, 0) _ _ rfl hx4.res Try.underlying29 rfl (by kernel_rfl) rfl hx4.rep Try.underlying42 rfl (by kernel_rfl)) rfl ?_
    rw [HR.out]
    exact ⟨A1, c1, A2, c2, rfl, fun W hW => HM0.out.keep _ (hW.old HM0.out.lt hx4.lo), hx4.lo⟩
  | true =>
    by_cases h3 : o.kind = 3 ∧ o.at_.f4 = true
    · rw [if_neg (by rintro ⟨-, hc⟩; exact hc h3)] at HR
      obtain ⟨hk3, ha4⟩ := h3
      rw [hk3] at o0
      rw [ha4] at o12
      clear hk3 ha4
      obtain ⟨x0, x1, x2, x3⟩ := cells4 HX2.out.box
      obtain ⟨z0, z1, z2, z3⟩ := cells4 HX2.out.res
      obtain ⟨r0, r1, r2⟩ := cells3 HX2.out.rep
      have g0 := blk_frozen HX2.out.res 0
      have g1 := blk_frozen HX2.out.res 1
      have g2 := blk_frozen HX2.out.res 2
      have g3 := blk_frozen HX2.out.res 3
      have y0 := blk_frozen HX2.out.rep 0
      have y1 := blk_frozen HX2.out.rep 1
      have y2 := blk_frozen HX2.out.rep 2
      go_wp2_with fail
      rw [set4 HX2.out.res, set3 HX2.out.sres.rep]
      have hx4 := (HX2.out.sres (res' := #[.int .i64 s.n, .slice A1 s.L.length c1, .slice A2 s.by_.length c2, .int .i64 s.made])).srep (rep' := #[.int .i64 1, .int .i64 0, .int .u8 0])
      refine bodyPost_ret (results_cc rfl _ _ (D + 1 + 1) (D + 1 + 1 + 1) 29 42 _ _ (0, 0) (0, 0) _ _ rfl hx4.res Try.underlying29 rfl (by kernel_rfl) rfl hx4.rep Try.underlying42 rfl (by kernel_rfl)) rfl ?_
      rw [HR.out]
      exact ⟨A1, c1, A2, c2, rfl, fun W hW => HM0.out.keep _ (hW.old HM0.out.lt hx4.lo), hx4.lo⟩
    · rw [if_pos ⟨rfl, h3⟩] at HR
      have hc : (o.kind = 3 ∧ o.at_.f4 = false) ∨ o.kind = 2 ∨ (o.kind ≠ 2 ∧ o.kind ≠ 3) := by
        by_cases h : o.kind = 3
        · left
          refine ⟨h, ?_⟩
          cases hf4 : o.at_.f4 with
          | false => rfl
          | true => exact absurd ⟨h, hf4⟩ h3
        · by_cases h' : o.kind = 2
          · exact .inr (.inl h')
          · exact .inr (.inr ⟨h', h⟩)
      clear h3
      rcases hc with ⟨hk, ha⟩ | hk | ⟨hk, hk'⟩
      · have HK := Aside0.mk hk
        rw [hk] at o0
        rw [ha] at o12
        clear hk ha
        obtain ⟨x0, x1, x2, x3⟩ := cells4 HX2.out.box
        rw [HV.out] at o6
        go_wp2_with fail
        refine (lookasideref16_At.calls (s.L.length + 1) s.n A1 c1 s.L A2 c2 s.by_ s.made o.sp (va : Int) (atI s.L o.sp va) w2 (HM.out.below HX2.out.lo).l (HM.out.below HX2.out.lo).lc (HM.out.below HX2.out.lo).b (HM.out.below HX2.out.lo).bc HAT.out).mono ?_
        rintro e w3 ⟨rfl, hb⟩
        have HX3 := Aside0.mk (HX2.out.below hb)
        clear hb HX2 x0 x1 x2 x3 o0 o1 o6 o12
        cases hfd : find s.L o.sp va with
        | none =>
          have hai : atI s.L o.sp va = -1 := by unfold atI; rw [hfd]
          rw [hai]
          rw [hfd] at HR
          clear hai hfd
          obtain ⟨x0, x1, x2, x3⟩ := cells4 HX3.out.box
          obtain ⟨z0, z1, z2, z3⟩ := cells4 HX3.out.res
          obtain ⟨r0, r1, r2⟩ := cells3 HX3.out.rep
          have g0 := blk_frozen HX3.out.res 0
          have g1 := blk_frozen HX3.out.res 1
          have g2 := blk_frozen HX3.out.res 2
          have g3 := blk_frozen HX3.out.res 3
          have y0 := blk_frozen HX3.out.rep 0
          have y1 := blk_frozen HX3.out.rep 1
          have y2 := blk_frozen HX3.out.rep 2
          go_wp2_with fail
          rw [set4 HX3.out.res, set3 HX3.out.sres.rep]
          have hx4 := (HX3.out.sres (res' := #[.int .i64 s.n, .slice A1 s.L.length c1, .slice A2 s.by_.length c2, .int .i64 s.made])).srep (rep' := #[.int .i64 10, .int .i64 0, .int .u8 0])
          refine bodyPost_ret (results_cc rfl _ _ (D + 1 + 1) (D + 1 + 1 + 1) 29 42 _ _ (0, 0) (0, 0) _ _ rfl hx4.res Try.underlying29 rfl (by kernel_rfl) rfl hx4.rep Try.underlying42 rfl (by kernel_rfl)) rfl ?_
          rw [HR.out]
          exact ⟨A1, c1, A2, c2, rfl, fun W hW => HM0.out.keep _ (hW.old HM0.out.lt hx4.lo), hx4.lo⟩
        | some i =>
          obtain ⟨x, hx, hh⟩ := find_some hfd
          have hil := find_lt hfd
          have hai : atI s.L o.sp va = (i : Int) := by unfold atI; rw [hfd]
          rw [hai]
          rw [hfd] at HR
          have HXI := Aside0.mk hx
          have HXO := Aside0.mk (HOK.out x (List.mem_of_getElem? hx))
          have hi0 : ¬ ((i : Int) < 0) := by omega
          have hdi : decide ((i : Int) < 0) = false := decide_eq_false hi0
          clear hai hfd hx hh
          have hr2 : res = ((0, 0, 0), { s with L := s.L.set i ⟨x.f0, { x.f1 with f3 := o.at_ }⟩ }) := by
            have := HR.out
            rw [this]
            show ((0, 0, 0), if o.kind = 2 then unmapS s i else if o.kind = 3 then protS s o.at_ i else clearS s i) = _
            rw [if_neg (by have := HK.out; omega), if_pos HK.out]
            unfold protS
            rw [HXI.out]
          have HR2 := Aside0.mk hr2
          clear hr2
          have HRD := Aside0.mk (show rd_T105 s.L (i : Int) = x by have := HXI.out; simp [rd_T105, List.getD_eq_getElem?_getD, this])
          have hi1 : (i : Int) < (s.L.length : Int) := by omega
          have hi2 : (0 : Int) ≤ (i : Int) := by omega
          obtain ⟨ad, hA, q0, q1, q2, q3, q4, q5, q6, q7, q8, q9, q10, q11⟩ := at_T105 (HM.out.below HX3.out.lo).l (i : Int) hi2 hi1
          subst hA
          rw [HRD.out, Int.toNat_natCast] at q1 q2 q3 q4 q5 q6 q7 q8 q9 q10 q11
          clear q0
          obtain ⟨x0, x1, x2, x3⟩ := cells4 HX3.out.box
          obtain ⟨o0, -, -, -, -, -, -, -, o8, o9, o10, o11, o12, o13, -, -⟩ := cells16 HX3.out.op
          rw [HK.out] at o0
          have n1 : D + 1 < w3.heap.size := blk_lt HX3.out.op
          have n2 : D + 1 ≠ w3.heap.size := Nat.ne_of_lt n1
          have n3 : D < w3.heap.size := blk_lt HX3.out.box
          have n4 : D ≠ w3.heap.size := Nat.ne_of_lt n3
          go_upto_region 14 with fail
          clear n1 n2 n3 n4
          have hal := (Below.refl _ w3).alloc (Nat.le_refl _) (.cells #[.int .u64 x.f1.f0, .int .i64 x.f1.f1, .int .u64 x.f1.f2, .bool o.at_.f0, .bool o.at_.f1, .bool o.at_.f2, .bool o.at_.f3, .bool o.at_.f4, .bool o.at_.f5, .bool x.f1.f4, .bool x.f1.f5] 50)
          have hn := blk_new w3 (.cells #[.int .u64 x.f1.f0, .int .i64 x.f1.f1, .int .u64 x.f1.f2, .bool o.at_.f0, .bool o.at_.f1, .bool o.at_.f2, .bool o.at_.f3, .bool o.at_.f4, .bool o.at_.f5, .bool x.f1.f4, .bool x.f1.f5] 50)
          have HX4 := Aside0.mk (HX3.out.below hal)
          generalize w3.alloc (.cells #[.int .u64 x.f1.f0, .int .i64 x.f1.f1, .int .u64 x.f1.f2, .bool o.at_.f0, .bool o.at_.f1, .bool o.at_.f2, .bool o.at_.f3, .bool o.at_.f4, .bool o.at_.f5, .bool x.f1.f4, .bool x.f1.f5] 50) = w4 at *
          generalize w3.heap.size = G at *
          obtain ⟨p0, p1, p2, p3, p4, p5, p6, p7, p8, p9, p10⟩ := cells11 hn
          clear hal hn x0 x1 x2 x3 HX3 q1 q2 q3 q4 q5 q6 q7 q8 q9 q10 q11
          obtain ⟨x0, x1, x2, x3⟩ := cells4 HX4.out.box
          go_wp2_with fail
          refine (dwith_calls (HM0.out.below HX4.out.lo) hf HXI.out { x.f1 with f3 := o.at_ }).mono ?_
          rintro e w5 ⟨A5, c5, A6, c6, rfl, hm5, hb⟩
          have HX5 := Aside0.mk (HX4.out.below hb)
          have HM5 := Aside0.mk hm5
          have HLE := Aside0.mk HX4.out.lo.size
          have HLT := Aside0.mk (blk_lt HX4.out.rep)
          clear hb hm5 HX4 x0 x1 x2 x3 o0 o8 o9 o10 o11 o12 o13 p0 p1 p2 p3 p4 p5 p6 p7 p8 p9 p10
          obtain ⟨z0, z1, z2, z3⟩ := cells4 HX5.out.res
          obtain ⟨r0, r1, r2⟩ := cells3 HX5.out.rep
          have g0 := blk_frozen HX5.out.res 0
          have g1 := blk_frozen HX5.out.res 1
          have g2 := blk_frozen HX5.out.res 2
          have g3 := blk_frozen HX5.out.res 3
          have y0 := blk_frozen HX5.out.rep 0
          have y1 := blk_frozen HX5.out.rep 1
          have y2 := blk_frozen HX5.out.rep 2
          go_wp2_with fail
          rw [set4 HX5.out.res, set3 HX5.out.sres.rep]
          have hx6 := (HX5.out.sres (res' := #[.int .i64 s.n, .slice A5 s.L.length c5, .slice A6 s.by_.length c6, .int .i64 s.made])).srep (rep' := #[.int .i64 0, .int .i64 0, .int .u8 0])
          refine bodyPost_ret (results_cc rfl _ _ (D + 1 + 1) (D + 1 + 1 + 1) 29 42 _ _ (0, 0) (0, 0) _ _ rfl hx6.res Try.underlying29 rfl (by kernel_rfl) rfl hx6.rep Try.underlying42 rfl (by kernel_rfl)) rfl ?_
          rw [HR2.out]
          refine ⟨A5, c5, A6, c6, ?_, fun W hW => HM5.out W (hW.thru HLE.out (by simp [ChangeMaps.setBlock]) (fun k hk => ?_)), hx6.lo⟩
          · show _ = Ending.returned (.tuple #[.agg #[.int .i64 s.n, .slice A5 (s.L.set i ⟨x.f0, { x.f1 with f3 := o.at_ }⟩).length c5, .slice A6 s.by_.length c6, .int .i64 s.made], .agg #[.int .i64 0, .int .i64 0, .int .u8 0]])
            rw [List.length_set]
          · have hl := HLT.out
            have hs := HM0.out.lt k
            have hd := HX5.out.hD
            exact (sb_other _ (by rcases hk with hk | hk; (· have := hs hk; omega); (· omega))).trans (sb_other _ (by rcases hk with hk | hk; (· have := hs hk; omega); (· omega)))
      · have HK := Aside0.mk hk
        rw [hk] at o0
        clear hk
        obtain ⟨x0, x1, x2, x3⟩ := cells4 HX2.out.box
        rw [HV.out] at o6
        go_wp2_with fail
        refine (lookasideref16_At.calls (s.L.length + 1) s.n A1 c1 s.L A2 c2 s.by_ s.made o.sp (va : Int) (atI s.L o.sp va) w2 (HM.out.below HX2.out.lo).l (HM.out.below HX2.out.lo).lc (HM.out.below HX2.out.lo).b (HM.out.below HX2.out.lo).bc HAT.out).mono ?_
        rintro e w3 ⟨rfl, hb⟩
        have HX3 := Aside0.mk (HX2.out.below hb)
        clear hb HX2 x0 x1 x2 x3 o0 o1 o6 o12
        cases hfd : find s.L o.sp va with
        | none =>
          have hai : atI s.L o.sp va = -1 := by unfold atI; rw [hfd]
          rw [hai]
          rw [hfd] at HR
          clear hai hfd
          obtain ⟨x0, x1, x2, x3⟩ := cells4 HX3.out.box
          obtain ⟨z0, z1, z2, z3⟩ := cells4 HX3.out.res
          obtain ⟨r0, r1, r2⟩ := cells3 HX3.out.rep
          have g0 := blk_frozen HX3.out.res 0
          have g1 := blk_frozen HX3.out.res 1
          have g2 := blk_frozen HX3.out.res 2
          have g3 := blk_frozen HX3.out.res 3
          have y0 := blk_frozen HX3.out.rep 0
          have y1 := blk_frozen HX3.out.rep 1
          have y2 := blk_frozen HX3.out.rep 2
          go_wp2_with fail
          rw [set4 HX3.out.res, set3 HX3.out.sres.rep]
          have hx4 := (HX3.out.sres (res' := #[.int .i64 s.n, .slice A1 s.L.length c1, .slice A2 s.by_.length c2, .int .i64 s.made])).srep (rep' := #[.int .i64 10, .int .i64 0, .int .u8 0])
          refine bodyPost_ret (results_cc rfl _ _ (D + 1 + 1) (D + 1 + 1 + 1) 29 42 _ _ (0, 0) (0, 0) _ _ rfl hx4.res Try.underlying29 rfl (by kernel_rfl) rfl hx4.rep Try.underlying42 rfl (by kernel_rfl)) rfl ?_
          rw [HR.out]
          exact ⟨A1, c1, A2, c2, rfl, fun W hW => HM0.out.keep _ (hW.old HM0.out.lt hx4.lo), hx4.lo⟩
        | some i =>
          obtain ⟨x, hx, hh⟩ := find_some hfd
          have hil := find_lt hfd
          have hai : atI s.L o.sp va = (i : Int) := by unfold atI; rw [hfd]
          rw [hai]
          rw [hfd] at HR
          have HXI := Aside0.mk hx
          have HXO := Aside0.mk (HOK.out x (List.mem_of_getElem? hx))
          have hi0 : ¬ ((i : Int) < 0) := by omega
          have hdi : decide ((i : Int) < 0) = false := decide_eq_false hi0
          clear hai hfd hx hh
          have hr2 : res = ((0, 0, 0), dropS s i x) := by
            have := HR.out
            rw [this]
            show ((0, 0, 0), if o.kind = 2 then unmapS s i else _) = _
            rw [if_pos HK.out]
            unfold unmapS
            rw [HXI.out]
          have HR2 := Aside0.mk hr2
          clear hr2
          obtain ⟨x0, x1, x2, x3⟩ := cells4 HX3.out.box
          obtain ⟨o0, -⟩ := cells16 HX3.out.op
          rw [HK.out] at o0
          go_wp2_with fail
          refine (ddrop_calls (HM0.out.below HX3.out.lo) hf hfb HXI.out ⟨HXO.out.pa0, HXO.out.pa1⟩).mono ?_
          rintro e w4 ⟨A5, c5, A6, c6, rfl, hm4, hb⟩
          have HX4 := Aside0.mk (HX3.out.below hb)
          have HM4 := Aside0.mk hm4
          have HLE := Aside0.mk HX3.out.lo.size
          have HLT := Aside0.mk (blk_lt HX3.out.rep)
          clear hb hm4 HX3 x0 x1 x2 x3 o0
          obtain ⟨z0, z1, z2, z3⟩ := cells4 HX4.out.res
          obtain ⟨r0, r1, r2⟩ := cells3 HX4.out.rep
          have g0 := blk_frozen HX4.out.res 0
          have g1 := blk_frozen HX4.out.res 1
          have g2 := blk_frozen HX4.out.res 2
          have g3 := blk_frozen HX4.out.res 3
          have y0 := blk_frozen HX4.out.rep 0
          have y1 := blk_frozen HX4.out.rep 1
          have y2 := blk_frozen HX4.out.rep 2
          go_wp2_with fail
          rw [set4 HX4.out.res, set3 HX4.out.sres.rep]
          have hx5 := (HX4.out.sres (res' := #[.int .i64 (dropS s i x).n, .slice A5 (dropS s i x).L.length c5, .slice A6 (dropS s i x).by_.length c6, .int .i64 (dropS s i x).made])).srep (rep' := #[.int .i64 0, .int .i64 0, .int .u8 0])
          refine bodyPost_ret (results_cc rfl _ _ (D + 1 + 1) (D + 1 + 1 + 1) 29 42 _ _ (0, 0) (0, 0) _ _ rfl hx5.res Try.underlying29 rfl (by kernel_rfl) rfl hx5.rep Try.underlying42 rfl (by kernel_rfl)) rfl ?_
          rw [HR2.out]
          refine ⟨A5, c5, A6, c6, rfl, fun W hW => HM4.out W (hW.thru HLE.out (by simp [ChangeMaps.setBlock]) (fun k hk => ?_)), hx5.lo⟩
          have hl := HLT.out
          have hs := HM0.out.lt k
          have hd := HX4.out.hD
          exact (sb_other _ (by rcases hk with hk | hk; (· have := hs hk; omega); (· omega))).trans (sb_other _ (by rcases hk with hk | hk; (· have := hs hk; omega); (· omega)))
      · have HK := Aside0.mk (And.intro hk hk')
        have hb3 : (o.kind == 3) = false := beq_eq_false_iff_ne.2 hk'
        have hb2 : (o.kind == 2) = false := beq_eq_false_iff_ne.2 hk
        clear hk hk'
        obtain ⟨x0, x1, x2, x3⟩ := cells4 HX2.out.box
        rw [HV.out] at o6
        go_wp2_with fail
        refine (lookasideref16_At.calls (s.L.length + 1) s.n A1 c1 s.L A2 c2 s.by_ s.made o.sp (va : Int) (atI s.L o.sp va) w2 (HM.out.below HX2.out.lo).l (HM.out.below HX2.out.lo).lc (HM.out.below HX2.out.lo).b (HM.out.below HX2.out.lo).bc HAT.out).mono ?_
        rintro e w3 ⟨rfl, hb⟩
        have HX3 := Aside0.mk (HX2.out.below hb)
        clear hb HX2 x0 x1 x2 x3 o0 o1 o6 o12
        cases hfd : find s.L o.sp va with
        | none =>
          have hai : atI s.L o.sp va = -1 := by unfold atI; rw [hfd]
          rw [hai]
          rw [hfd] at HR
          clear hai hfd
          obtain ⟨x0, x1, x2, x3⟩ := cells4 HX3.out.box
          obtain ⟨z0, z1, z2, z3⟩ := cells4 HX3.out.res
          obtain ⟨r0, r1, r2⟩ := cells3 HX3.out.rep
          have g0 := blk_frozen HX3.out.res 0
          have g1 := blk_frozen HX3.out.res 1
          have g2 := blk_frozen HX3.out.res 2
          have g3 := blk_frozen HX3.out.res 3
          have y0 := blk_frozen HX3.out.rep 0
          have y1 := blk_frozen HX3.out.rep 1
          have y2 := blk_frozen HX3.out.rep 2
          go_wp2_with fail
          rw [set4 HX3.out.res, set3 HX3.out.sres.rep]
          have hx4 := (HX3.out.sres (res' := #[.int .i64 s.n, .slice A1 s.L.length c1, .slice A2 s.by_.length c2, .int .i64 s.made])).srep (rep' := #[.int .i64 10, .int .i64 0, .int .u8 0])
          refine bodyPost_ret (results_cc rfl _ _ (D + 1 + 1) (D + 1 + 1 + 1) 29 42 _ _ (0, 0) (0, 0) _ _ rfl hx4.res Try.underlying29 rfl (by kernel_rfl) rfl hx4.rep Try.underlying42 rfl (by kernel_rfl)) rfl ?_
          rw [HR.out]
          exact ⟨A1, c1, A2, c2, rfl, fun W hW => HM0.out.keep _ (hW.old HM0.out.lt hx4.lo), hx4.lo⟩
        | some i =>
          obtain ⟨x, hx, hh⟩ := find_some hfd
          have hil := find_lt hfd
          have hai : atI s.L o.sp va = (i : Int) := by unfold atI; rw [hfd]
          rw [hai]
          rw [hfd] at HR
          have HXI := Aside0.mk hx
          have HXO := Aside0.mk (HOK.out x (List.mem_of_getElem? hx))
          have hi0 : ¬ ((i : Int) < 0) := by omega
          have hdi : decide ((i : Int) < 0) = false := decide_eq_false hi0
          clear hai hfd hx hh
          have hr2 : res = ((0, 0, 0), { s with L := s.L.set i ⟨x.f0, { x.f1 with f4 := false, f5 := false }⟩ }) := by
            have := HR.out
            rw [this]
            show ((0, 0, 0), if o.kind = 2 then unmapS s i else if o.kind = 3 then protS s o.at_ i else clearS s i) = _
            rw [if_neg HK.out.1, if_neg HK.out.2]
            unfold clearS
            rw [HXI.out]
          have HR2 := Aside0.mk hr2
          clear hr2
          have HRD := Aside0.mk (show rd_T105 s.L (i : Int) = x by have := HXI.out; simp [rd_T105, List.getD_eq_getElem?_getD, this])
          have hi1 : (i : Int) < (s.L.length : Int) := by omega
          have hi2 : (0 : Int) ≤ (i : Int) := by omega
          obtain ⟨ad, hA, q0, q1, q2, q3, q4, q5, q6, q7, q8, q9, q10, q11⟩ := at_T105 (HM.out.below HX3.out.lo).l (i : Int) hi2 hi1
          subst hA
          rw [HRD.out, Int.toNat_natCast] at q1 q2 q3 q4 q5 q6 q7 q8 q9 q10 q11
          clear q0
          obtain ⟨x0, x1, x2, x3⟩ := cells4 HX3.out.box
          obtain ⟨o0, -, -, -, -, -, -, -, o8, o9, o10, o11, o12, o13, -, -⟩ := cells16 HX3.out.op
          have n1 : D + 1 < w3.heap.size := blk_lt HX3.out.op
          have n2 : D + 1 ≠ w3.heap.size := Nat.ne_of_lt n1
          have n3 : D < w3.heap.size := blk_lt HX3.out.box
          have n4 : D ≠ w3.heap.size := Nat.ne_of_lt n3
          go_upto_region 14 with fail
          clear n1 n2 n3 n4
          have hal := (Below.refl _ w3).alloc (Nat.le_refl _) (.cells #[.int .u64 x.f1.f0, .int .i64 x.f1.f1, .int .u64 x.f1.f2, .bool x.f1.f3.f0, .bool x.f1.f3.f1, .bool x.f1.f3.f2, .bool x.f1.f3.f3, .bool x.f1.f3.f4, .bool x.f1.f3.f5, .bool false, .bool false] 50)
          have hn := blk_new w3 (.cells #[.int .u64 x.f1.f0, .int .i64 x.f1.f1, .int .u64 x.f1.f2, .bool x.f1.f3.f0, .bool x.f1.f3.f1, .bool x.f1.f3.f2, .bool x.f1.f3.f3, .bool x.f1.f3.f4, .bool x.f1.f3.f5, .bool false, .bool false] 50)
          have HX4 := Aside0.mk (HX3.out.below hal)
          generalize w3.alloc (.cells #[.int .u64 x.f1.f0, .int .i64 x.f1.f1, .int .u64 x.f1.f2, .bool x.f1.f3.f0, .bool x.f1.f3.f1, .bool x.f1.f3.f2, .bool x.f1.f3.f3, .bool x.f1.f3.f4, .bool x.f1.f3.f5, .bool false, .bool false] 50) = w4 at *
          generalize w3.heap.size = G at *
          obtain ⟨p0, p1, p2, p3, p4, p5, p6, p7, p8, p9, p10⟩ := cells11 hn
          clear hal hn x0 x1 x2 x3 HX3 q1 q2 q3 q4 q5 q6 q7 q8 q9 q10 q11
          obtain ⟨x0, x1, x2, x3⟩ := cells4 HX4.out.box
          go_wp2_with fail
          refine (dwith_calls (HM0.out.below HX4.out.lo) hf HXI.out { x.f1 with f4 := false, f5 := false }).mono ?_
          rintro e w5 ⟨A5, c5, A6, c6, rfl, hm5, hb⟩
          have HX5 := Aside0.mk (HX4.out.below hb)
          have HM5 := Aside0.mk hm5
          have HLE := Aside0.mk HX4.out.lo.size
          have HLT := Aside0.mk (blk_lt HX4.out.rep)
          clear hb hm5 HX4 x0 x1 x2 x3 o0 o8 o9 o10 o11 o12 o13 p0 p1 p2 p3 p4 p5 p6 p7 p8 p9 p10
          obtain ⟨z0, z1, z2, z3⟩ := cells4 HX5.out.res
          obtain ⟨r0, r1, r2⟩ := cells3 HX5.out.rep
          have g0 := blk_frozen HX5.out.res 0
          have g1 := blk_frozen HX5.out.res 1
          have g2 := blk_frozen HX5.out.res 2
          have g3 := blk_frozen HX5.out.res 3
          have y0 := blk_frozen HX5.out.rep 0
          have y1 := blk_frozen HX5.out.rep 1
          have y2 := blk_frozen HX5.out.rep 2
          go_wp2_with fail
          rw [set4 HX5.out.res, set3 HX5.out.sres.rep]
          have hx6 := (HX5.out.sres (res' := #[.int .i64 s.n, .slice A5 s.L.length c5, .slice A6 s.by_.length c6, .int .i64 s.made])).srep (rep' := #[.int .i64 0, .int .i64 0, .int .u8 0])
          refine bodyPost_ret (results_cc rfl _ _ (D + 1 + 1) (D + 1 + 1 + 1) 29 42 _ _ (0, 0) (0, 0) _ _ rfl hx6.res Try.underlying29 rfl (by kernel_rfl) rfl hx6.rep Try.underlying42 rfl (by kernel_rfl)) rfl ?_
          rw [HR2.out]
          refine ⟨A5, c5, A6, c6, ?_, fun W hW => HM5.out W (hW.thru HLE.out (by simp [ChangeMaps.setBlock]) (fun k hk => ?_)), hx6.lo⟩
          · show _ = Ending.returned (.tuple #[.agg #[.int .i64 s.n, .slice A5 (s.L.set i ⟨x.f0, { x.f1 with f4 := false, f5 := false }⟩).length c5, .slice A6 s.by_.length c6, .int .i64 s.made], .agg #[.int .i64 0, .int .i64 0, .int .u8 0]])
            rw [List.length_set]
          · have hl := HLT.out
            have hs := HM0.out.lt k
            have hd := HX5.out.hD
            exact (sb_other _ (by rcases hk with hk | hk; (· have := hs hk; omega); (· omega))).trans (sb_other _ (by rcases hk with hk | hk; (· have := hs hk; omega); (· omega)))
end
end Go.Proofs.Ytalmemcidbmdgaa.PM



