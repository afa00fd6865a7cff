/- A pool of numbers (layer 14): the victim: its walk. -/
import Derived.Test.YtcbnmmkmgpbfiaaCtxV
namespace Go.Proofs.Ytcbnmmkmgpbfiaa.PP
open Go.RowKit Go.Proofs.Ytcbnmmkmgpbfiaa.PX Go.Proofs.YtcbnmmkmgpbfiaaW.PrintWords Go.Proofs.YtcbnmmkmgpbfiaaW.PrintLast Go.Proofs.YtcbnmmkmgpbfiaaW.PrintMore
attribute [local go_sem] max2_int min2_int max_two min_two max_three min_three max_four min_four   -- for this text's walks alone
set_option linter.unusedVariables false
set_option linter.unusedSimpArgs false
open Go.Shelf
attribute [local go_sem] Oper.semAt_some
set_option maxHeartbeats 8000000 in
set_option maxRecDepth 100000 in
theorem victim_calls {w : World} {base B bm : Nat} {vo : Value} {os : List Int} {f : Int → Option Int} {c : Nat} {hand rounds : Int} (h : PA w base B bm vo os f c hand rounds) (hl : os.length ≤ 10000) (hh : 1 ≤ hand ∧ hand ≤ 10000)
    (A : Option Addr) (cap : Nat) (avoid : List Int) (hC : (Kd.int .i64).C w A avoid.length avoid) (hcap : avoid.length ≤ cap) (hal : avoid.length ≤ 100000) :
    Calls Try.prog 37 #[.pointer (some ⟨B, 0, none⟩), .slice A avoid.length cap] w (VictimP os avoid hand w) := by
  have HP := Aside0.mk h
  have HC := Aside0.mk hC
  clear h hC
  refine (callsIn_wide (n := 5)).1 ?_
  have h1 : 1 ≤ 5 := by omega
  refine callsIn_of_wp_marks Try.func37 rfl trivial ?_ rfl
  simp only [Try.ntmps37, List.size_toArray, List.length_cons, List.length_nil, Nat.reduceAdd, Nat.reduceSub, Array.replicate_succ, Array.replicate_zero, List.push_toArray, List.append_toArray, List.nil_append, List.cons_append]
  gi_wp2_with (refine ⟨trivial, ?_⟩; gi_at_call 69; refine (round_in Fence.wide _ trivial rfl _ _).mono ?_; rintro e w' ⟨rfl, rfl⟩)
  have b0 := ((((((Boxed.new w 52 (.pointer (some ⟨B, 0, none⟩))).alloc (.cells #[.slice A avoid.length cap] 43)).alloc (.cells #[.int .i64 0] 3)).alloc (.cells #[.int .i64 0] 3)).alloc (.cells #[.int .i64 0] 54)).alloc (.cells #[.pointer (some ⟨B, 0, none⟩)] 52))
  have b1 := (((((Boxed.new (w.alloc (.cells #[.pointer (some ⟨B, 0, none⟩)] 52)) 43 (.slice A avoid.length cap)).alloc (.cells #[.int .i64 0] 3)).alloc (.cells #[.int .i64 0] 3)).alloc (.cells #[.int .i64 0] 54)).alloc (.cells #[.pointer (some ⟨B, 0, none⟩)] 52))
  have b2 := ((((Boxed.new ((w.alloc (.cells #[.pointer (some ⟨B, 0, none⟩)] 52)).alloc (.cells #[.slice A avoid.length cap] 43)) 3 (.int .i64 0)).alloc (.cells #[.int .i64 0] 3)).alloc (.cells #[.int .i64 0] 54)).alloc (.cells #[.pointer (some ⟨B, 0, none⟩)] 52))
  have b3 := (((Boxed.new (((w.alloc (.cells #[.pointer (some ⟨B, 0, none⟩)] 52)).alloc (.cells #[.slice A avoid.length cap] 43)).alloc (.cells #[.int .i64 0] 3)) 3 (.int .i64 0)).alloc (.cells #[.int .i64 0] 54)).alloc (.cells #[.pointer (some ⟨B, 0, none⟩)] 52))
  have b4 := ((Boxed.new ((((w.alloc (.cells #[.pointer (some ⟨B, 0, none⟩)] 52)).alloc (.cells #[.slice A avoid.length cap] 43)).alloc (.cells #[.int .i64 0] 3)).alloc (.cells #[.int .i64 0] 3)) 54 (.int .i64 0)).alloc (.cells #[.pointer (some ⟨B, 0, none⟩)] 52))
  have b5 := (Boxed.new (((((w.alloc (.cells #[.pointer (some ⟨B, 0, none⟩)] 52)).alloc (.cells #[.slice A avoid.length cap] 43)).alloc (.cells #[.int .i64 0] 3)).alloc (.cells #[.int .i64 0] 3)).alloc (.cells #[.int .i64 0] 54)) 52 (.pointer (some ⟨B, 0, none⟩)))
  simp only [World.size_alloc] at b1 b2 b3 b4 b5
  have hB0 : Below w.heap.size w ((((((w.alloc (.cells #[.pointer (some ⟨B, 0, none⟩)] 52)).alloc (.cells #[.slice A avoid.length cap] 43)).alloc (.cells #[.int .i64 0] 3)).alloc (.cells #[.int .i64 0] 3)).alloc (.cells #[.int .i64 0] 54)).alloc (.cells #[.pointer (some ⟨B, 0, none⟩)] 52)) := (((((((Below.refl _ w).alloc (Nat.le_refl _) _).alloc (by simp) _).alloc (by simp; omega) _).alloc (by simp; omega) _).alloc (by simp; omega) _).alloc (by simp; omega) _)
  have hsz : ((((((w.alloc (.cells #[.pointer (some ⟨B, 0, none⟩)] 52)).alloc (.cells #[.slice A avoid.length cap] 43)).alloc (.cells #[.int .i64 0] 3)).alloc (.cells #[.int .i64 0] 3)).alloc (.cells #[.int .i64 0] 54)).alloc (.cells #[.pointer (some ⟨B, 0, none⟩)] 52)).heap.size = w.heap.size + 6 := by simp
  obtain ⟨W0, hW0⟩ : ∃ W0, ((((((w.alloc (.cells #[.pointer (some ⟨B, 0, none⟩)] 52)).alloc (.cells #[.slice A avoid.length cap] 43)).alloc (.cells #[.int .i64 0] 3)).alloc (.cells #[.int .i64 0] 3)).alloc (.cells #[.int .i64 0] 54)).alloc (.cells #[.pointer (some ⟨B, 0, none⟩)] 52)) = W0 := ⟨_, rfl⟩
  rw [hW0] at b0 b1 b2 b3 b4 b5 hB0 hsz ⊢
  clear hW0
  have hpl : ∀ k ∈ pid B bm vo, k < w.heap.size := fun k hk => (HP.out.typed hk).2
  have hP0 := HP.out.below hB0
  have hC0 := Kd.C_below HC.out hB0
  obtain ⟨D, hD⟩ : ∃ D, w.heap.size = D := ⟨_, rfl⟩
  rw [hD] at b0 b1 b2 b3 b4 b5 hB0 hsz hpl ⊢
  simp only [Nat.add_assoc, Nat.reduceAdd] at b0 b1 b2 b3 b4 b5 ⊢
  have hP1 := hP0
  have hB1 := hB0
  obtain ⟨N, hN⟩ : ∃ N, D + 6 = N := ⟨_, rfl⟩
  rw [hN] at hsz
  refine wpIn_rangeFunc_ownH rfl h1 (gf := 90) (lb := #[.pointer (some ⟨D + 5, 0, none⟩)]) rfl trivial (enters_of Try.func90 (by kernel_rfl) rfl)
    (round_stops 4 (by omega) (D + 5) N W0 (by omega) (by omega) hl hh b5.cell hP0 (fun k hk => Nat.lt_of_lt_of_le (hpl k hk) (by omega))) belowK_t (belowK_b (by omega)) (Below.refl _ _) (fun _ => rfl)
    (fun pre W => (∀ k ∈ pre, vok os avoid k = false) ∧ Below N W0 W)
    (fun cd pre W => (cd = .ret ∧ ∃ pre' k, pre = pre' ++ [k] ∧ (∀ j ∈ pre', vok os avoid j = false) ∧ vok os avoid k = true ∧ Boxed W (D + 2) 3 (.int .i64 k) ∧ Boxed W (D + 3) 3 (.int .i64 (ownerP os k).1) ∧ Boxed W (D + 4) 54 (.int .i64 0)) ∧ Below D W0 W)
    ?hI ?hIx ?h0
    (fun x a' W => a' = { tmps := #[.pointer (some ⟨B, 0, none⟩), .slice A avoid.length cap, .pointer (some ⟨D, 0, none⟩), .pointer (some ⟨D + 1, 0, none⟩), .pointer (some ⟨D + 2, 0, none⟩), .pointer (some ⟨D + 3, 0, none⟩), .pointer (some ⟨D + 4, 0, none⟩), .int .i64 x, undef, undef, .pointer (some ⟨B, 0, none⟩), .func (.func 90) #[] #[.pointer (some ⟨D + 5, 0, none⟩)], .int .i64 x, undef, undef, undef, undef, undef, undef, undef, undef, undef, undef, undef, undef, undef, undef, undef], defers := [] })
    ?hAx ?assign ?body ?done ?stop
  case hI => exact OwnFrom.and (fun s X Y row hs _ _ => hs) (ownFrom_below (by omega) (by omega))
  case hIx =>
    intro cd
    refine OwnFrom.and (Own.from (fun s X Y row hs hg hr => ?_) _) (ownFrom_below (by omega) (by omega))
    obtain ⟨h1, p, k, h2, h3, h4, h5, h6, h7⟩ := hs
    exact ⟨h1, p, k, h2, h3, h4, boxed_own _ _ (fun _ : Unit => _) () X Y row h5 hg hr, boxed_own _ _ (fun _ : Unit => _) () X Y row h6 hg hr, boxed_own _ _ (fun _ : Unit => _) () X Y row h7 hg hr⟩
  case h0 => exact ⟨fun k hk => by simp at hk, by rw [← hsz]; exact Below.refl _ _⟩
  case hAx =>
    rintro x a' _ X Y row h2 hg hr
    exact h2
  case assign =>
    rintro l pre x W K ⟨hp, hBW⟩ hK
    dsimp only [encI]
    gi_wp2
    exact hK _ _ (KeepsFrom.refl _ _) (Below.refl _ _) ⟨hp, hBW⟩ rfl
  case body =>
    rintro l pre x a' W hlB ⟨r, hr⟩ ⟨hp, hBW⟩ rfl hlt
    have hPW := hP0.step (fun k hk => hBW.block k (Nat.lt_of_lt_of_le (hpl k hk) (by omega)))
    have hCW := Kd.C_below hC0 (hsz ▸ hBW)
    have c0 := (hBW.cell (p := ⟨D, 0, none⟩) (by simp; omega)).trans b0.cell
    have c1 := (hBW.cell (p := ⟨D + 1, 0, none⟩) (by simp; omega)).trans b1.cell
    have e2 : Boxed W (D + 2) 3 (.int .i64 0) := (hBW.block (D + 2) (by omega)).trans b2
    have e3 : Boxed W (D + 3) 3 (.int .i64 0) := (hBW.block (D + 3) (by omega)).trans b3
    have e4 : Boxed W (D + 4) 54 (.int .i64 0) := (hBW.block (D + 4) (by omega)).trans b4
    have hBD : Below D W0 W := hBW.mono (by omega)
    have HBW := Aside0.mk hBW
    have HBD := Aside0.mk hBD
    have HPP := Aside0.mk hp
    have E2 := Aside0.mk e2
    have E3 := Aside0.mk e3
    have E4 := Aside0.mk e4
    have HCW := Aside0.mk hCW
    clear hBW hBD hp b0 b1 b2 b3 b4 b5 hP0 hP1 hC0 hB0 hB1 hCW hr
    gi_wp2_with fail
    refine ⟨trivial, calls_in wide_round (fun _ => trivial) ((owner_calls hPW x (by omega)).mono ?_)⟩
    rintro e w2 ⟨rfl, rfl⟩
    obtain ⟨o, ho⟩ : ∃ o, ownerP os x = o := ⟨_, rfl⟩
    rw [ho]
    have HO := Aside0.mk ho
    clear ho
    obtain ⟨o1, o2⟩ := o
    dsimp only []
    cases o2 with
    | false =>
      have hv : vok os avoid x = false := by unfold vok; rw [HO.out]; rfl
      have HV := Aside0.mk hv
      clear hv hPW e2 e3 e4
      have hall : ∀ k ∈ pre ++ [x], vok os avoid k = false := fun k hk => by
        rcases List.mem_append.1 hk with h | h
        · exact HPP.out k h
        · rw [List.mem_singleton.1 h]; exact HV.out
      have HALL := Aside0.mk hall
      clear hall
      gi_wp2
      refine ⟨trivial, ?_⟩
      gi_wp2
      exact ⟨KeepsFrom.refl _ _, Below.refl _ _, HALL.out, HBW.out⟩
    | true =>
      gi_wp2_with fail
      refine ⟨trivial, calls_in wide_round (fun _ => trivial) ((contains_calls A cap avoid o1 _ HCW.out hcap hal).mono ?_)⟩
      rintro e w3 ⟨rfl, hd3⟩
      have hb3 := hd3.below
      have hkf : KeepsFrom W0.heap.size w2 w3 := ⟨hb3.size, fun k o _ hk _ => (hb3.block k (Array.getElem?_eq_some_iff.1 hk).1).trans hk⟩
      have hbb : Below N w2 w3 := hb3.mono (by have := HBW.out.size; omega)
      have e2' : Boxed w3 (D + 2) 3 (.int .i64 0) := (hb3.block _ E2.out.lt).trans E2.out
      have e3' : Boxed w3 (D + 3) 3 (.int .i64 0) := (hb3.block _ E3.out.lt).trans E3.out
      have e4' : Boxed w3 (D + 4) 54 (.int .i64 0) := (hb3.block _ E4.out.lt).trans E4.out
      have HBW3 := Aside0.mk (HBW.out.trans hbb)
      have HBD3 := Aside0.mk (HBD.out.trans (hbb.mono (by omega)))
      have HKF := Aside0.mk hkf
      have HBB := Aside0.mk hbb
      clear hPW e2 e3 e4 E2 E3 E4 hd3 hb3 hkf hbb c0 c1
      by_cases hin : o1 ∈ avoid
      · have hid : decide (o1 ∈ avoid) = true := decide_eq_true hin
        rw [hid]
        have hv : vok os avoid x = false := by unfold vok; rw [HO.out]; simp [hin]
        have hall : ∀ k ∈ pre ++ [x], vok os avoid k = false := fun k hk => by
          rcases List.mem_append.1 hk with h | h
          · exact HPP.out k h
          · rw [List.mem_singleton.1 h]; exact hv
        have HALL := Aside0.mk hall
        clear hall hv hin hid e2' e3' e4'
        gi_wp2
        exact ⟨HKF.out, HBB.out, HALL.out, HBW3.out⟩
      · have hid : decide (o1 ∈ avoid) = false := decide_eq_false hin
        rw [hid]
        have hv : vok os avoid x = true := by unfold vok; rw [HO.out]; simp [hin]
        have HV := Aside0.mk hv
        have c2 := e2'.cell
        have c3 := e3'.cell
        have c4 := e4'.cell
        have f2 := e2'.frozen
        have f3 := e3'.frozen
        have f4 := e4'.frozen
        have g2 := ((Boxed.set (.int .i64 x) e2').other (B' := D + 3) (by omega) (.int .i64 o1)).other (B' := D + 4) (by omega) (.int .i64 0)
        have g3 := (Boxed.set (.int .i64 o1) (e3'.other (B' := D + 2) (by omega) (.int .i64 x))).other (B' := D + 4) (by omega) (.int .i64 0)
        have g4 := Boxed.set (.int .i64 0) ((e4'.other (B' := D + 2) (by omega) (.int .i64 x)).other (B' := D + 3) (by omega) (.int .i64 o1))
        have hk4 := ((HKF.out.trans ((KeepsOthers.setCell w3 ⟨D + 2, 0, none⟩ (.int .i64 x)).from _)).trans ((KeepsOthers.setCell _ ⟨D + 3, 0, none⟩ (.int .i64 o1)).from _)).trans ((KeepsOthers.setCell _ ⟨D + 4, 0, none⟩ (.int .i64 0)).from _)
        have hb4 := ((HBD3.out.setCell (p := ⟨D + 2, 0, none⟩) (by simp) (.int .i64 x)).setCell (p := ⟨D + 3, 0, none⟩) (by simp) (.int .i64 o1)).setCell (p := ⟨D + 4, 0, none⟩) (by simp) (.int .i64 0)
        have G2 := Aside0.mk g2
        have G3 := Aside0.mk g3
        have G4 := Aside0.mk g4
        have HK4 := Aside0.mk hk4
        have HB4 := Aside0.mk hb4
        clear hv hin hid g2 g3 g4 hk4 hb4 HBW HBD HBW3 HKF HBB HBD3 HCW
        gi_wp2
        exact ⟨HK4.out, ⟨rfl, pre, x, rfl, HPP.out, HV.out, G2.out, by rw [HO.out]; exact G3.out, G4.out⟩, HB4.out⟩
  case done =>
    rintro D2 xs W hD2 rfl ⟨hp, hBW⟩ hK
    have e2 : Boxed W (D + 2) 3 (.int .i64 0) := (hBW.block (D + 2) (by omega)).trans b2
    have e3 : Boxed W (D + 3) 3 (.int .i64 0) := (hBW.block (D + 3) (by omega)).trans b3
    have e4 : Boxed W (D + 4) 54 (.int .i64 0) := (hBW.block (D + 4) (by omega)).trans b4
    have hBD : Below D w W := hB0.trans (hBW.mono (by omega))
    have hfn : (rot os.length hand).find? (vok os avoid) = none := List.find?_eq_none.2 (fun k hk => by rw [hp k hk]; simp)
    have HFN := Aside0.mk hfn
    have HBD := Aside0.mk hBD
    have d2 := e2.cell
    have d3 := e3.cell
    have d4 := e4.cell
    have f2 := e2.frozen
    have f3 := e3.frozen
    have f4 := e4.frozen
    have g2 := ((Boxed.set (.int .i64 0) e2).other (B' := D + 3) (by omega) (.int .i64 0)).other (B' := D + 4) (by omega) (.int .i64 8)
    have g3 := (Boxed.set (.int .i64 0) (e3.other (B' := D + 2) (by omega) (.int .i64 0))).other (B' := D + 4) (by omega) (.int .i64 8)
    have g4 := Boxed.set (.int .i64 8) ((e4.other (B' := D + 2) (by omega) (.int .i64 0)).other (B' := D + 3) (by omega) (.int .i64 0))
    have hk4 := (KeepsOthers.setCell _ ⟨D + 4, 0, none⟩ (.int .i64 8)).same D2 _ ((KeepsOthers.setCell _ ⟨D + 3, 0, none⟩ (.int .i64 0)).same D2 _ ((KeepsOthers.setCell W ⟨D + 2, 0, none⟩ (.int .i64 0)).same D2 _ hK rfl) rfl) rfl
    have hb4 := ((hBD.setCell (p := ⟨D + 2, 0, none⟩) (by simp) (.int .i64 0)).setCell (p := ⟨D + 3, 0, none⟩) (by simp) (.int .i64 0)).setCell (p := ⟨D + 4, 0, none⟩) (by simp) (.int .i64 8)
    have G2 := Aside0.mk g2
    have G3 := Aside0.mk g3
    have G4 := Aside0.mk g4
    have HK4 := Aside0.mk hk4
    have HB4 := Aside0.mk hb4
    clear hfn hBD hp b0 b1 b2 b3 b4 b5 hP0 hP1 hC0 hB0 hB1 g2 g3 g4 hk4 hb4
    gi_wp2
    refine ⟨by simp, .inl ⟨_, _, rfl, run_takeDeferred HK4.out, ?_⟩⟩
    have hc2 := cell_kept G2.out.cell (grownBy_putObj' _ D2 (.deferred none)) (fun r e => by cases e; exact ⟨_, HK4.out, rfl⟩)
    have hc3 := cell_kept G3.out.cell (grownBy_putObj' _ D2 (.deferred none)) (fun r e => by cases e; exact ⟨_, HK4.out, rfl⟩)
    have hc4 := cell_kept G4.out.cell (grownBy_putObj' _ D2 (.deferred none)) (fun r e => by cases e; exact ⟨_, HK4.out, rfl⟩)
    refine ⟨.tuple #[.int .i64 0, .int .i64 0, .int .i64 8], ?_, ?_, ?_⟩
    · simp [results, Try.f37, go_sem, hc2, hc3, hc4]
    · rw [HFN.out]
    · rw [hD]
      exact HB4.out.trans (belowK_b (w := W0) (by omega) _ D2 _ _ hD2 HK4.out rfl rfl)
  case stop =>
    rintro D2 cd pre W hD2 hpre ⟨⟨rfl, p, k, rfl, h3, h4, h5, h6, h7⟩, hBW⟩ hK
    have hBD : Below D w W := hB0.trans hBW
    have hfn : (rot os.length hand).find? (vok os avoid) = some k := by
      obtain ⟨s, hs⟩ := hpre
      rw [← hs, List.append_assoc, List.find?_append, List.find?_eq_none.2 (fun j hj => by rw [h3 j hj]; simp)]
      simp [h4]
    have HFN := Aside0.mk hfn
    have HBD := Aside0.mk hBD
    clear hfn hBD h3 h4 b0 b1 b2 b3 b4 b5 hP0 hP1 hC0 hB0 hB1
    gi_wp2
    refine ⟨by simp, .inl ⟨_, _, rfl, run_takeDeferred hK, ?_⟩⟩
    have hc2 := cell_kept h5.cell (grownBy_putObj' _ D2 (.deferred none)) (fun r e => by cases e; exact ⟨_, hK, rfl⟩)
    have hc3 := cell_kept h6.cell (grownBy_putObj' _ D2 (.deferred none)) (fun r e => by cases e; exact ⟨_, hK, rfl⟩)
    have hc4 := cell_kept h7.cell (grownBy_putObj' _ D2 (.deferred none)) (fun r e => by cases e; exact ⟨_, hK, rfl⟩)
    refine ⟨.tuple #[.int .i64 k, .int .i64 (ownerP os k).1, .int .i64 0], ?_, ?_, ?_⟩
    · simp [results, Try.f37, go_sem, hc2, hc3, hc4]
    · rw [HFN.out]
    · rw [hD]
      exact HBD.out.trans (belowK_b (w := W0) (by omega) _ D2 _ _ hD2 hK rfl rfl)

end Go.Proofs.Ytcbnmmkmgpbfiaa.PP
