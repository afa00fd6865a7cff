/- The law's 'does' (layer 15): a deed done to the program's calls and to the document's. Written by mkcd.py over cd.txt. -/
import Derived.Test.YtgmdlndiilibpaaCallQ
import Derived.Lib.Builder
import Derived.OneCell
namespace Go.Proofs.Ytgmdlndiilibpaa.PC
open Go.RowKit Go.Proofs.YtgmdlndiilibpaaW.PrintWords Go.Proofs.YtgmdlndiilibpaaW.PrintLast Go.Proofs.YtgmdlndiilibpaaW.PrintMore Go.Proofs.Ytgmdlndiilibpaa.Tab Go.Proofs.Ytgmdlndiilibpaa.CallK
attribute [local go_sem] max2_int min2_int max_two min_two max_three min_three max_four min_four   -- for this text's walks alone
set_option linter.unusedVariables false
set_option linter.unusedSimpArgs false
attribute [local go_sem high] eqA46
theorem first_none (q c : Int) (L : List PR.S104) (hL : L.length ≤ 1000) (hT : ∀ s ∈ L, s.f1.length ≤ 1000) (h : PR.firstL 0 c L = -1) : PR.lookasidelaw15_first.f 5000 0 0 0 0 false q L c = some true := by
  unfold PR.lookasidelaw15_first.f
  rw [PR.First_f q c L hL hT, h]; rfl
theorem first_some (q c : Int) (L : List PR.S104) (hL : L.length ≤ 1000) (hT : ∀ s ∈ L, s.f1.length ≤ 1000) (i : Nat) (s : PR.S104) (h : PR.firstL 0 c L = (i : Int)) (hs : L[i]? = some s) : PR.lookasidelaw15_first.f 5000 s.f0.f0 s.f0.f1 s.f0.f2 i true q L c = some true := by
  obtain ⟨hi, hs⟩ := List.getElem?_eq_some_iff.1 hs
  unfold PR.lookasidelaw15_first.f PR.lookasidelaw15_as.f
  rw [PR.First_f q c L hL hT, h, Option.bind_some, if_neg (by omega), Option.bind_some, if_pos (by omega), if_pos (by omega), PR.rd104_at hi, hs]
  simp
theorem wq_le (c : Int) : ∀ (L : List PR.S104) (j : Nat), (PR.wq j c L).length ≤ L.length
  | [], j => Nat.le_refl _
  | s :: t, j => by
    have := wq_le c t (j + 1)
    unfold PR.wq
    split <;> simp <;> omega
theorem Rel_qs {q : Nat} {qs : List (List Sn)} {left : List Int} {L : List PR.S104} (h : PR.Rel q qs left L) (hL : L.length ≤ 900) : ∀ l ∈ qs, l.length ≤ 1000 := fun l hl => by
  obtain ⟨n, hn, rfl⟩ := List.getElem_of_mem hl
  have h1 := h.hq n (by rw [← h.len]; exact hn)
  rw [List.getElem?_eq_getElem hn] at h1
  rw [Option.some.inj h1]
  have := wq_le (n : Int) L 0
  omega
theorem takeL_len (c : Int) : ∀ L : List PR.S104, (PR.takeL c L).length = L.length
  | [] => rfl
  | s :: t => by
    unfold PR.takeL
    split
    · rfl
    · simp [takeL_len c t]
theorem St.of {w : World} {base B gw : Nat} {vs : List Value} {lv : Value} {q : Nat} {qs : List (List Sn)} {left : List Int} {L : List PR.S104} {v : Value} {ok : Nat → Prop} {X : Nat → Prop} (hg : ∀ k, X k → k < w.heap.size) (h1 : CA w base B gw vs lv qs left) (h2 : PR.Rel q qs left L) (h3 : Kd.V PR.k104 104 w 0 ok v L) (h4 : ∀ k, ok k → k ∉ ids B gw vs lv ∧ ¬ X k) : St w base B gw vs lv q qs left L v X := ⟨h1, h2, Kd.V_mono h3 h4, hg⟩
theorem gl_of {W : World} {b : Nat} {X : Nat → Prop} {o : Obj} (h : W.heap[b + 2]? = some o) (hg : ∀ k, X k → k < b) : ∀ k, X k → k < W.heap.size := fun k hk => by
  have := blk_lt h
  have := hg k hk
  omega
theorem Mv.far {S : List Nat} {w W : World} {p : Addr} (h : Mv S w W) (hp : w.heap.size ≤ p.block) (u : Value) : Mv S w (W.setCell p u) :=
  ⟨h.os, h.tape, h.output, by have : (W.setCell p u).heap.size = W.heap.size := by simp [World.setCell]
                              rw [this]; exact h.size, fun k hk hn => (Below.heap_setCell W p u k (by omega)).trans (h.block k hk hn)⟩
/-- What a deed leaves. -/
def Res (w : World) (S : List Nat) (w0 : World) (base B gw q len : Nat) (X : Nat → Prop) (e : Ending) (w' : World) : Prop := ∃ (A' : Option Addr) (c' : Nat) (L' : List PR.S104) (qs' : List (List Sn)) (left' : List Int) (vs' : List Value) (lv' : Value),
  e = .returned (.tuple #[.agg #[.int .i64 q, .slice A' L'.length c'], .bool true]) ∧ St w' base B gw vs' lv' q qs' left' L' (.slice A' L'.length c') X ∧ Below w0.heap.size w0 w' ∧ L'.length ≤ len + 1 ∧ Mv S w w'
theorem int_takeF {W : World} {ok : Nat → Prop} {A : Option Addr} {n m : Nat} {xs : List Int} (h : Kd.F (Kd.int .i64) W ok A n xs) (hm : m ≤ n) : Kd.F (Kd.int .i64) W ok A m (xs.take m) := fun W' hW => int_take (h W' hW) hm
set_option maxHeartbeats 8000000 in
set_option maxRecDepth 100000 in
theorem does_send {w0 w : World} {base B gw : Nat} {vs : List Value} {lv : Value} {q : Nat} {qs : List (List Sn)} {left : List Int} {L : List PR.S104} {Av : Option Addr} {cv : Nat} {X : Nat → Prop} (h : St w base B gw vs lv q qs left L (.slice Av L.length cv) X) (hgw : ∀ k, X k → w0.heap.size ≤ k) (hq8 : q ≤ 8) (hL : L.length ≤ 900)
    (n kd cx va : Int) (A : Option Addr) (c : Nat) (Ts : List Int) (hcT : Ts.length ≤ c) (hF : Kd.F (Kd.int .i64) w0 (fun k => k < w0.heap.size) A Ts.length Ts) (hw0 : Below w0.heap.size w0 w) (hbase : w0.heap.size ≤ base) :
    Calls Try.prog 44 #[.pointer (some ⟨B, 0, none⟩), .agg #[.int .i64 q, .slice Av L.length cv], .agg #[.int .i64 0, .int .i64 n, .int .i64 kd, .int .i64 cx, .int .u64 va, .slice A Ts.length c]] w (Res w (ids B gw vs lv) w0 base B gw q L.length X) := by
  obtain ⟨T, hT, hTl, hTx⟩ : ∃ T : List Int, T = Ts.take 10 ∧ T.length ≤ 10 ∧ (if (10 : Int) < (Ts.length : Int) then 10 else (Ts.length : Int)) = (T.length : Int) := ⟨_, rfl, by rw [List.length_take]; omega, by rw [List.length_take]; split <;> omega⟩
  have hTc : T.length ≤ c := by rw [hT, List.length_take]; omega
  have hFT : Kd.F (Kd.int .i64) w0 (fun k => k < w0.heap.size) A T.length T := by
    have := int_takeF hF (show T.length ≤ Ts.length by rw [hT, List.length_take]; omega)
    have e : Ts.take T.length = T := by rw [hT, List.length_take, List.take_eq_take_iff]; omega
    rwa [e] at this
  have HF := Aside0.mk hFT
  clear hFT hT hF
  have hb0 := (((Below.refl w.heap.size w).alloc (Nat.le_refl _) (.cells #[.int .i64 q, .slice Av L.length cv] 41)).alloc (by simp) (.cells #[.int .i64 0, .int .i64 n, .int .i64 kd, .int .i64 cx, .int .u64 va, .slice A Ts.length c] 83)).alloc (by simp; omega) (.cells #[.int .i64 0, .slice none 0 0] 41)
  have hk4 := blk_alloc (blk_alloc (blk_new w (.cells #[.int .i64 q, .slice Av L.length cv] 41)) (.cells #[.int .i64 0, .int .i64 n, .int .i64 kd, .int .i64 cx, .int .u64 va, .slice A Ts.length c] 83)) (.cells #[.int .i64 0, .slice none 0 0] 41)
  have hk5 := blk_alloc (blk_new (w.alloc (.cells #[.int .i64 q, .slice Av L.length cv] 41)) (.cells #[.int .i64 0, .int .i64 n, .int .i64 kd, .int .i64 cx, .int .u64 va, .slice A Ts.length c] 83)) (.cells #[.int .i64 0, .slice none 0 0] 41)
  have hk6 := blk_new ((w.alloc (.cells #[.int .i64 q, .slice Av L.length cv] 41)).alloc (.cells #[.int .i64 0, .int .i64 n, .int .i64 kd, .int .i64 cx, .int .u64 va, .slice A Ts.length c] 83)) (.cells #[.int .i64 0, .slice none 0 0] 41)
  have hsz : (w.alloc (.cells #[.int .i64 q, .slice Av L.length cv] 41)).heap.size = w.heap.size + 1 := by simp
  have hsz2 : ((w.alloc (.cells #[.int .i64 q, .slice Av L.length cv] 41)).alloc (.cells #[.int .i64 0, .int .i64 n, .int .i64 kd, .int .i64 cx, .int .u64 va, .slice A Ts.length c] 83)).heap.size = w.heap.size + 2 := by simp
  rw [hsz] at hk5
  rw [hsz2] at hk6
  go_enter Try.func44, Try.ntmps44
  go_wp2_with fail
  have HS := Aside0.mk h
  have HGL := Aside0.mk h.gl
  have HW0 := Aside0.mk hw0
  have HBD := Aside0.mk hb0
  have HLT := Aside0.mk (CA_ids_lt h.ca)
  have HGE := Aside0.mk (ids_ge h.ca)
  clear h hw0 hb0 hsz hsz2
  generalize ((w.alloc (.cells #[.int .i64 q, .slice Av L.length cv] 41)).alloc (.cells #[.int .i64 0, .int .i64 n, .int .i64 kd, .int .i64 cx, .int .u64 va, .slice A Ts.length c] 83)).alloc (.cells #[.int .i64 0, .slice none 0 0] 41) = wD at *
  have HK4 := Aside0.mk hk4
  have HK5 := Aside0.mk hk5
  have HK6 := Aside0.mk hk6
  have x0 := (blk_cell hk4 0).trans rfl
  have x1 := (blk_cell hk4 1).trans rfl
  have y0 := (blk_cell hk5 0).trans rfl
  have y1 := (blk_cell hk5 1).trans rfl
  have y2 := (blk_cell hk5 2).trans rfl
  have y3 := (blk_cell hk5 3).trans rfl
  have y4 := (blk_cell hk5 4).trans rfl
  have y5 := (blk_cell hk5 5).trans rfl
  clear hk4 hk5 hk6
  have hVD : Kd.V PR.k104 104 wD 0 (fun k => (k ∉ ids B gw vs lv ∧ ¬ X k) ∧ k < w.heap.size) (.slice Av L.length cv) L := Kd.V_below (Kd.V_bound HS.out.rv) HBD.out
  have hWD : Below w0.heap.size w0 wD := HW0.out.trans (HBD.out.mono HW0.out.size)
  have hFD : Kd.F (Kd.int .i64) wD (fun k => k < w0.heap.size) A T.length T := Kd.F_step HF.out (fun k hk hlt => hWD.block k hlt)
  have HVD := Aside0.mk hVD
  have HFD := Aside0.mk hFD
  clear hVD hWD hFD
  have hnk : ∀ k, ((((k ∉ ids B gw vs lv ∧ ¬ X k) ∧ k < w.heap.size) ∨ k < w0.heap.size) ∨ wD.heap.size ≤ k) → (k ∉ ids B gw vs lv ∧ ¬ X k) ∧ k ≠ w.heap.size + 2 := fun k hk => by
    have h6 := blk_lt HK6.out
    have h0 := HW0.out.size
    have hD := HBD.out.size
    have hgl := HGL.out
    rcases hk with (⟨h1, h2⟩ | h1) | h1
    · exact ⟨h1, by omega⟩
    · exact ⟨⟨fun hm => by have := HGE.out k hm; omega, fun hx => by have := hgw k hx; omega⟩, by omega⟩
    · exact ⟨⟨fun hm => by have := HLT.out k hm; omega, fun hx => by have := hgl k hx; omega⟩, by omega⟩
  have HNK := Aside0.mk hnk
  have hfx := PR.send_f T (by omega) q L (by omega) kd cx va
  have HFX := Aside0.mk hfx
  clear hnk hfx
  by_cases hE : sendErr q kd va T = 0
  · have hf : PR.lookasideref15_Send.f 5000 q L kd cx va T = some ((q : Int), L ++ [⟨⟨kd, cx, va⟩, T⟩], (L.length : Int), 0) := by
      rw [HFX.out]; unfold PR.sendR; rw [Int.toNat_natCast, if_pos hE]
    have HFS := Aside0.mk hf
    have HE := Aside0.mk hE
    clear hf hE HFX
    refine (PR.lookasideref15_Send.calls 5000 q (fun k => (k ∉ ids B gw vs lv ∧ ¬ X k) ∧ k < w.heap.size) Av cv L kd cx va (fun k => k < w0.heap.size) A c T q (L ++ [⟨⟨kd, cx, va⟩, T⟩]) (L.length : Int) 0 wD HVD.out (Kd.V_mk hTc HFD.out) HFS.out).mono ?_
    rintro e wE ⟨v1, rfl, hv1, hbE⟩
    obtain ⟨A1, c1, hvv⟩ := Kd.V_slice hv1
    subst hvv
    have hln : (L ++ [(⟨⟨kd, cx, va⟩, T⟩ : PR.S104)]).length = (L.length + 1) := by simp
    rw [hln] at hv1 ⊢
    have hWD : Below w0.heap.size w0 wD := HW0.out.trans (HBD.out.mono HW0.out.size)
    have hb9 := hbE.alloc hbE.size (.cells #[.int .i64 q, .slice A1 (L.length + 1) c1] 41)
    have hDF : Below wD.heap.size wD (wE.alloc (.cells #[.int .i64 q, .slice A1 (L.length + 1) c1] 41)) := hb9
    have hk9 := blk_new wE (.cells #[.int .i64 q, .slice A1 (L.length + 1) c1] 41)
    have HK9 := Aside0.mk hk9
    have HWWF := Aside0.mk (below_step HBD.out hDF)
    have HK6F := Aside0.mk (blk_below HK6.out hDF)
    have hCF := HS.out.ca.below (below_step HBD.out hDF)
    have HCF := Aside0.mk hCF
    have hWF : Below w0.heap.size w0 (wE.alloc (.cells #[.int .i64 q, .slice A1 (L.length + 1) c1] 41)) := hWD.trans (hDF.mono hWD.size)
    have HWF := Aside0.mk hWF
    have htc : ∀ w', Mv (ids B gw vs lv) (wE.alloc (.cells #[.int .i64 q, .slice A1 (L.length + 1) c1] 41)) w' → Kd.C (Kd.int .i64) w' A T.length T := fun w' hm => Kd.F_now (Kd.F_step HF.out (fun k hk _ => (hWF.trans (hm.below hWF.size (fun k hk => Nat.le_trans hbase (HGE.out k hk)))).block k hk))
    have HTC := Aside0.mk htc
    have hsz : base ≤ (wE.alloc (.cells #[.int .i64 q, .slice A1 (L.length + 1) c1] 41)).heap.size := Nat.le_trans hCF.bw (Nat.le_of_lt (blk_lt hCF.hw))
    have HSZ := Aside0.mk hsz
    have hv2 : Kd.V PR.k104 104 (wE.alloc (.cells #[.int .i64 q, .slice A1 (L.length + 1) c1] 41)) 0 (fun k => (k ∉ ids B gw vs lv ∧ ¬ X k) ∧ k ≠ w.heap.size + 2) (.slice A1 (L.length + 1) c1) (L ++ [(⟨⟨kd, cx, va⟩, T⟩ : PR.S104)]) := Kd.V_alloc (Kd.V_mono hv1 HNK.out) _
    have HV2 := Aside0.mk hv2
    have hbD4 := blk_below HK5.out hDF
    have y0 := (blk_cell hbD4 0).trans rfl
    have y1 := (blk_cell hbD4 1).trans rfl
    have y2 := (blk_cell hbD4 2).trans rfl
    have y3 := (blk_cell hbD4 3).trans rfl
    have y4 := (blk_cell hbD4 4).trans rfl
    have y5 := (blk_cell hbD4 5).trans rfl
    clear hWD hb9 hDF hk9 hCF hWF htc hsz hv2 hbD4 hv1
    go_wp2_with fail
    have hsend := send_calls HCF.out kd cx va A c T hTc HTC.out (by omega) (Rel_qs HS.out.rel hL) (by rw [HS.out.rel.left_len]; omega) HSZ.out
    rw [HS.out.rel.len, HE.out, HS.out.rel.left_len] at hsend
    clear y0 y1 y2 y3 y4 y5 x0 x1
    generalize wE.alloc (.cells #[.int .i64 q, .slice A1 (L.length + 1) c1] 41) = wF at *
    generalize wE.heap.size = g9 at *
    refine hsend.mono ?_
    clear hsend
    rintro e wG ⟨_, h2⟩
    obtain ⟨rfl, vs2, lv2, h2, hm2, hi2⟩ := h2 (by trivial)
    have hv2 := Kd.V_step (Kd.V_bound HV2.out) (fun k hk _ => hm2.block k hk.2 hk.1.1.1)
    have hr2 := HS.out.rel.send (cx := cx) HE.out hTl
    rw [HS.out.rel.left_len] at hr2
    have hge2 := ids_ge h2
    have hni9 := not_ids HCF.out HK9.out (by decide)
    have hni6 := not_ids HCF.out HK6F.out (by decide)
    have hk9 := (hm2.block g9 (blk_lt HK9.out) hni9).trans HK9.out
    have hk6 := (hm2.block (w.heap.size + 2) (blk_lt HK6F.out) hni6).trans HK6F.out
    have hbG := HWF.out.trans (hm2.below HWF.out.size (fun k hk => Nat.le_trans hbase (HGE.out k hk)))
    have hn6 := not_ids h2 hk6 (by decide)
    have hk6' := blk_put (blk_put hk6 0 (.int .i64 q) rfl) 1 (.slice A1 (L.length + 1) c1) rfl
    have hst : St ((wG.setCell ⟨w.heap.size + 2, 0, none⟩ (.int .i64 q)).setCell ⟨w.heap.size + 2, 1, none⟩ (.slice A1 (L.length + 1) c1)) base B gw vs2 lv2 q _ _ (L ++ [⟨⟨kd, cx, va⟩, T⟩]) (.slice A1 (L.length + 1) c1) X :=
      St.of (gl_of hk6' HGL.out) (ok := fun k => ((k ∉ ids B gw vs lv ∧ ¬ X k) ∧ k ≠ w.heap.size + 2) ∧ k < wF.heap.size) (h2.step (fun k hk => (Below.heap_setCell _ _ _ k (fun e => hn6 (by have e2 : k = w.heap.size + 2 := e; rw [← e2]; exact hk))).trans (Below.heap_setCell _ _ _ k (fun e => hn6 (by have e2 : k = w.heap.size + 2 := e; rw [← e2]; exact hk))))) hr2
        (Kd.V_far (p := ⟨w.heap.size + 2, 1, none⟩) (Kd.V_far (p := ⟨w.heap.size + 2, 0, none⟩) hv2 (fun k hk => hk.1.2) _) (fun k hk => hk.1.2) _) (fun k hk => ⟨fun hm => by
          rcases hi2 k hm with h | h
          · exact hk.1.1.1 h
          · exact Nat.not_lt.2 h hk.2, hk.1.1.2⟩)
    have hbG' := (hbG.setCell (p := ⟨w.heap.size + 2, 0, none⟩) (Nat.le_trans HW0.out.size (Nat.le_add_right _ 2)) (.int .i64 q)).setCell (p := ⟨w.heap.size + 2, 1, none⟩) (Nat.le_trans HW0.out.size (Nat.le_add_right _ 2)) (.slice A1 (L.length + 1) c1)
    have HMV := Aside0.mk (Mv.far (p := ⟨w.heap.size + 2, 1, none⟩) (Mv.far (p := ⟨w.heap.size + 2, 0, none⟩) ((Mv.of_below (S := CallK.ids B gw vs lv) HWWF.out).trans hm2 (fun k hk => .inl hk)) (Nat.le_add_right _ 2) (.int .i64 q)) (Nat.le_add_right _ 2) (.slice A1 (L.length + 1) c1))
    have HST := Aside0.mk hst
    have HK6' := Aside0.mk hk6'
    have HBG' := Aside0.mk hbG'
    obtain ⟨z0, z1⟩ : wG.cell? ⟨g9, 0, none⟩ = some (.int .i64 q) ∧ wG.cell? ⟨g9, 1, none⟩ = some (.slice A1 (L.length + 1) c1) := ⟨(blk_cell hk9 0).trans rfl, (blk_cell hk9 1).trans rfl⟩
    obtain ⟨r0, r1⟩ : wG.cell? ⟨w.heap.size + 2, 0, none⟩ = some (.int .i64 0) ∧ wG.cell? ⟨w.heap.size + 2, 1, none⟩ = some (.slice none 0 0) := ⟨(blk_cell hk6 0).trans rfl, (blk_cell hk6 1).trans rfl⟩
    have f0 := blk_frozen hk6
    clear hst hk6' hbG' h2 hm2 hi2 hv2 hr2 hge2 hni9 hni6 hbG hn6 hk9 hk6 HCF HV2 HK9 HK6F HWF HTC HSZ
    go_wp2_with fail
    refine bodyPost_ret (results_ct rfl _ _ (w.heap.size + 2) 41 #[.int .i64 q, .slice A1 (L.length + 1) c1] (0, 0) _ rfl HK6'.out Try.underlying41 rfl (by kernel_rfl)) rfl ?_
    refine ⟨A1, c1, L ++ [⟨⟨kd, cx, va⟩, T⟩], qsend qs T (packV kd cx va, (L.length : Int)), left ++ [(T.length : Int)], vs2, lv2, ?_, ?_, HBG'.out, by simp, HMV.out⟩
    · rw [hln]; rfl
    · rw [hln]; exact HST.out
  · have hf : PR.lookasideref15_Send.f 5000 q L kd cx va T = some ((q : Int), L, 0, sendErr q kd va T) := by
      rw [HFX.out]; unfold PR.sendR; rw [Int.toNat_natCast, if_neg hE]
    obtain ⟨E, hEE⟩ : ∃ E, sendErr q kd va T = E := ⟨_, rfl⟩
    rw [hEE] at hf hE
    have HFS := Aside0.mk hf
    have HE := Aside0.mk hEE
    clear hf hEE HFX
    refine (PR.lookasideref15_Send.calls 5000 q (fun k => (k ∉ ids B gw vs lv ∧ ¬ X k) ∧ k < w.heap.size) Av cv L kd cx va (fun k => k < w0.heap.size) A c T q L 0 E wD HVD.out (Kd.V_mk hTc HFD.out) HFS.out).mono ?_
    rintro e wE ⟨v1, rfl, hv1, hbE⟩
    obtain ⟨A1, c1, hvv⟩ := Kd.V_slice hv1
    subst hvv
    have hln : L.length = L.length := by simp
    rw [hln] at hv1 ⊢
    have hWD : Below w0.heap.size w0 wD := HW0.out.trans (HBD.out.mono HW0.out.size)
    have hb9 := hbE.alloc hbE.size (.cells #[.int .i64 q, .slice A1 L.length c1] 41)
    have hDF : Below wD.heap.size wD (wE.alloc (.cells #[.int .i64 q, .slice A1 L.length c1] 41)) := hb9
    have hk9 := blk_new wE (.cells #[.int .i64 q, .slice A1 L.length c1] 41)
    have HK9 := Aside0.mk hk9
    have HWWF := Aside0.mk (below_step HBD.out hDF)
    have HK6F := Aside0.mk (blk_below HK6.out hDF)
    have hCF := HS.out.ca.below (below_step HBD.out hDF)
    have HCF := Aside0.mk hCF
    have hWF : Below w0.heap.size w0 (wE.alloc (.cells #[.int .i64 q, .slice A1 L.length c1] 41)) := hWD.trans (hDF.mono hWD.size)
    have HWF := Aside0.mk hWF
    have htc : ∀ w', Mv (ids B gw vs lv) (wE.alloc (.cells #[.int .i64 q, .slice A1 L.length c1] 41)) w' → Kd.C (Kd.int .i64) w' A T.length T := fun w' hm => Kd.F_now (Kd.F_step HF.out (fun k hk _ => (hWF.trans (hm.below hWF.size (fun k hk => Nat.le_trans hbase (HGE.out k hk)))).block k hk))
    have HTC := Aside0.mk htc
    have hsz : base ≤ (wE.alloc (.cells #[.int .i64 q, .slice A1 L.length c1] 41)).heap.size := Nat.le_trans hCF.bw (Nat.le_of_lt (blk_lt hCF.hw))
    have HSZ := Aside0.mk hsz
    have hv2 : Kd.V PR.k104 104 (wE.alloc (.cells #[.int .i64 q, .slice A1 L.length c1] 41)) 0 (fun k => (k ∉ ids B gw vs lv ∧ ¬ X k) ∧ k ≠ w.heap.size + 2) (.slice A1 L.length c1) L := Kd.V_alloc (Kd.V_mono hv1 HNK.out) _
    have HV2 := Aside0.mk hv2
    have hbD4 := blk_below HK5.out hDF
    have y0 := (blk_cell hbD4 0).trans rfl
    have y1 := (blk_cell hbD4 1).trans rfl
    have y2 := (blk_cell hbD4 2).trans rfl
    have y3 := (blk_cell hbD4 3).trans rfl
    have y4 := (blk_cell hbD4 4).trans rfl
    have y5 := (blk_cell hbD4 5).trans rfl
    clear hWD hb9 hDF hk9 hCF hWF htc hsz hv2 hbD4 hv1
    go_wp2_with fail
    have hsend := send_calls HCF.out kd cx va A c T hTc HTC.out (by omega) (Rel_qs HS.out.rel hL) (by rw [HS.out.rel.left_len]; omega) HSZ.out
    rw [HS.out.rel.len, HE.out] at hsend
    clear y0 y1 y2 y3 y4 y5 x0 x1
    generalize wE.alloc (.cells #[.int .i64 q, .slice A1 L.length c1] 41) = wF at *
    generalize wE.heap.size = g9 at *
    refine hsend.mono ?_
    clear hsend
    rintro e wG ⟨h2, _⟩
    obtain ⟨rfl, hb2⟩ := h2 hE
    have hv2 := Kd.V_below HV2.out hb2
    have hcG := HCF.out.below hb2
    have hk9 := blk_below HK9.out hb2
    have hk6 := blk_below HK6F.out hb2
    have hbG := HWF.out.trans (hb2.mono HWF.out.size)
    have hn6 := not_ids hcG hk6 (by decide)
    have hk6' := blk_put (blk_put hk6 0 (.int .i64 q) rfl) 1 (.slice A1 L.length c1) rfl
    have hst : St ((wG.setCell ⟨w.heap.size + 2, 0, none⟩ (.int .i64 q)).setCell ⟨w.heap.size + 2, 1, none⟩ (.slice A1 L.length c1)) base B gw vs lv q qs left L (.slice A1 L.length c1) X :=
      St.of (gl_of hk6' HGL.out) (ok := fun k => (k ∉ ids B gw vs lv ∧ ¬ X k) ∧ k ≠ w.heap.size + 2) (hcG.step (fun k hk => (Below.heap_setCell _ _ _ k (fun e => hn6 (by have e2 : k = w.heap.size + 2 := e; rw [← e2]; exact hk))).trans (Below.heap_setCell _ _ _ k (fun e => hn6 (by have e2 : k = w.heap.size + 2 := e; rw [← e2]; exact hk))))) HS.out.rel
        (Kd.V_far (p := ⟨w.heap.size + 2, 1, none⟩) (Kd.V_far (p := ⟨w.heap.size + 2, 0, none⟩) hv2 (fun k hk => hk.2) _) (fun k hk => hk.2) _) (fun k hk => hk.1)
    have hbG' := (hbG.setCell (p := ⟨w.heap.size + 2, 0, none⟩) (Nat.le_trans HW0.out.size (Nat.le_add_right _ 2)) (.int .i64 q)).setCell (p := ⟨w.heap.size + 2, 1, none⟩) (Nat.le_trans HW0.out.size (Nat.le_add_right _ 2)) (.slice A1 L.length c1)
    have HMV := Aside0.mk (Mv.far (p := ⟨w.heap.size + 2, 1, none⟩) (Mv.far (p := ⟨w.heap.size + 2, 0, none⟩) (Mv.of_below (S := CallK.ids B gw vs lv) (below_step HWWF.out hb2)) (Nat.le_add_right _ 2) (.int .i64 q)) (Nat.le_add_right _ 2) (.slice A1 L.length c1))
    have HST := Aside0.mk hst
    have HK6' := Aside0.mk hk6'
    have HBG' := Aside0.mk hbG'
    obtain ⟨z0, z1⟩ : wG.cell? ⟨g9, 0, none⟩ = some (.int .i64 q) ∧ wG.cell? ⟨g9, 1, none⟩ = some (.slice A1 L.length c1) := ⟨(blk_cell hk9 0).trans rfl, (blk_cell hk9 1).trans rfl⟩
    obtain ⟨r0, r1⟩ : wG.cell? ⟨w.heap.size + 2, 0, none⟩ = some (.int .i64 0) ∧ wG.cell? ⟨w.heap.size + 2, 1, none⟩ = some (.slice none 0 0) := ⟨(blk_cell hk6 0).trans rfl, (blk_cell hk6 1).trans rfl⟩
    have f0 := blk_frozen hk6
    clear hst hk6' hbG' h2 hb2 hv2 hcG hbG hn6 hk9 hk6 HCF HV2 HK9 HK6F HWF HTC HSZ
    go_wp2_with fail
    refine bodyPost_ret (results_ct rfl _ _ (w.heap.size + 2) 41 #[.int .i64 q, .slice A1 L.length c1] (0, 0) _ rfl HK6'.out Try.underlying41 rfl (by kernel_rfl)) rfl ?_
    exact ⟨A1, c1, L, _, _, vs, lv, rfl, HST.out, HBG'.out, by omega, HMV.out⟩
set_option maxHeartbeats 8000000 in
set_option maxRecDepth 100000 in
theorem does_take {w0 w : World} {base B gw : Nat} {vs : List Value} {lv : Value} {q : Nat} {qs : List (List Sn)} {left : List Int} {L : List PR.S104} {Av : Option Addr} {cv : Nat} {X : Nat → Prop} (h : St w base B gw vs lv q qs left L (.slice Av L.length cv) X) (hgw : ∀ k, X k → w0.heap.size ≤ k) (hq8 : q ≤ 8) (hL : L.length ≤ 900)
    (kind n kd cx va : Int) (A : Option Addr) (c : Nat) (Ts : List Int) (hw0 : Below w0.heap.size w0 w) (hbase : w0.heap.size ≤ base) :
    Calls Try.prog 44 #[.pointer (some ⟨B, 0, none⟩), .agg #[.int .i64 q, .slice Av L.length cv], .agg #[.int .i64 1, .int .i64 n, .int .i64 kd, .int .i64 cx, .int .u64 va, .slice A Ts.length c]] w (Res w (ids B gw vs lv) w0 base B gw q L.length X) := by
  have hb0 := (((Below.refl w.heap.size w).alloc (Nat.le_refl _) (.cells #[.int .i64 q, .slice Av L.length cv] 41)).alloc (by simp) (.cells #[.int .i64 1, .int .i64 n, .int .i64 kd, .int .i64 cx, .int .u64 va, .slice A Ts.length c] 83)).alloc (by simp; omega) (.cells #[.int .i64 0, .slice none 0 0] 41)
  have hk4 := blk_alloc (blk_alloc (blk_new w (.cells #[.int .i64 q, .slice Av L.length cv] 41)) (.cells #[.int .i64 1, .int .i64 n, .int .i64 kd, .int .i64 cx, .int .u64 va, .slice A Ts.length c] 83)) (.cells #[.int .i64 0, .slice none 0 0] 41)
  have hk5 := blk_alloc (blk_new (w.alloc (.cells #[.int .i64 q, .slice Av L.length cv] 41)) (.cells #[.int .i64 1, .int .i64 n, .int .i64 kd, .int .i64 cx, .int .u64 va, .slice A Ts.length c] 83)) (.cells #[.int .i64 0, .slice none 0 0] 41)
  have hk6 := blk_new ((w.alloc (.cells #[.int .i64 q, .slice Av L.length cv] 41)).alloc (.cells #[.int .i64 1, .int .i64 n, .int .i64 kd, .int .i64 cx, .int .u64 va, .slice A Ts.length c] 83)) (.cells #[.int .i64 0, .slice none 0 0] 41)
  have hsz : (w.alloc (.cells #[.int .i64 q, .slice Av L.length cv] 41)).heap.size = w.heap.size + 1 := by simp
  have hsz2 : ((w.alloc (.cells #[.int .i64 q, .slice Av L.length cv] 41)).alloc (.cells #[.int .i64 1, .int .i64 n, .int .i64 kd, .int .i64 cx, .int .u64 va, .slice A Ts.length c] 83)).heap.size = w.heap.size + 2 := by simp
  rw [hsz] at hk5
  rw [hsz2] at hk6
  go_enter Try.func44, Try.ntmps44
  go_wp2_with fail
  have HS := Aside0.mk h
  have HGL := Aside0.mk h.gl
  have HW0 := Aside0.mk hw0
  have HBD := Aside0.mk hb0
  have HLT := Aside0.mk (CA_ids_lt h.ca)
  have HGE := Aside0.mk (ids_ge h.ca)
  clear h hw0 hb0 hsz hsz2
  generalize ((w.alloc (.cells #[.int .i64 q, .slice Av L.length cv] 41)).alloc (.cells #[.int .i64 1, .int .i64 n, .int .i64 kd, .int .i64 cx, .int .u64 va, .slice A Ts.length c] 83)).alloc (.cells #[.int .i64 0, .slice none 0 0] 41) = wD at *
  have HK4 := Aside0.mk hk4
  have HK5 := Aside0.mk hk5
  have HK6 := Aside0.mk hk6
  have x0 := (blk_cell hk4 0).trans rfl
  have x1 := (blk_cell hk4 1).trans rfl
  have y0 := (blk_cell hk5 0).trans rfl
  have y1 := (blk_cell hk5 1).trans rfl
  have y2 := (blk_cell hk5 2).trans rfl
  have y3 := (blk_cell hk5 3).trans rfl
  have y4 := (blk_cell hk5 4).trans rfl
  have y5 := (blk_cell hk5 5).trans rfl
  clear hk4 hk5 hk6
  have hVD : Kd.V PR.k104 104 wD 0 (fun k => (k ∉ ids B gw vs lv ∧ ¬ X k) ∧ k < w.heap.size) (.slice Av L.length cv) L := Kd.V_below (Kd.V_bound HS.out.rv) HBD.out
  have HVD := Aside0.mk hVD
  have HCD := Aside0.mk (HS.out.ca.below HBD.out)
  clear hVD
  have hcase : (PC.waits qs n = 0 ∧ PR.firstL 0 n L = -1) ∨ ∃ cc : Nat, n = cc ∧ cc < q ∧ ∃ (s : PR.S104) (i : Nat) (rest : List Sn), PR.firstL 0 cc L = (i : Int) ∧ L[i]? = some s ∧ qs[cc]? = some ((packV s.f0.f0 s.f0.f1 s.f0.f2, (i : Int)) :: rest) ∧ left[i]? = some (s.f1.length : Int) ∧ 1 ≤ s.f1.length ∧ s.f1.length ≤ 10 ∧ Ok s.f0.f0 s.f0.f1 s.f0.f2 ∧
      PR.Rel q (qs.set cc rest) (left.set i ((s.f1.length : Int) - 1)) (PR.takeL cc L) := by
    by_cases hnr : 0 ≤ n ∧ n < (q : Int)
    · obtain ⟨cc, rfl⟩ : ∃ cc : Nat, n = cc := ⟨n.toNat, by omega⟩
      rcases HS.out.rel.take cc (by omega) with h1 | h1
      · exact .inl h1
      · exact .inr ⟨cc, rfl, by omega, h1⟩
    · have := HS.out.rel.none hnr
      exact .inl ⟨by rw [HS.out.rel.waits, this.1]; rfl, this.2⟩
  have hb6l : w.heap.size + 2 < wD.heap.size := blk_lt HK6.out
  have hb4w : w0.heap.size ≤ w.heap.size := HW0.out.size
  have HFST := Aside0.mk (PR.First_f q n L (by omega) HS.out.rel.short)
  rcases hcase with ⟨hw, hf⟩ | ⟨cc, rfl, hcq, s, i, rest, hf, hLi, hqc, hli, h1, h10, hok, hrel⟩
  · have HFN := Aside0.mk (first_none q n L (by omega) HS.out.rel.short hf)
    rw [hf] at HFST
    refine (take_none HCD.out n hw).mono ?_
    rintro e wE ⟨rfl, hbE⟩
    have hbF := hbE.alloc hbE.size (.cells #[.int .i64 0, .int .i64 0, .int .u64 0] 46)
    have hkF := blk_new wE (.cells #[.int .i64 0, .int .i64 0, .int .u64 0] 46)
    have x0 := (blk_cell (blk_below HK4.out hbF) 0).trans rfl
    have x1 := (blk_cell (blk_below HK4.out hbF) 1).trans rfl
    have y0 := (blk_cell (blk_below HK5.out hbF) 0).trans rfl
    have y1 := (blk_cell (blk_below HK5.out hbF) 1).trans rfl
    have y2 := (blk_cell (blk_below HK5.out hbF) 2).trans rfl
    have y3 := (blk_cell (blk_below HK5.out hbF) 3).trans rfl
    have y4 := (blk_cell (blk_below HK5.out hbF) 4).trans rfl
    have y5 := (blk_cell (blk_below HK5.out hbF) 5).trans rfl
    obtain ⟨m0, m1, m2⟩ : (wE.alloc (.cells #[.int .i64 0, .int .i64 0, .int .u64 0] 46)).cell? ⟨wE.heap.size, 0, none⟩ = some (.int .i64 0) ∧ (wE.alloc (.cells #[.int .i64 0, .int .i64 0, .int .u64 0] 46)).cell? ⟨wE.heap.size, 1, none⟩ = some (.int .i64 0) ∧ (wE.alloc (.cells #[.int .i64 0, .int .i64 0, .int .u64 0] 46)).cell? ⟨wE.heap.size, 2, none⟩ = some (.int .u64 0) := ⟨(blk_cell hkF 0).trans rfl, (blk_cell hkF 1).trans rfl, (blk_cell hkF 2).trans rfl⟩
    have HBF := Aside0.mk hbF
    obtain ⟨_, hcL, hC⟩ := Kd.V_reads' (Kd.V_below HVD.out hbF)
    have HC := Aside0.mk hC
    clear hbE hbF hkF hC hw hf
    go_wp2_with fail
    generalize wE.alloc (.cells #[.int .i64 0, .int .i64 0, .int .u64 0] 46) = wF at *
    generalize wE.heap.size = g9 at *
    refine (PR.lookasidelaw15_first.calls 5000 0 0 0 0 false q Av cv L n true wF HC.out hcL HFN.out).mono ?_
    rintro e wG ⟨rfl, hbG⟩
    have hbG2 := below_step HBF.out hbG
    clear x0 x1 y0 y1 y2 y3 y4 y5 m0 m1 m2
    have x0 := (blk_cell (blk_below HK4.out hbG2) 0).trans rfl
    have x1 := (blk_cell (blk_below HK4.out hbG2) 1).trans rfl
    have y0 := (blk_cell (blk_below HK5.out hbG2) 0).trans rfl
    have y1 := (blk_cell (blk_below HK5.out hbG2) 1).trans rfl
    have y2 := (blk_cell (blk_below HK5.out hbG2) 2).trans rfl
    have y3 := (blk_cell (blk_below HK5.out hbG2) 3).trans rfl
    have y4 := (blk_cell (blk_below HK5.out hbG2) 4).trans rfl
    have y5 := (blk_cell (blk_below HK5.out hbG2) 5).trans rfl
    have HCG := Aside0.mk (Kd.C_below HC.out hbG)
    have HBG := Aside0.mk hbG2
    clear hbG hbG2 HBF HC
    go_wp2_with fail
    refine (PR.lookasideref15_First.calls 5000 q Av cv L n (-1) wG HCG.out hcL HFST.out).mono ?_
    rintro e wH ⟨rfl, hbH⟩
    have hbH2 := below_step HBG.out hbH
    clear x0 x1 y0 y1 y2 y3 y4 y5
    have x0 := (blk_cell (blk_below HK4.out hbH2) 0).trans rfl
    have x1 := (blk_cell (blk_below HK4.out hbH2) 1).trans rfl
    have y0 := (blk_cell (blk_below HK5.out hbH2) 0).trans rfl
    have y1 := (blk_cell (blk_below HK5.out hbH2) 1).trans rfl
    have y2 := (blk_cell (blk_below HK5.out hbH2) 2).trans rfl
    have y3 := (blk_cell (blk_below HK5.out hbH2) 3).trans rfl
    have y4 := (blk_cell (blk_below HK5.out hbH2) 4).trans rfl
    have y5 := (blk_cell (blk_below HK5.out hbH2) 5).trans rfl
    have hk6 := blk_below HK6.out hbH2
    have hcH := HCD.out.below hbH2
    have hvH := Kd.V_below HVD.out hbH2
    have hn6 := not_ids hcH hk6 (by decide)
    have hwH := HW0.out.trans ((below_step HBD.out hbH2).mono hb4w)
    have hk6' := blk_put (blk_put hk6 0 (.int .i64 q) rfl) 1 (.slice Av L.length cv) rfl
    have hst : St ((wH.setCell ⟨w.heap.size + 2, 0, none⟩ (.int .i64 q)).setCell ⟨w.heap.size + 2, 1, none⟩ (.slice Av L.length cv)) base B gw vs lv q qs left L (.slice Av L.length cv) X :=
      St.of (gl_of hk6' HGL.out) (ok := fun k => (k ∉ ids B gw vs lv ∧ ¬ X k) ∧ k < w.heap.size) (hcH.step (fun k hk => (Below.heap_setCell _ _ _ k (fun e => hn6 (by have e2 : k = w.heap.size + 2 := e; rw [← e2]; exact hk))).trans (Below.heap_setCell _ _ _ k (fun e => hn6 (by have e2 : k = w.heap.size + 2 := e; rw [← e2]; exact hk))))) HS.out.rel
        (Kd.V_far (p := ⟨w.heap.size + 2, 1, none⟩) (Kd.V_far (p := ⟨w.heap.size + 2, 0, none⟩) hvH (fun k hk => Nat.ne_of_lt (Nat.lt_add_right 2 hk.2)) _) (fun k hk => Nat.ne_of_lt (Nat.lt_add_right 2 hk.2)) _) (fun k hk => hk.1)
    have hbG' := (hwH.setCell (p := ⟨w.heap.size + 2, 0, none⟩) (Nat.le_trans hb4w (Nat.le_add_right _ 2)) (.int .i64 q)).setCell (p := ⟨w.heap.size + 2, 1, none⟩) (Nat.le_trans hb4w (Nat.le_add_right _ 2)) (.slice Av L.length cv)
    have HMV := Aside0.mk (Mv.far (p := ⟨w.heap.size + 2, 1, none⟩) (Mv.far (p := ⟨w.heap.size + 2, 0, none⟩) (Mv.of_below (S := CallK.ids B gw vs lv) (below_step HBD.out hbH2)) (Nat.le_add_right _ 2) (.int .i64 q)) (Nat.le_add_right _ 2) (.slice Av L.length cv))
    have HST := Aside0.mk hst
    have HK6' := Aside0.mk hk6'
    have HBG' := Aside0.mk hbG'
    obtain ⟨r0, r1⟩ : wH.cell? ⟨w.heap.size + 2, 0, none⟩ = some (.int .i64 0) ∧ wH.cell? ⟨w.heap.size + 2, 1, none⟩ = some (.slice none 0 0) := ⟨(blk_cell hk6 0).trans rfl, (blk_cell hk6 1).trans rfl⟩
    have f0 := blk_frozen hk6
    clear hst hk6' hbG' hk6 hcH hvH hn6 hwH hbH hbH2 HBG HCG
    go_wp2_with fail
    refine bodyPost_ret (results_ct rfl _ _ (w.heap.size + 2) 41 #[.int .i64 q, .slice Av L.length cv] (0, 0) _ rfl HK6'.out Try.underlying41 rfl (by kernel_rfl)) rfl ?_
    exact ⟨Av, cv, L, qs, left, vs, lv, rfl, HST.out, HBG'.out, by omega, HMV.out⟩
  · have HFN := Aside0.mk (first_some q cc L (by omega) HS.out.rel.short i s hf hLi)
    have HTF := Aside0.mk (PR.Take_f q cc L (by omega) HS.out.rel.short (by rw [hf]; omega))
    rw [hf] at HFST
    have HRL := Aside0.mk hrel
    have hgeD := HGE.out
    refine (take_some HCD.out cc s.f0.f0 s.f0.f1 s.f0.f2 i rest hqc hok (s.f1.length : Int) hli (by omega)).mono ?_
    rintro e wE ⟨rfl, vs2, h2, hm2, hi2⟩
    have hbE0 : Below w.heap.size w wD := HBD.out
    have hk4E := (hm2.block w.heap.size (blk_lt HK4.out) (not_ids HCD.out HK4.out (by decide))).trans HK4.out
    have hk5E := (hm2.block (w.heap.size + 1) (blk_lt HK5.out) (not_ids HCD.out HK5.out (by decide))).trans HK5.out
    have hk6E := (hm2.block (w.heap.size + 2) (blk_lt HK6.out) (not_ids HCD.out HK6.out (by decide))).trans HK6.out
    have hvE := Kd.V_step HVD.out (fun k hk _ => hm2.block k (Nat.lt_of_lt_of_le hk.2 hbE0.size) hk.1.1)
    have hwE := (HW0.out.trans (HBD.out.mono hb4w)).trans (hm2.below (Nat.le_trans hb4w hbE0.size) (fun k hk => Nat.le_trans hbase (hgeD k hk)))
    have hltE := CA_ids_lt h2
    have hDE := hm2.size
    have HI2 := Aside0.mk hi2
    have HMW := Aside0.mk ((Mv.of_below (S := CallK.ids B gw vs lv) HBD.out).trans hm2 (fun k hk => .inl hk))
    have HLTE := Aside0.mk hltE
    have HK4E := Aside0.mk hk4E
    have HK5E := Aside0.mk hk5E
    have HK6E := Aside0.mk hk6E
    have HVE := Aside0.mk hvE
    have HWE := Aside0.mk hwE
    have H2 := Aside0.mk h2
    clear x0 x1 y0 y1 y2 y3 y4 y5 hm2 hi2 hltE hk4E hk5E hk6E hvE hwE h2 hqc hli hok hrel hgeD hLi hf
    have hbF := (Below.refl wE.heap.size wE).alloc (Nat.le_refl _) (.cells #[.int .i64 s.f0.f0, .int .i64 s.f0.f1, .int .u64 s.f0.f2] 46)
    have hkF := blk_new wE (.cells #[.int .i64 s.f0.f0, .int .i64 s.f0.f1, .int .u64 s.f0.f2] 46)
    have x0 := (blk_cell (blk_below HK4E.out hbF) 0).trans rfl
    have x1 := (blk_cell (blk_below HK4E.out hbF) 1).trans rfl
    have y0 := (blk_cell (blk_below HK5E.out hbF) 0).trans rfl
    have y1 := (blk_cell (blk_below HK5E.out hbF) 1).trans rfl
    have y2 := (blk_cell (blk_below HK5E.out hbF) 2).trans rfl
    have y3 := (blk_cell (blk_below HK5E.out hbF) 3).trans rfl
    have y4 := (blk_cell (blk_below HK5E.out hbF) 4).trans rfl
    have y5 := (blk_cell (blk_below HK5E.out hbF) 5).trans rfl
    obtain ⟨m0, m1, m2⟩ : (wE.alloc (.cells #[.int .i64 s.f0.f0, .int .i64 s.f0.f1, .int .u64 s.f0.f2] 46)).cell? ⟨wE.heap.size, 0, none⟩ = some (.int .i64 s.f0.f0) ∧ (wE.alloc (.cells #[.int .i64 s.f0.f0, .int .i64 s.f0.f1, .int .u64 s.f0.f2] 46)).cell? ⟨wE.heap.size, 1, none⟩ = some (.int .i64 s.f0.f1) ∧ (wE.alloc (.cells #[.int .i64 s.f0.f0, .int .i64 s.f0.f1, .int .u64 s.f0.f2] 46)).cell? ⟨wE.heap.size, 2, none⟩ = some (.int .u64 s.f0.f2) := ⟨(blk_cell hkF 0).trans rfl, (blk_cell hkF 1).trans rfl, (blk_cell hkF 2).trans rfl⟩
    have HBF := Aside0.mk hbF
    obtain ⟨_, hcL, hC⟩ := Kd.V_reads' (Kd.V_below HVE.out hbF)
    have HC := Aside0.mk hC
    clear hbF hkF hC
    go_wp2_with fail
    generalize wE.alloc (.cells #[.int .i64 s.f0.f0, .int .i64 s.f0.f1, .int .u64 s.f0.f2] 46) = wF at *
    generalize hg9 : (⟨wE.heap.size, 0, none⟩ : Addr) = g9 at *
    clear hg9
    refine (PR.lookasidelaw15_first.calls 5000 s.f0.f0 s.f0.f1 s.f0.f2 i true q Av cv L cc true wF HC.out hcL HFN.out).mono ?_
    rintro e wG ⟨rfl, hbG⟩
    have hbG2 := below_step HBF.out hbG
    clear x0 x1 y0 y1 y2 y3 y4 y5 m0 m1 m2
    have x0 := (blk_cell (blk_below HK4E.out hbG2) 0).trans rfl
    have x1 := (blk_cell (blk_below HK4E.out hbG2) 1).trans rfl
    have y0 := (blk_cell (blk_below HK5E.out hbG2) 0).trans rfl
    have y1 := (blk_cell (blk_below HK5E.out hbG2) 1).trans rfl
    have y2 := (blk_cell (blk_below HK5E.out hbG2) 2).trans rfl
    have y3 := (blk_cell (blk_below HK5E.out hbG2) 3).trans rfl
    have y4 := (blk_cell (blk_below HK5E.out hbG2) 4).trans rfl
    have y5 := (blk_cell (blk_below HK5E.out hbG2) 5).trans rfl
    have HCG := Aside0.mk (Kd.C_below HC.out hbG)
    have HBG := Aside0.mk hbG2
    clear hbG hbG2 HBF HC
    go_wp2_with fail
    refine (PR.lookasideref15_First.calls 5000 q Av cv L cc i wG HCG.out hcL HFST.out).mono ?_
    rintro e wH ⟨rfl, hbH⟩
    have hbH2 := below_step HBG.out hbH
    clear x0 x1 y0 y1 y2 y3 y4 y5
    have x0 := (blk_cell (blk_below HK4E.out hbH2) 0).trans rfl
    have x1 := (blk_cell (blk_below HK4E.out hbH2) 1).trans rfl
    have y0 := (blk_cell (blk_below HK5E.out hbH2) 0).trans rfl
    have y1 := (blk_cell (blk_below HK5E.out hbH2) 1).trans rfl
    have y2 := (blk_cell (blk_below HK5E.out hbH2) 2).trans rfl
    have y3 := (blk_cell (blk_below HK5E.out hbH2) 3).trans rfl
    have y4 := (blk_cell (blk_below HK5E.out hbH2) 4).trans rfl
    have y5 := (blk_cell (blk_below HK5E.out hbH2) 5).trans rfl
    have HBH := Aside0.mk hbH2
    have HVH := Aside0.mk (Kd.V_below HVE.out hbH2)
    clear hbH hbH2 HBG HCG
    have hi0 : (0 : Int) ≤ (i : Int) := by omega
    go_wp2_with fail
    refine (PR.lookasideref15_Take.calls 5000 q (fun k => (k ∉ ids B gw vs lv ∧ ¬ X k) ∧ k < w.heap.size) Av cv L cc q (PR.takeL cc L) wH HVH.out HTF.out).mono ?_
    rintro e wI ⟨v1, rfl, hv1, hbI⟩
    obtain ⟨A1, c1, hvv⟩ := Kd.V_slice (Kd.N_V (base' := 0) hv1)
    subst hvv
    have hbI2 := below_step HBH.out hbI
    have hk4I := blk_below HK4E.out hbI2
    have hk6I := blk_below HK6E.out hbI2
    have hcI := H2.out.below hbI2
    have hltI : ∀ k ∈ ids B gw vs2 lv, k < wH.heap.size := fun k hk => Nat.lt_of_lt_of_le (HLTE.out k hk) HBH.out.size
    have hszH : wD.heap.size ≤ wH.heap.size := Nat.le_trans hDE HBH.out.size
    have hnk : ∀ k, (((k ∉ ids B gw vs lv ∧ ¬ X k) ∧ k < w.heap.size) ∨ wH.heap.size ≤ k) → (k ∉ ids B gw vs2 lv ∧ ¬ X k) ∧ k ≠ w.heap.size ∧ k ≠ w.heap.size + 2 := fun k hk => by
      have hwD := hbE0.size
      have hgl := HGL.out
      rcases hk with ⟨⟨a, a2⟩, b⟩ | a
      · refine ⟨⟨fun hm => ?_, a2⟩, by omega, by omega⟩
        rcases HI2.out k hm with h | h
        · exact a h
        · omega
      · exact ⟨⟨fun hm => by have := hltI k hm; omega, fun hx => by have := hgl k hx; omega⟩, by omega, by omega⟩
    have hvI : Kd.V PR.k104 104 wI 0 (fun k => (k ∉ ids B gw vs2 lv ∧ ¬ X k) ∧ k ≠ w.heap.size ∧ k ≠ w.heap.size + 2) (.slice A1 (PR.takeL cc L).length c1) (PR.takeL cc L) := Kd.V_mono (Kd.N_V hv1) hnk
    have hn4 := not_ids hcI hk4I (by decide)
    have hn6 := not_ids hcI hk6I (by decide)
    have hne4 : ∀ k ∈ ids B gw vs2 lv, k ≠ w.heap.size := fun k hk e => hn4 (e ▸ hk)
    have hne6 : ∀ k ∈ ids B gw vs2 lv, k ≠ w.heap.size + 2 := fun k hk e => hn6 (e ▸ hk)
    have hwI : Below w0.heap.size w0 wI := HWE.out.trans (hbI2.mono (Nat.le_trans hb4w (Nat.le_trans hbE0.size hDE)))
    have hln : (PR.takeL cc L).length = L.length := takeL_len _ _
    have hk6' := blk_put (blk_put ((Below.heap_setCell _ ⟨w.heap.size, 1, none⟩ (.slice A1 (PR.takeL cc L).length c1) (w.heap.size + 2) (by simp)).trans ((Below.heap_setCell _ ⟨w.heap.size, 0, none⟩ (.int .i64 q) (w.heap.size + 2) (by simp)).trans hk6I)) 0 (.int .i64 q) rfl) 1 (.slice A1 (PR.takeL cc L).length c1) rfl
    have hst : St ((((wI.setCell ⟨w.heap.size, 0, none⟩ (.int .i64 q)).setCell ⟨w.heap.size, 1, none⟩ (.slice A1 (PR.takeL cc L).length c1)).setCell ⟨w.heap.size + 2, 0, none⟩ (.int .i64 q)).setCell ⟨w.heap.size + 2, 1, none⟩ (.slice A1 (PR.takeL cc L).length c1)) base B gw vs2 lv q (qs.set cc rest) (left.set i ((s.f1.length : Int) - 1)) (PR.takeL cc L) (.slice A1 (PR.takeL cc L).length c1) X :=
      St.of (gl_of hk6' HGL.out) (ok := fun k => (k ∉ ids B gw vs2 lv ∧ ¬ X k) ∧ k ≠ w.heap.size ∧ k ≠ w.heap.size + 2) (hcI.step (fun k hk => (Below.heap_setCell _ _ _ k (hne6 k hk)).trans ((Below.heap_setCell _ _ _ k (hne6 k hk)).trans ((Below.heap_setCell _ _ _ k (hne4 k hk)).trans (Below.heap_setCell _ _ _ k (hne4 k hk)))))) HRL.out
        (Kd.V_far (p := ⟨w.heap.size + 2, 1, none⟩) (Kd.V_far (p := ⟨w.heap.size + 2, 0, none⟩) (Kd.V_far (p := ⟨w.heap.size, 1, none⟩) (Kd.V_far (p := ⟨w.heap.size, 0, none⟩) hvI (fun k hk => hk.2.1) _) (fun k hk => hk.2.1) _) (fun k hk => hk.2.2) _) (fun k hk => hk.2.2) _) (fun k hk => hk.1)
    have hbG' := (((hwI.setCell (p := ⟨w.heap.size, 0, none⟩) hb4w (.int .i64 q)).setCell (p := ⟨w.heap.size, 1, none⟩) hb4w (.slice A1 (PR.takeL cc L).length c1)).setCell (p := ⟨w.heap.size + 2, 0, none⟩) (Nat.le_trans hb4w (Nat.le_add_right _ 2)) (.int .i64 q)).setCell (p := ⟨w.heap.size + 2, 1, none⟩) (Nat.le_trans hb4w (Nat.le_add_right _ 2)) (.slice A1 (PR.takeL cc L).length c1)
    rw [hln] at hst hk6' hbG' ⊢
    have HMV := Aside0.mk (Mv.far (p := ⟨w.heap.size + 2, 1, none⟩) (Mv.far (p := ⟨w.heap.size + 2, 0, none⟩) (Mv.far (p := ⟨w.heap.size, 1, none⟩) (Mv.far (p := ⟨w.heap.size, 0, none⟩) (HMW.out.trans (Mv.of_below (S := CallK.ids B gw vs lv) hbI2) (fun k hk => .inl hk)) (Nat.le_refl _) (.int .i64 q)) (Nat.le_refl _) (.slice A1 L.length c1)) (Nat.le_add_right _ 2) (.int .i64 q)) (Nat.le_add_right _ 2) (.slice A1 L.length c1))
    have HST := Aside0.mk hst
    have HK6' := Aside0.mk hk6'
    have HBG' := Aside0.mk hbG'
    clear x0 x1 y0 y1 y2 y3 y4 y5
    obtain ⟨x0, x1⟩ : wI.cell? ⟨w.heap.size, 0, none⟩ = some (.int .i64 q) ∧ wI.cell? ⟨w.heap.size, 1, none⟩ = some (.slice Av L.length cv) := ⟨(blk_cell hk4I 0).trans rfl, (blk_cell hk4I 1).trans rfl⟩
    obtain ⟨r0, r1⟩ : wI.cell? ⟨w.heap.size + 2, 0, none⟩ = some (.int .i64 0) ∧ wI.cell? ⟨w.heap.size + 2, 1, none⟩ = some (.slice none 0 0) := ⟨(blk_cell hk6I 0).trans rfl, (blk_cell hk6I 1).trans rfl⟩
    have f0 := blk_frozen hk6I
    have f4 := blk_frozen hk4I
    clear hst hk6' hbG' hk4I hk6I hcI hltI hszH hnk hvI hn4 hn6 hne4 hne6 hwI hbI hbI2 HVH HBH HI2 HLTE HK4E HK5E HK6E HVE HWE H2 HRL HTF HFN HFST hv1
    go_wp2_with fail
    refine bodyPost_ret (results_ct rfl _ _ (w.heap.size + 2) 41 #[.int .i64 q, .slice A1 L.length c1] (0, 0) _ rfl HK6'.out Try.underlying41 rfl (by kernel_rfl)) rfl ?_
    refine ⟨A1, c1, PR.takeL cc L, qs.set cc rest, left.set i ((s.f1.length : Int) - 1), vs2, lv, ?_, ?_, HBG'.out, by rw [hln]; omega, HMV.out⟩
    · rw [hln]; rfl
    · rw [hln]; exact HST.out
set_option maxHeartbeats 8000000 in
set_option maxRecDepth 100000 in
theorem does_peek {w0 w : World} {base B gw : Nat} {vs : List Value} {lv : Value} {q : Nat} {qs : List (List Sn)} {left : List Int} {L : List PR.S104} {Av : Option Addr} {cv : Nat} {X : Nat → Prop} (h : St w base B gw vs lv q qs left L (.slice Av L.length cv) X) (hgw : ∀ k, X k → w0.heap.size ≤ k) (hq8 : q ≤ 8) (hL : L.length ≤ 900)
    (kind n kd cx va : Int) (hkn0 : kind ≠ 0) (hkn1 : kind ≠ 1) (A : Option Addr) (c : Nat) (Ts : List Int) (hw0 : Below w0.heap.size w0 w) (hbase : w0.heap.size ≤ base) :
    Calls Try.prog 44 #[.pointer (some ⟨B, 0, none⟩), .agg #[.int .i64 q, .slice Av L.length cv], .agg #[.int .i64 kind, .int .i64 n, .int .i64 kd, .int .i64 cx, .int .u64 va, .slice A Ts.length c]] w (Res w (ids B gw vs lv) w0 base B gw q L.length X) := by
  have hkb0 : (kind == 0) = false := beq_eq_false_iff_ne.2 hkn0
  have hkb1 : (kind == 1) = false := beq_eq_false_iff_ne.2 hkn1
  have hb0 := (((Below.refl w.heap.size w).alloc (Nat.le_refl _) (.cells #[.int .i64 q, .slice Av L.length cv] 41)).alloc (by simp) (.cells #[.int .i64 kind, .int .i64 n, .int .i64 kd, .int .i64 cx, .int .u64 va, .slice A Ts.length c] 83)).alloc (by simp; omega) (.cells #[.int .i64 0, .slice none 0 0] 41)
  have hk4 := blk_alloc (blk_alloc (blk_new w (.cells #[.int .i64 q, .slice Av L.length cv] 41)) (.cells #[.int .i64 kind, .int .i64 n, .int .i64 kd, .int .i64 cx, .int .u64 va, .slice A Ts.length c] 83)) (.cells #[.int .i64 0, .slice none 0 0] 41)
  have hk5 := blk_alloc (blk_new (w.alloc (.cells #[.int .i64 q, .slice Av L.length cv] 41)) (.cells #[.int .i64 kind, .int .i64 n, .int .i64 kd, .int .i64 cx, .int .u64 va, .slice A Ts.length c] 83)) (.cells #[.int .i64 0, .slice none 0 0] 41)
  have hk6 := blk_new ((w.alloc (.cells #[.int .i64 q, .slice Av L.length cv] 41)).alloc (.cells #[.int .i64 kind, .int .i64 n, .int .i64 kd, .int .i64 cx, .int .u64 va, .slice A Ts.length c] 83)) (.cells #[.int .i64 0, .slice none 0 0] 41)
  have hsz : (w.alloc (.cells #[.int .i64 q, .slice Av L.length cv] 41)).heap.size = w.heap.size + 1 := by simp
  have hsz2 : ((w.alloc (.cells #[.int .i64 q, .slice Av L.length cv] 41)).alloc (.cells #[.int .i64 kind, .int .i64 n, .int .i64 kd, .int .i64 cx, .int .u64 va, .slice A Ts.length c] 83)).heap.size = w.heap.size + 2 := by simp
  rw [hsz] at hk5
  rw [hsz2] at hk6
  go_enter Try.func44, Try.ntmps44
  go_wp2_with fail
  have HS := Aside0.mk h
  have HGL := Aside0.mk h.gl
  have HW0 := Aside0.mk hw0
  have HBD := Aside0.mk hb0
  have HLT := Aside0.mk (CA_ids_lt h.ca)
  have HGE := Aside0.mk (ids_ge h.ca)
  clear h hw0 hb0 hsz hsz2
  generalize ((w.alloc (.cells #[.int .i64 q, .slice Av L.length cv] 41)).alloc (.cells #[.int .i64 kind, .int .i64 n, .int .i64 kd, .int .i64 cx, .int .u64 va, .slice A Ts.length c] 83)).alloc (.cells #[.int .i64 0, .slice none 0 0] 41) = wD at *
  have HK4 := Aside0.mk hk4
  have HK5 := Aside0.mk hk5
  have HK6 := Aside0.mk hk6
  have x0 := (blk_cell hk4 0).trans rfl
  have x1 := (blk_cell hk4 1).trans rfl
  have y0 := (blk_cell hk5 0).trans rfl
  have y1 := (blk_cell hk5 1).trans rfl
  have y2 := (blk_cell hk5 2).trans rfl
  have y3 := (blk_cell hk5 3).trans rfl
  have y4 := (blk_cell hk5 4).trans rfl
  have y5 := (blk_cell hk5 5).trans rfl
  clear hk4 hk5 hk6
  have hVD : Kd.V PR.k104 104 wD 0 (fun k => (k ∉ ids B gw vs lv ∧ ¬ X k) ∧ k < w.heap.size) (.slice Av L.length cv) L := Kd.V_below (Kd.V_bound HS.out.rv) HBD.out
  have HVD := Aside0.mk hVD
  have HCD := Aside0.mk (HS.out.ca.below HBD.out)
  clear hVD
  have hb4w : w0.heap.size ≤ w.heap.size := HW0.out.size
  have hpk : ∃ (m0 m1 m2 i : Int) (b : Bool), PR.lookasidelaw15_first.f 5000 m0 m1 m2 i b q L n = some true ∧ ∀ w', CA w' base B gw vs lv qs left → Calls Try.prog 29 #[.pointer (some ⟨B, 0, none⟩), .int .i64 n] w' fun e w'' => e = .returned (.tuple #[.agg #[.int .i64 m0, .int .i64 m1, .int .u64 m2], .int .i64 i, .bool b]) ∧ Below w'.heap.size w' w'' := by
    by_cases hnr : 0 ≤ n ∧ n < (q : Int)
    · obtain ⟨cc, rfl⟩ : ∃ cc : Nat, n = cc := ⟨n.toNat, by omega⟩
      rcases HS.out.rel.take cc (by omega) with ⟨h1, h2⟩ | ⟨s, i, rest, hf, hLi, hqc, hli, h1, h10, hok, hrel⟩
      · exact ⟨0, 0, 0, 0, false, first_none q cc L (by omega) HS.out.rel.short h2, fun w' hc => peek_none hc cc h1⟩
      · exact ⟨s.f0.f0, s.f0.f1, s.f0.f2, i, true, first_some q cc L (by omega) HS.out.rel.short i s hf hLi, fun w' hc => peek_some hc cc s.f0.f0 s.f0.f1 s.f0.f2 i rest hqc hok⟩
    · have := HS.out.rel.none hnr
      exact ⟨0, 0, 0, 0, false, first_none q n L (by omega) HS.out.rel.short this.2, fun w' hc => peek_none hc n (by rw [HS.out.rel.waits, this.1]; rfl)⟩
  obtain ⟨p0, p1, p2, pi, pb, hfn, hpk⟩ := hpk
  have HFN := Aside0.mk hfn
  refine (hpk wD HCD.out).mono ?_
  clear hpk hfn
  rintro e wE ⟨rfl, hbE⟩
  have hbF := hbE.alloc hbE.size (.cells #[.int .i64 p0, .int .i64 p1, .int .u64 p2] 46)
  have hkF := blk_new wE (.cells #[.int .i64 p0, .int .i64 p1, .int .u64 p2] 46)
  have x0 := (blk_cell (blk_below HK4.out hbF) 0).trans rfl
  have x1 := (blk_cell (blk_below HK4.out hbF) 1).trans rfl
  have y0 := (blk_cell (blk_below HK5.out hbF) 0).trans rfl
  have y1 := (blk_cell (blk_below HK5.out hbF) 1).trans rfl
  have y2 := (blk_cell (blk_below HK5.out hbF) 2).trans rfl
  have y3 := (blk_cell (blk_below HK5.out hbF) 3).trans rfl
  have y4 := (blk_cell (blk_below HK5.out hbF) 4).trans rfl
  have y5 := (blk_cell (blk_below HK5.out hbF) 5).trans rfl
  obtain ⟨m0, m1, m2⟩ : (wE.alloc (.cells #[.int .i64 p0, .int .i64 p1, .int .u64 p2] 46)).cell? ⟨wE.heap.size, 0, none⟩ = some (.int .i64 p0) ∧ (wE.alloc (.cells #[.int .i64 p0, .int .i64 p1, .int .u64 p2] 46)).cell? ⟨wE.heap.size, 1, none⟩ = some (.int .i64 p1) ∧ (wE.alloc (.cells #[.int .i64 p0, .int .i64 p1, .int .u64 p2] 46)).cell? ⟨wE.heap.size, 2, none⟩ = some (.int .u64 p2) := ⟨(blk_cell hkF 0).trans rfl, (blk_cell hkF 1).trans rfl, (blk_cell hkF 2).trans rfl⟩
  have HBF := Aside0.mk hbF
  obtain ⟨_, hcL, hC⟩ := Kd.V_reads' (Kd.V_below HVD.out hbF)
  have HC := Aside0.mk hC
  have hk6F := blk_below HK6.out hbF
  obtain ⟨r0, r1⟩ : (wE.alloc (.cells #[.int .i64 p0, .int .i64 p1, .int .u64 p2] 46)).cell? ⟨w.heap.size + 2, 0, none⟩ = some (.int .i64 0) ∧ (wE.alloc (.cells #[.int .i64 p0, .int .i64 p1, .int .u64 p2] 46)).cell? ⟨w.heap.size + 2, 1, none⟩ = some (.slice none 0 0) := ⟨(blk_cell hk6F 0).trans rfl, (blk_cell hk6F 1).trans rfl⟩
  have HK6F := Aside0.mk hk6F
  clear hbE hbF hkF hC hk6F
  go_wp2_with fail
  generalize wE.alloc (.cells #[.int .i64 p0, .int .i64 p1, .int .u64 p2] 46) = wF at *
  generalize wE.heap.size = g9 at *
  refine start_ (n := 10) (S := fun w' => w'.cell? ⟨w.heap.size, 0, none⟩ = some (.int .i64 q) ∧ w'.cell? ⟨w.heap.size, 1, none⟩ = some (.slice Av L.length cv) ∧ w'.cell? ⟨w.heap.size + 1, 1, none⟩ = some (.int .i64 n) ∧ w'.cell? ⟨g9, 0, none⟩ = some (.int .i64 p0) ∧ w'.cell? ⟨g9, 1, none⟩ = some (.int .i64 p1) ∧ w'.cell? ⟨g9, 2, none⟩ = some (.int .u64 p2) ∧ w'.cell? ⟨w.heap.size + 2, 0, none⟩ = some (.int .i64 0) ∧ w'.cell? ⟨w.heap.size + 2, 1, none⟩ = some (.slice none 0 0)) (ds := [8]) #[false, false, false, false, false, false, false, false, false, false] (by kernel_rfl) rfl rfl ⟨x0, x1, y1, m0, m1, m2, r0, r1⟩ (fun hHeld => ?_)
  refine pure_ (i := 2) (N := some 104) (v := ?_) (a' := ?_) #[false, false, true, false, false, false, false, false, false, false] rfl rfl (by kernel_rfl) (fun _ _ _ h => h) (Or.inl ⟨by rfl, ?_⟩) ?_ ?_
  rotate_left
  · intro w'
    go_simp
    with_reducible rfl
  rotate_left
  · simp only [Act.put, List.setIfInBounds_toArray, List.set_cons_zero, List.set_cons_succ, i64_w, i32_w]
    rfl
  refine pure_ (i := 3) (N := some 105) (v := ?_) (a' := ?_) #[false, false, true, true, false, false, false, false, false, false] rfl rfl (by kernel_rfl) (fun _ _ _ h => h) (Or.inl ⟨by rfl, ?_⟩) ?_ ?_
  rotate_left
  · intro w'
    go_simp
    with_reducible rfl
  rotate_left
  · simp only [Act.put, List.setIfInBounds_toArray, List.set_cons_zero, List.set_cons_succ, i64_w, i32_w]
    rfl
  refine pure_ (i := 5) (N := some 107) (v := ?_) (a' := ?_) #[false, false, true, true, false, true, false, false, false, false] rfl rfl (by kernel_rfl) (fun _ _ _ h => h) (Or.inl ⟨by rfl, ?_⟩) ?_ ?_
  rotate_left
  · intro w'
    go_simp
    with_reducible rfl
  rotate_left
  · simp only [Act.put, List.setIfInBounds_toArray, List.set_cons_zero, List.set_cons_succ, i64_w, i32_w]
    rfl
  refine take_ (i := 0) (N := some 102) (v := ?_) (a' := ?_) #[true, false, true, true, false, true, false, false, false, false] rfl rfl (by kernel_rfl) (fun _ _ _ h => h) (Or.inl ⟨by rfl, ?_⟩) hHeld ?_ ?_
  rotate_left
  · rintro w' ⟨s0, s1, s2, s3, s4, s5, s6, s7⟩
    go_simp
    with_reducible rfl
  rotate_left
  · simp only [Act.put, List.setIfInBounds_toArray, List.set_cons_zero, List.set_cons_succ, i64_w, i32_w]
    rfl
  refine take_ (i := 1) (N := some 103) (v := ?_) (a' := ?_) #[true, true, true, true, false, true, false, false, false, false] rfl rfl (by kernel_rfl) (fun _ _ _ h => h) (Or.inl ⟨by rfl, ?_⟩) hHeld ?_ ?_
  rotate_left
  · rintro w' ⟨s0, s1, s2, s3, s4, s5, s6, s7⟩
    go_simp
    with_reducible rfl
  rotate_left
  · simp only [Act.put, List.setIfInBounds_toArray, List.set_cons_zero, List.set_cons_succ, i64_w, i32_w]
    rfl
  refine take_ (i := 4) (N := some 106) (v := ?_) (a' := ?_) #[true, true, true, true, true, true, false, false, false, false] rfl rfl (by kernel_rfl) (fun _ _ _ h => h) (Or.inl ⟨by rfl, ?_⟩) hHeld ?_ ?_
  rotate_left
  · rintro w' ⟨s0, s1, s2, s3, s4, s5, s6, s7⟩
    go_simp
    with_reducible rfl
  rotate_left
  · simp only [Act.put, List.setIfInBounds_toArray, List.set_cons_zero, List.set_cons_succ, i64_w, i32_w]
    rfl
  refine take_ (i := 6) (N := some 108) (v := ?_) (a' := ?_) #[true, true, true, true, true, true, true, false, false, false] rfl rfl (by kernel_rfl) (fun _ _ _ h => h) (Or.inl ⟨by rfl, ?_⟩) hHeld ?_ ?_
  rotate_left
  · rintro w' ⟨s0, s1, s2, s3, s4, s5, s6, s7⟩
    go_simp
    with_reducible rfl
  rotate_left
  · simp only [Act.put, List.setIfInBounds_toArray, List.set_cons_zero, List.set_cons_succ, i64_w, i32_w]
    rfl
  refine one_ (i := 7) (N := some 109) #[true, true, true, true, true, true, true, true, false, false] rfl rfl (by kernel_rfl) (by decide) (fun K hK => ?_)
  refine goes_ Try.func75 (by kernel_rfl) rfl #[.agg #[.int .i64 p0, .int .i64 p1, .int .u64 p2], .int .i64 pi, .bool pb, .agg #[.int .i64 q, .slice Av L.length cv], .int .i64 n] (by rfl) rfl rfl (by (try simp only [List.map_toArray, List.map_cons, List.map_nil]); first | done | rfl) ?_
  refine (PR.lookasidelaw15_first.calls 5000 p0 p1 p2 pi pb q Av cv L n true wF.drew (Kd.C_below HC.out (Below.refl _ wF).drew) hcL HFN.out).mono ?_
  rintro e wG ⟨rfl, hbG⟩
  refine ⟨_, rfl, ?_⟩
  obtain ⟨s0, s1, s2, s3, s4, s5, s6, s7⟩ := hHeld
  refine hK.out _ _ ⟨(hbG.cell (World.block_lt_of_cell? _ _ s0)).trans s0, (hbG.cell (World.block_lt_of_cell? _ _ s1)).trans s1, (hbG.cell (World.block_lt_of_cell? _ _ s2)).trans s2, (hbG.cell (World.block_lt_of_cell? _ _ s3)).trans s3, (hbG.cell (World.block_lt_of_cell? _ _ s4)).trans s4, (hbG.cell (World.block_lt_of_cell? _ _ s5)).trans s5, (hbG.cell (World.block_lt_of_cell? _ _ s6)).trans s6, (hbG.cell (World.block_lt_of_cell? _ _ s7)).trans s7⟩ (fun hHeld => ?_)
  clear hK K
  refine norm_ (a' := ?_) ?_ ?_
  rotate_left
  · show Act.put _ (some 109) _ = _
    simp only [Act.put, List.setIfInBounds_toArray, List.set_cons_zero, List.set_cons_succ, i64_w, i32_w]
    rfl
  refine last_ (i := 8) (N := none) #[true, true, true, true, true, true, true, true, true, false] rfl rfl (by kernel_rfl) (by decide) (fun K hK => ?_)
  obtain ⟨s0, s1, s2, s3, s4, s5, s6, s7⟩ := hHeld
  have hk6G := blk_below HK6F.out ((Below.refl _ wF).drew.trans hbG)
  have f0 := blk_frozen hk6G
  refine skip_ (w1 := ?_) (by rfl) rfl ?_ ?_
  rotate_left
  · go_simp
    with_reducible rfl
  refine hK.out _ _ ?_
  clear hK K
  refine pure_ (i := 9) (N := some 7) (v := ?_) (a' := ?_) #[true, true, true, true, true, true, true, true, true, true] rfl rfl (by kernel_rfl) (fun _ _ _ h => h) (Or.inl ⟨by rfl, ?_⟩) ?_ ?_
  rotate_left
  · intro w'
    go_simp
    with_reducible rfl
  rotate_left
  · simp only [Act.put, List.setIfInBounds_toArray, List.set_cons_zero, List.set_cons_succ, i64_w, i32_w]
    rfl
  refine done_ (by kernel_rfl) ?_
  have hbF := HBF.out
  have hbG2 : Below wD.heap.size wD wG := below_step hbF ((Below.refl _ wF).drew.trans hbG)
  have hk6 := blk_below HK6.out hbG2
  have hcH := HCD.out.below hbG2
  have hvH := Kd.V_below HVD.out hbG2
  have hn6 := not_ids hcH hk6 (by decide)
  have hwH := HW0.out.trans ((below_step HBD.out hbG2).mono hb4w)
  have hk6' := blk_put (blk_put hk6 0 (.int .i64 q) rfl) 1 (.slice Av L.length cv) rfl
  have hst : St ((wG.setCell ⟨w.heap.size + 2, 0, none⟩ (.int .i64 q)).setCell ⟨w.heap.size + 2, 1, none⟩ (.slice Av L.length cv)) base B gw vs lv q qs left L (.slice Av L.length cv) X :=
    St.of (gl_of hk6' HGL.out) (ok := fun k => (k ∉ ids B gw vs lv ∧ ¬ X k) ∧ k < w.heap.size) (hcH.step (fun k hk => (Below.heap_setCell _ _ _ k (fun e => hn6 (by have e2 : k = w.heap.size + 2 := e; rw [← e2]; exact hk))).trans (Below.heap_setCell _ _ _ k (fun e => hn6 (by have e2 : k = w.heap.size + 2 := e; rw [← e2]; exact hk))))) HS.out.rel
      (Kd.V_far (p := ⟨w.heap.size + 2, 1, none⟩) (Kd.V_far (p := ⟨w.heap.size + 2, 0, none⟩) hvH (fun k hk => Nat.ne_of_lt (Nat.lt_add_right 2 hk.2)) _) (fun k hk => Nat.ne_of_lt (Nat.lt_add_right 2 hk.2)) _) (fun k hk => hk.1)
  have hbG' := (hwH.setCell (p := ⟨w.heap.size + 2, 0, none⟩) (Nat.le_trans hb4w (Nat.le_add_right _ 2)) (.int .i64 q)).setCell (p := ⟨w.heap.size + 2, 1, none⟩) (Nat.le_trans hb4w (Nat.le_add_right _ 2)) (.slice Av L.length cv)
  have HMV := Aside0.mk (Mv.far (p := ⟨w.heap.size + 2, 1, none⟩) (Mv.far (p := ⟨w.heap.size + 2, 0, none⟩) (Mv.of_below (S := CallK.ids B gw vs lv) (below_step HBD.out hbG2)) (Nat.le_add_right _ 2) (.int .i64 q)) (Nat.le_add_right _ 2) (.slice Av L.length cv))
  have HST := Aside0.mk hst
  have HK6' := Aside0.mk hk6'
  have HBG' := Aside0.mk hbG'
  clear hst hk6' hbG' hk6 hcH hvH hn6 hwH hbG2 hbF
  (try simp only [Exit.inBlock, Exit.then])
  go_wp2
  refine bodyPost_ret (results_ct rfl _ _ (w.heap.size + 2) 41 #[.int .i64 q, .slice Av L.length cv] (0, 0) _ rfl HK6'.out Try.underlying41 rfl (by kernel_rfl)) rfl ?_
  exact ⟨Av, cv, L, qs, left, vs, lv, rfl, HST.out, HBG'.out, by omega, HMV.out⟩

end Go.Proofs.Ytgmdlndiilibpaa.PC
