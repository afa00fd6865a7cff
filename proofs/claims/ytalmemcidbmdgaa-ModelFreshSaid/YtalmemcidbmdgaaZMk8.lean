/- The law ModelFresh of layer 16: its row (written by mkrow.py: the parameters opened by hand). -/
import Derived.Test.YtalmemcidbmdgaaZMk7
import Derived.Lib.SmallJoins
import Derived.Test.YtalmemcidbmdgaaRows
import Derived.WalkKit
import Derived.ProofKit
import Derived.OpenShut
import Derived.ShutString
import Derived.ChangeOld
import Derived.Below
import Derived.SizedLaws
import Derived.Carry
/- The law ModelFresh (layer 16): the walk. -/
set_option linter.unusedVariables false
set_option linter.unusedSimpArgs false
namespace Go.Proofs.Ytalmemcidbmdgaa.PM
open Go.RowKit Go.Proofs.YtalmemcidbmdgaaW.PrintWords Go.Proofs.YtalmemcidbmdgaaW.PrintLast Go.Proofs.YtalmemcidbmdgaaW.PrintMore Go.Proofs.Ytalmemcidbmdgaa.PageG
attribute [local go_sem] max2_int min2_int max_two min_two max_three min_three max_four min_four   -- for this text's walks alone
theorem map_no {s : MS} (hn : s.n = 3) {sp : Int} (hs : 0 ≤ sp ∧ sp < 3) {va z : Nat} (hz : z < 4) {a : Atr} (ha : a.f4 = false) (hm : (sel sp s.L).any (meetB (⟨((bs (vaS va) z : Nat) : Int), (z : Int), s.made, a, false, false⟩ : Pg)) = true) :
    doR s (opM sp (bs (vaS va) z) z a) = ((9, 0, 0), s) := by
  have hp : putS s sp (mapP s (opM sp (bs (vaS va) z) z a)) = (9, s) := by
    unfold putS
    rw [if_neg (by
      show ¬ holeB ((bs (vaS va) z : Nat) : Int).toNat = true
      rw [Int.toNat_natCast]
      have := in_hole (vaS va) z 0 hz (Nat.two_pow_pos _)
      rw [Nat.add_zero, hole_vaS] at this
      rw [this]; simp), if_neg (by
      show ¬ startsB ((bs (vaS va) z : Nat) : Int) (z : Int) = false
      rw [starts_bs _ z hz]; simp), if_pos (show (sel sp s.L).any (meetB (mapP s (opM sp (bs (vaS va) z) z a))) = true from hm)]
  have e := newsD_eq s (opM sp (bs (vaS va) z) z a) (.inl rfl)
  rw [← e, newsD_map (o := opM sp (bs (vaS va) z) z a) rfl ⟨isAll_z hn hs, ha⟩ ⟨by show (0 : Int) ≤ (z : Int); omega, by show (z : Int) < 4; omega⟩ hp, if_neg (by decide)]
/-- Behind a map that was done: the page, its bytes. -/
structure FrI (s2 : MS) (y : Ent) (vv : Nat) (gv z : Nat) (md : Int) (a : Atr) : Prop where
  ye : y = ⟨2, ⟨(gv : Int), (z : Int), md, a, false, false⟩⟩
  m : y ∈ s2.L
  h : hit 2 vv y = true
  b : getB s2.by_ md ((offN y vv : Nat) : Int) = 0
  w : winN s2.L md = 1
  one : ∀ p ∈ pagesS s2 2, p.f0 = (gv : Int) → p = y.f1
  has : y.f1 ∈ pagesS s2 2
theorem fresh_all {s : MS} {k : Nat} (hw : WfK k s) (hk : k < 900) (hn : s.n = 3) {va z r : Nat} (hz : z < 4) (hr : r < 2 ^ (13 + 3 * z)) {a : Atr} (ha : a.f4 = false) (hm : (sel 2 s.L).any (meetB (⟨((bs (vaS va) z : Nat) : Int), (z : Int), s.made, a, false, false⟩ : Pg)) = false) :
    ∃ y, FrI (mapT s 2 (bs (vaS va) z) z a) y (bs (vaS va) z + r) (bs (vaS va) z) z s.made a := by
  have hmd := map_do hn (sp := 2) ⟨by decide, by decide⟩ hz ha hm
  have hbl : bs (vaS va) z < 2 ^ 64 := Nat.lt_of_le_of_lt (bs_le _ _) (vaS_lt va)
  have hw2 := hw.step (by omega) _ (opM_ok (sp := 2) (v := bs (vaS va) z) (a := a) ⟨by decide, by decide⟩ hbl hz)
  rw [hmd] at hw2
  obtain ⟨y, hy⟩ : ∃ y : Ent, (⟨2, ⟨((bs (vaS va) z : Nat) : Int), (z : Int), s.made, a, false, false⟩⟩ : Ent) = y := ⟨_, rfl⟩
  have hL : (mapT s 2 (bs (vaS va) z) z a).L = s.L ++ [y] := by rw [← hy]; rfl
  have hym : y ∈ (mapT s 2 (bs (vaS va) z) z a).L := by rw [hL]; simp
  have hyi : (mapT s 2 (bs (vaS va) z) z a).L[s.L.length]? = some y := by rw [hL]; simp
  have hst : bs (bs (vaS va) z) z = bs (vaS va) z := by have := in_bs (vaS va) z 0 hz (Nat.two_pow_pos _); rwa [Nat.add_zero] at this
  have hhy : ∀ r, r < 2 ^ (13 + 3 * z) → hit 2 (bs (vaS va) z + r) y = true := fun r hr => by
    rw [← hy, hit_iff]
    refine ⟨rfl, ?_⟩
    show bs (bs (vaS va) z + r) ((z : Int)).toNat = ((bs (vaS va) z : Nat) : Int).toNat
    rw [Int.toNat_natCast, Int.toNat_natCast]
    exact in_bs _ z r hz hr
  have hsel : y.f1 ∈ sel 2 (mapT s 2 (bs (vaS va) z) z a).L := by
    unfold sel
    exact List.mem_map.2 ⟨y, List.mem_filter.2 ⟨hym, by rw [← hy]; rfl⟩, rfl⟩
  refine ⟨y, hy.symm, hym, hhy r hr, ?_, ?_, fun p hp e => ?_, ?_⟩
  · show getB s.by_ s.made _ = 0
    unfold getB
    have : s.by_.find? (fun b => b.f0 == s.made && b.f1 == ((offN y (bs (vaS va) z + r) : Nat) : Int)) = none := by
      rw [List.find?_eq_none]
      intro b hb hc
      have h1 := (hw.bok b hb).2.1
      simp at hc
      omega
    rw [this]
  · rw [hL]
    unfold winN
    rw [List.countP_append]
    have h1 : s.L.countP (fun x => x.f1.f2 == s.made) = 0 := by
      rw [List.countP_eq_zero]
      intro x hx hc
      have := hw.pa x hx
      simp at hc
      omega
    rw [h1, ← hy]
    simp
  · have hp2 := (pagesS_perm _ 2).mem_iff.1 hp
    unfold sel at hp2
    obtain ⟨x, hx, hxp⟩ := List.mem_map.1 hp2
    obtain ⟨hx1, hx2⟩ := List.mem_filter.1 hx
    obtain ⟨ix, hi, hie⟩ := List.mem_iff_getElem.1 hx1
    have hxi : (mapT s 2 (bs (vaS va) z) z a).L[ix]? = some x := by rw [List.getElem?_eq_getElem hi, hie]
    have hok := hw2.wl.ok x hx1
    have hv : vaN x = bs (vaS va) z := by unfold vaN; rw [hxp, e]; exact Int.toNat_natCast _
    have h1 : hit 2 (vaN x) x = true := hit_iff.2 ⟨by simpa using hx2, hok.st⟩
    have h2 : hit 2 (vaN x) y = true := by
      have := hhy 0 (Nat.two_pow_pos _)
      rw [Nat.add_zero] at this
      rw [hv]; exact this
    have e2 := hw2.wl.one hxi hyi (hit_meets h1 h2)
    rw [e2] at hxi
    rw [hyi] at hxi
    cases hxi
    exact hxp.symm
  · exact (pagesS_perm _ 2).mem_iff.2 hsel
theorem any_snoc {l : List Pg} {j : Nat} (h : j < l.length) (f : Pg → Bool) : (l.take (j + 1)).any f = ((l.take j).any f || f l[j]) := by
  rw [List.take_succ_eq_append_getElem h, List.any_append]
  simp
section
variable {w : World}
set_option maxHeartbeats 8000000 in
set_option maxRecDepth 100000 in
theorem fresh_law (A : Option Addr) (c : Nat) (xs : List AskS) (hr : OpenR.Row 19 encA GoodA w A xs) (p : Pg) (hpv : 0 ≤ p.f0 ∧ p.f0 < 2 ^ 64) (hps : W64 p.f1) (hpp : 0 ≤ p.f2 ∧ p.f2 < 2 ^ 64) (off0 : Int) (hoff0 : (Lit.int .u64 off0).wf = true) :
    Calls Try.prog 4 #[.slice A xs.length c, .agg #[.int .u64 p.f0, .int .i64 p.f1, .int .u64 p.f2, .bool p.f3.f0, .bool p.f3.f1, .bool p.f3.f2, .bool p.f3.f3, .bool p.f3.f4, .bool p.f3.f5, .bool p.f4, .bool p.f5], .int .u64 off0] w fun e w' => e = .returned (.bool true) ∧ Below w.heap.size w w' := by
  obtain ⟨va, hva, hva1⟩ : ∃ va : Nat, p.f0 = (va : Int) ∧ va < 2 ^ 64 := ⟨p.f0.toNat, by omega, by omega⟩
  obtain ⟨pa, hpa⟩ : ∃ pa : Nat, p.f2 = (pa : Int) := ⟨p.f2.toNat, by omega⟩
  obtain ⟨off, hoff, hoff1⟩ : ∃ o : Nat, off0 = (o : Int) ∧ o < 2 ^ 64 := ⟨off0.toNat, by have := wfu64 hoff0; omega, by have := wfu64 hoff0; omega⟩
  subst hoff
  obtain ⟨zq, hzq, hzq1⟩ := nnI_nat hps
  obtain ⟨z, hz⟩ : ∃ z, zq % 4 = z := ⟨_, rfl⟩
  obtain ⟨gp, hgd⟩ := good12_ex p va pa zq z hva hva1 hpa hps hzq hz
  have hz4 : z < 4 := by omega
  obtain ⟨M, hM⟩ : ∃ M : Nat, 2 ^ (13 + 3 * z) = M := ⟨_, rfl⟩
  have hby := bytes_r2 z hz4
  rw [hM] at hby
  obtain ⟨r, hrr⟩ : ∃ r, off % M = r := ⟨_, rfl⟩
  have hM0 : 0 < M := by rw [← hM]; exact Nat.two_pow_pos _
  have hrl : r < 2 ^ (13 + 3 * z) := by rw [← hrr, hM]; exact Nat.mod_lt _ hM0
  obtain ⟨gv, hgv⟩ : ∃ v, bs (vaS va) z = v := ⟨_, rfl⟩
  obtain ⟨vv, hvv⟩ : ∃ vv, gv + r = vv := ⟨_, rfl⟩
  have HGV := Aside0.mk hgv
  simp only [hgv] at hgd
  have HGD := Aside0.mk hgd
  have HZ4 := Aside0.mk hz4
  have HRR := Aside0.mk hrr
  have HRL := Aside0.mk hrl
  have HM0 := Aside0.mk (show ¬ M = 0 by omega)
  have HVV := Aside0.mk hvv
  have HVL := Aside0.mk (show vv < 2 ^ 64 by rw [← hvv, ← hgv]; exact in_lt _ z r (vaS_lt va) hz4 hrl)
  have HBL := Aside0.mk (show gv < 2 ^ 64 by rw [← hgv]; exact Nat.lt_of_le_of_lt (bs_le _ _) (vaS_lt va))
  have HBYT := Aside0.mk hby
  have hr1 := row_below hr ((Below.refl _ w).alloc (Nat.le_refl _) (.cells #[.int .u64 p.f0, .int .i64 p.f1, .int .u64 p.f2, .bool p.f3.f0, .bool p.f3.f1, .bool p.f3.f2, .bool p.f3.f3, .bool p.f3.f4, .bool p.f3.f5, .bool p.f4, .bool p.f5] 50))
  have H0 := Aside0.mk ((Below.refl _ w).alloc (Nat.le_refl _) (.cells #[.int .u64 p.f0, .int .i64 p.f1, .int .u64 p.f2, .bool p.f3.f0, .bool p.f3.f1, .bool p.f3.f2, .bool p.f3.f3, .bool p.f3.f4, .bool p.f3.f5, .bool p.f4, .bool p.f5] 50))
  have HPB := Aside0.mk (blk_new w (.cells #[.int .u64 p.f0, .int .i64 p.f1, .int .u64 p.f2, .bool p.f3.f0, .bool p.f3.f1, .bool p.f3.f2, .bool p.f3.f3, .bool p.f3.f4, .bool p.f3.f5, .bool p.f4, .bool p.f5] 50))
  have HROW := Aside0.mk hr1
  clear hr hpv hps hpp hoff0 hgd hz4 hrr hrl hvv hr1 hz hzq hva hpa hM hby hM0 hgv
  go_enter Try.func4, Try.ntmps4
  go_upto_region 1 with fail
  generalize w.alloc (.cells #[.int .u64 p.f0, .int .i64 p.f1, .int .u64 p.f2, .bool p.f3.f0, .bool p.f3.f1, .bool p.f3.f2, .bool p.f3.f3, .bool p.f3.f4, .bool p.f3.f5, .bool p.f4, .bool p.f5] 50) = w0 at *
  obtain ⟨D, hDW⟩ : ∃ D, w.heap.size = D := ⟨_, rfl⟩
  have HDW := Aside0.mk hDW
  rw [hDW] at H0 HPB ⊢
  clear hDW
  go_wp2_with fail
  refine (new_calls w0 3 3 (by decide)).mono ?_
  rintro e w1 ⟨B, pm, bm, rfl, hm, hb, hge⟩
  have HM := Aside0.mk hm
  have HGE := Aside0.mk hge
  have HB := Aside0.mk hb
  clear hm hb hge
  go_wp2_with fail
  refine (lookasideref16_New.calls 3 3 [] [] 0 w1 rfl).mono ?_
  rintro e w2 ⟨v1, v2, rfl, hr1, hr2, hb⟩
  obtain ⟨A1, c1, rfl⟩ := Kd.R_slice hr1
  obtain ⟨A2, c2, rfl⟩ := Kd.R_slice hr2
  have HLP := Aside0.mk (LpI.start A1 c1 A2 c2 HM.out HGE.out HB.out hb)
  clear hr1 hr2 hb HM HGE HB
  go_upto_block 0 with fail
  generalize w2.alloc (.cells #[.int .i64 3, .slice A1 0 c1, .slice A2 0 c2, .int .i64 0] 29) = w3 at *
  generalize w2.heap.size = g at *
  go_cut [] (fun wx => ∃ (i : Nat) (s : MS) (A1 : Option Addr) (c1 : Nat) (A2 : Option Addr) (c2 : Nat), i ≤ 20 ∧ LpI w0 wx B pm bm g i s A1 c1 A2 c2)
  case first =>
    go_wp2_with fail
    go_loopg [9] (min xs.length 20) (fun kq iv W => ∃ (i : Nat) (s : MS) (A1 : Option Addr) (c1 : Nat) (A2 : Option Addr) (c2 : Nat), iv = .int .i64 (i : Int) ∧ i + kq = min xs.length 20 ∧ Aside0 (LpI w0 W B pm bm g i s A1 c1 A2 c2))
    case atStart => exact ⟨0, ⟨3, [], [], 0⟩, A1, c1, A2, c2, rfl, by omega, HLP⟩
    case round =>
      clear HLP
      obtain ⟨i, s, A1, c1, A2, c2, rfl, hik, HL⟩ := hrel
      have hi60 : i ≤ 20 := by omega
      by_cases hlt : i < min xs.length 20
      · have hl1 : i < xs.length := by omega
        have hl2 : i < 20 := by omega
        have hd1 : decide ((i : Int) < (xs.length : Int)) = true := decide_eq_true (by omega)
        have hd2 : decide ((i : Int) < 20) = true := decide_eq_true (by omega)
        obtain ⟨ad, hA, hat⟩ := HROW.out.at_ i hl1
        subst hA
        have hag := HROW.out.good _ (List.getElem_mem hl1)
        generalize xs[i] = a at hat hag
        have HAG := Aside0.mk hag
        have HAT := Aside0.mk (show ∀ (j : Nat) u, (encA a)[j]? = some u → wr.cell? (ad.add (i * 19 + j)) = some u from fun j u hu => (HL.out.lo.cell (World.block_lt_of_cell? _ _ (hat j u hu))).trans (hat j u hu))
        unfold encA at HAT
        have HW := Aside0.mk HL.out.wf
        have HDX := Aside0.mk HL.out.dx
        have HBX := Aside0.mk HL.out.bx
        clear hat hag
        go_upto_region 8 with fail
        clear hd1 hd2
        refine start_ (n := 8) (S := fun w' => Below wr.heap.size wr w') (ds := [7]) #[false, false, false, false, false, false, false, false] (by kernel_rfl) rfl rfl (by exact (Below.refl _ _).drew) (fun hHeld => ?_)
        refine pure_ (i := 1) (N := some 35) (v := ?_) (a' := ?_) #[false, true, false, false, false, false, false, false] rfl rfl (by kernel_rfl) (fun _ _ _ h => h) (Or.inl ⟨by rfl, ?_⟩) ?_ ?_
        rotate_left
        · intro w'
          go_simp
          with_reducible rfl
        rotate_left
        · simp only [Act.put, List.setIfInBounds_toArray, List.set_cons_zero, List.set_cons_succ, i64_w, i32_w]
          rfl
        refine pure_ (i := 2) (N := some 36) (v := ?_) (a' := ?_) #[false, true, true, false, false, false, false, false] rfl rfl (by kernel_rfl) (fun _ _ _ h => h) (Or.inl ⟨by rfl, ?_⟩) ?_ ?_
        rotate_left
        · intro w'
          go_simp
          with_reducible rfl
        rotate_left
        · simp only [Act.put, List.setIfInBounds_toArray, List.set_cons_zero, List.set_cons_succ, i64_w, i32_w]
          rfl
        refine pure_ (i := 3) (N := some 37) (v := ?_) (a' := ?_) #[false, true, true, true, false, false, false, false] rfl rfl (by kernel_rfl) (fun _ _ _ h => h) (Or.inl ⟨by rfl, ?_⟩) ?_ ?_
        rotate_left
        · intro w'
          go_simp
          with_reducible rfl
        rotate_left
        · simp only [Act.put, List.setIfInBounds_toArray, List.set_cons_zero, List.set_cons_succ, i64_w, i32_w]
          rfl
        refine take_ (i := 0) (N := some 34) (v := ?_) (a' := ?_) #[true, true, true, true, false, false, false, false] rfl rfl (by kernel_rfl) (fun _ _ _ h => h) (Or.inl ⟨by rfl, ?_⟩) hHeld ?_ ?_
        rotate_left
        · rintro w' s0
          refine run_load_blk (x := .tmp 8) ?_ ?_ (blk_below HBX.out s0) Try.underlying29 rfl (by kernel_rfl)
          · rfl
          · rfl
        rotate_left
        · simp only [Act.put, List.setIfInBounds_toArray, List.set_cons_zero, List.set_cons_succ, i64_w, i32_w]
          rfl
        refine take_ (i := 4) (N := some 38) (v := ?_) (a' := ?_) #[true, true, true, true, true, false, false, false] rfl rfl (by kernel_rfl) (fun _ _ _ h => h) (Or.inl ⟨by rfl, ?_⟩) hHeld ?_ ?_
        rotate_left
        · rintro w' s0
          refine run_load_add (x := .tmp 37) (cs := [.int .i64 a.o.kind, .int .i64 a.o.sp, .int .i64 a.o.ak, .bool a.o.ap, .int .u64 a.o.av, .int .u8 a.o.byte, .int .u64 a.o.va, .int .i64 a.o.size, .bool a.o.at_.f0, .bool a.o.at_.f1, .bool a.o.at_.f2, .bool a.o.at_.f3, .bool a.o.at_.f4, .bool a.o.at_.f5, .int .i64 a.o.other, .int .u64 a.o.too, .bool a.raw, .bool a.near, .int .i64 a.place]) ?_ ?_ (fun j v hj => by rw [Go.Deep.add_add]; exact (s0.cell (World.block_lt_of_cell? _ _ (HAT.out j v hj))).trans (HAT.out j v hj)) Try.underlying39 rfl (by kernel_rfl)
          · rfl
          · rfl
        rotate_left
        · simp only [Act.put, List.setIfInBounds_toArray, List.set_cons_zero, List.set_cons_succ, i64_w, i32_w]
          rfl
        refine join_ (σ := Nat × OpS) 1 #[true, true, true, true, true, true, true, false] (fun s => [(39, .agg #[.int .i64 s.2.kind, .int .i64 s.2.sp, .int .i64 s.2.ak, .bool s.2.ap, .int .u64 s.2.av, .int .u8 s.2.byte, .int .u64 s.2.va, .int .i64 s.2.size, .bool s.2.at_.f0, .bool s.2.at_.f1, .bool s.2.at_.f2, .bool s.2.at_.f3, .bool s.2.at_.f4, .bool s.2.at_.f5, .int .i64 s.2.other, .int .u64 s.2.too]), (10, .pointer (some ⟨s.1, 0, none⟩))]) (fun s w' => OkO s.2 ∧ Below wr.heap.size wr w' ∧ w'.heap[s.1]? = some (.cells #[.int .i64 0, .int .i64 0, .int .i64 0, .bool false, .int .u64 0, .int .u8 0, .int .u64 0, .int .i64 0, .bool false, .bool false, .bool false, .bool false, .bool false, .bool false, .int .i64 0, .int .u64 0] 36 (0, 0)) ∧ wr.heap.size ≤ s.1) (fun sj wj hF => ?_) (fun hjoin => ?_)
        rotate_left
        · refine two_ (i := 5) (j := 6) (Ni := some 39) (Nj := some 10) #[true, true, true, true, true, true, false, false] #[true, true, true, true, true, false, true, false] rfl rfl rfl rfl (by kernel_rfl) (by decide) (by decide) (fun K hK => ?_) (fun K hK => ?_)
          · refine goes_ Try.func12 (by kernel_rfl) rfl #[.agg #[.int .i64 s.n, .slice A1 s.L.length c1, .slice A2 s.by_.length c2, .int .i64 s.made], .agg #[.int .i64 a.o.kind, .int .i64 a.o.sp, .int .i64 a.o.ak, .bool a.o.ap, .int .u64 a.o.av, .int .u8 a.o.byte, .int .u64 a.o.va, .int .i64 a.o.size, .bool a.o.at_.f0, .bool a.o.at_.f1, .bool a.o.at_.f2, .bool a.o.at_.f3, .bool a.o.at_.f4, .bool a.o.at_.f5, .int .i64 a.o.other, .int .u64 a.o.too, .bool a.raw, .bool a.near, .int .i64 a.place]] (by rfl) rfl rfl (by (try simp only [List.map_toArray, List.map_cons, List.map_nil]); first | done | rfl) ?_
            refine (op_calls (HDX.out.m.below (Below.refl wr.heap.size wr).drew) HW.out (by omega) a HAG.out.1 HAG.out.2).mono ?_
            rintro e wc1 ⟨o', ho', rfl, hbc1⟩
            refine ⟨_, rfl, ?_⟩
            have HOO := Aside0.mk ho'
            have HBC1 := Aside0.mk ((Below.refl wr.heap.size wr).drew.trans (hbc1.mono ((Below.refl wr.heap.size wr).drew).size))
            have HBL1 := Aside0.mk hbc1
            clear ho' hbc1
            refine hK.out _ _ HBC1.out (fun hHeld => ?_)
            clear hK K
            refine norm_ (a' := ?_) ?_ ?_
            rotate_left
            · show Act.put _ (some 39) _ = _
              simp only [Act.put, List.setIfInBounds_toArray, List.set_cons_zero, List.set_cons_succ, i64_w, i32_w]
              rfl
            refine one_ (i := 6) (N := some 10) #[true, true, true, true, true, true, true, false] rfl rfl (by kernel_rfl) (by decide) (fun K hK => ?_)
            refine value_ (v := .pointer (some ⟨(wc1).heap.size, 0, none⟩)) (w1 := (wc1).alloc (.cells #[.int .i64 0, .int .i64 0, .int .i64 0, .bool false, .int .u64 0, .int .u8 0, .int .u64 0, .int .i64 0, .bool false, .bool false, .bool false, .bool false, .bool false, .bool false, .int .i64 0, .int .u64 0] 36)) (by rfl) rfl ?_ ?_
            · go_simp
            have HG2 := Aside0.mk (blk_new (wc1) (.cells #[.int .i64 0, .int .i64 0, .int .i64 0, .bool false, .int .u64 0, .int .u8 0, .int .u64 0, .int .i64 0, .bool false, .bool false, .bool false, .bool false, .bool false, .bool false, .int .i64 0, .int .u64 0] 36))
            have HBA2 := Aside0.mk (HBC1.out.trans (((Below.refl _ (wc1)).alloc (Nat.le_refl _) (.cells #[.int .i64 0, .int .i64 0, .int .i64 0, .bool false, .int .u64 0, .int .u8 0, .int .u64 0, .int .i64 0, .bool false, .bool false, .bool false, .bool false, .bool false, .bool false, .int .i64 0, .int .u64 0] 36)).mono HBC1.out.size))
            refine hK.out _ _ HBA2.out (fun hHeld => ?_)
            clear hK K
            refine norm_ (a' := ?_) ?_ ?_
            rotate_left
            · show Act.put _ (some 10) _ = _
              simp only [Act.put, List.setIfInBounds_toArray, List.set_cons_zero, List.set_cons_succ, i64_w, i32_w]
              rfl
            have hj := hjoin ((wc1).heap.size, o') ((wc1).alloc (.cells #[.int .i64 0, .int .i64 0, .int .i64 0, .bool false, .int .u64 0, .int .u8 0, .int .u64 0, .int .i64 0, .bool false, .bool false, .bool false, .bool false, .bool false, .bool false, .int .i64 0, .int .u64 0] 36)) ⟨HOO.out, HBA2.out, HG2.out, HBC1.out.size⟩
            simp only [putAll, Act.put, List.setIfInBounds_toArray, List.set_cons_zero, List.set_cons_succ] at hj
            exact hj
          · refine value_ (v := .pointer (some ⟨(wr.drew).heap.size, 0, none⟩)) (w1 := (wr.drew).alloc (.cells #[.int .i64 0, .int .i64 0, .int .i64 0, .bool false, .int .u64 0, .int .u8 0, .int .u64 0, .int .i64 0, .bool false, .bool false, .bool false, .bool false, .bool false, .bool false, .int .i64 0, .int .u64 0] 36)) (by rfl) rfl ?_ ?_
            · go_simp
            have HG3 := Aside0.mk (blk_new (wr.drew) (.cells #[.int .i64 0, .int .i64 0, .int .i64 0, .bool false, .int .u64 0, .int .u8 0, .int .u64 0, .int .i64 0, .bool false, .bool false, .bool false, .bool false, .bool false, .bool false, .int .i64 0, .int .u64 0] 36))
            have HBA3 := Aside0.mk (show Below wr.heap.size wr (wr.drew.alloc (.cells #[.int .i64 0, .int .i64 0, .int .i64 0, .bool false, .int .u64 0, .int .u8 0, .int .u64 0, .int .i64 0, .bool false, .bool false, .bool false, .bool false, .bool false, .bool false, .int .i64 0, .int .u64 0] 36)) from (Below.refl _ wr).drew.alloc (Nat.le_refl wr.heap.size) (.cells #[.int .i64 0, .int .i64 0, .int .i64 0, .bool false, .int .u64 0, .int .u8 0, .int .u64 0, .int .i64 0, .bool false, .bool false, .bool false, .bool false, .bool false, .bool false, .int .i64 0, .int .u64 0] 36))
            refine hK.out _ _ HBA3.out (fun hHeld => ?_)
            clear hK K
            refine norm_ (a' := ?_) ?_ ?_
            rotate_left
            · show Act.put _ (some 10) _ = _
              simp only [Act.put, List.setIfInBounds_toArray, List.set_cons_zero, List.set_cons_succ, i64_w, i32_w]
              rfl
            refine one_ (i := 5) (N := some 39) #[true, true, true, true, true, true, true, false] rfl rfl (by kernel_rfl) (by decide) (fun K hK => ?_)
            refine goes_ Try.func12 (by kernel_rfl) rfl #[.agg #[.int .i64 s.n, .slice A1 s.L.length c1, .slice A2 s.by_.length c2, .int .i64 s.made], .agg #[.int .i64 a.o.kind, .int .i64 a.o.sp, .int .i64 a.o.ak, .bool a.o.ap, .int .u64 a.o.av, .int .u8 a.o.byte, .int .u64 a.o.va, .int .i64 a.o.size, .bool a.o.at_.f0, .bool a.o.at_.f1, .bool a.o.at_.f2, .bool a.o.at_.f3, .bool a.o.at_.f4, .bool a.o.at_.f5, .int .i64 a.o.other, .int .u64 a.o.too, .bool a.raw, .bool a.near, .int .i64 a.place]] (by rfl) rfl rfl (by (try simp only [List.map_toArray, List.map_cons, List.map_nil]); first | done | rfl) ?_
            refine (op_calls (HDX.out.m.below HBA3.out) HW.out (by omega) a HAG.out.1 HAG.out.2).mono ?_
            rintro e wc4 ⟨o', ho', rfl, hbc4⟩
            refine ⟨_, rfl, ?_⟩
            have HOO := Aside0.mk ho'
            have HBC4 := Aside0.mk (HBA3.out.trans (hbc4.mono (HBA3.out).size))
            have HBL4 := Aside0.mk hbc4
            clear ho' hbc4
            refine hK.out _ _ HBC4.out (fun hHeld => ?_)
            clear hK K
            refine norm_ (a' := ?_) ?_ ?_
            rotate_left
            · show Act.put _ (some 39) _ = _
              simp only [Act.put, List.setIfInBounds_toArray, List.set_cons_zero, List.set_cons_succ, i64_w, i32_w]
              rfl
            have hj := hjoin ((wr.drew).heap.size, o') wc4 ⟨HOO.out, HBC4.out, blk_below HG3.out HBL4.out, Nat.le_refl _⟩
            simp only [putAll, Act.put, List.setIfInBounds_toArray, List.set_cons_zero, List.set_cons_succ] at hj
            exact hj
        clear hHeld
        obtain ⟨hoo, hb8, hg8, hge8⟩ := hF
        simp only [putAll, Act.put, List.setIfInBounds_toArray, List.set_cons_zero, List.set_cons_succ]
        refine last_ (i := 7) (N := none) #[true, true, true, true, true, true, true, true] rfl rfl (by kernel_rfl) (by decide) (fun K hK => ?_)
        refine skip_ (w1 := _) (by rfl) rfl (run_store_blk rfl rfl rfl hg8 (by kernel_rfl) rfl (one_op sj.2)) ?_
        refine hK.out _ _ ?_
        clear hK K
        refine done_ (by kernel_rfl) ?_
        (try simp only [Exit.inBlock, Exit.then])
        obtain ⟨G, o⟩ := sj
        dsimp only at hoo hb8 hg8 hge8 ⊢
        have hg9 := sb_same hg8 (.cells #[.int .i64 o.kind, .int .i64 o.sp, .int .i64 o.ak, .bool o.ap, .int .u64 o.av, .int .u8 o.byte, .int .u64 o.va, .int .i64 o.size, .bool o.at_.f0, .bool o.at_.f1, .bool o.at_.f2, .bool o.at_.f3, .bool o.at_.f4, .bool o.at_.f5, .int .i64 o.other, .int .u64 o.too] 36 (0, 0))
        have HO9 := Aside0.mk hg9
        have HOO := Aside0.mk hoo
        have hb9 := below_sb hb8 hge8 (.cells #[.int .i64 o.kind, .int .i64 o.sp, .int .i64 o.ak, .bool o.ap, .int .u64 o.av, .int .u8 o.byte, .int .u64 o.va, .int .i64 o.size, .bool o.at_.f0, .bool o.at_.f1, .bool o.at_.f2, .bool o.at_.f3, .bool o.at_.f4, .bool o.at_.f5, .int .i64 o.other, .int .u64 o.too] 36 (0, 0))
        have HB9 := Aside0.mk hb9
        generalize ChangeMaps.setBlock wj G (.cells #[.int .i64 o.kind, .int .i64 o.sp, .int .i64 o.ak, .bool o.ap, .int .u64 o.av, .int .u8 o.byte, .int .u64 o.va, .int .i64 o.size, .bool o.at_.f0, .bool o.at_.f1, .bool o.at_.f2, .bool o.at_.f3, .bool o.at_.f4, .bool o.at_.f5, .int .i64 o.other, .int .u64 o.too] 36 (0, 0)) = w9 at *
        have HGE9 := Aside0.mk hge8
        clear hg8 hg9 hoo hb8 hb9 hge8
        have HBX9 := Aside0.mk (blk_below HBX.out HB9.out)
        have HD9 := Aside0.mk (HDX.out.below HB9.out)
        obtain ⟨x0, x1, x2, x3⟩ := cells4 HBX9.out
        clear HDX HBX HAT
        obtain ⟨⟨⟨e1, e2, e3⟩, t⟩, hrt⟩ : ∃ r, doR s o = r := ⟨_, rfl⟩
        have hcd := ddo_calls HD9.out HW.out (by omega) o HOO.out
        rw [hrt] at hcd
        have HCD := Aside0.mk hcd
        have HRT := Aside0.mk hrt
        clear hcd hrt
        go_wp2_with (refine wpList_load_row rfl 36 _ rfl G rfl 36 #[.int .i64 o.kind, .int .i64 o.sp, .int .i64 o.ak, .bool o.ap, .int .u64 o.av, .int .u8 o.byte, .int .u64 o.va, .int .i64 o.size, .bool o.at_.f0, .bool o.at_.f1, .bool o.at_.f2, .bool o.at_.f3, .bool o.at_.f4, .bool o.at_.f5, .int .i64 o.other, .int .u64 o.too] (0, 0) _ HO9.out Try.underlying36 rfl (by kernel_rfl) ?_)
        refine HCD.out.mono ?_
        rintro e w10 ⟨A3, c3, A4, c4, rfl, hm10, hb10⟩
        have HM10 := Aside0.mk hm10
        have HB10 := Aside0.mk hb10
        have HBB := Aside0.mk (((Below.refl _ w10).alloc (Nat.le_refl _) (.cells #[.int .i64 t.n, .slice A3 t.L.length c3, .slice A4 t.by_.length c4, .int .i64 t.made] 29)).alloc (by simp) (.cells #[.int .i64 e1, .int .i64 e2, .int .u8 e3] 42))
        have HO10 := Aside0.mk (blk_below HO9.out hb10)
        have HBX10 := Aside0.mk (blk_below HBX9.out hb10)
        clear hm10 hb10 HCD x0 x1 x2 x3 HBX9 HO9
        go_upto_region 10 with fail
        have h11 := ((Below.refl _ w10).alloc (Nat.le_refl _) (.cells #[.int .i64 t.n, .slice A3 t.L.length c3, .slice A4 t.by_.length c4, .int .i64 t.made] 29)).alloc (by simp) (.cells #[.int .i64 e1, .int .i64 e2, .int .u8 e3] 42)
        have hn := blk_alloc (blk_new w10 (.cells #[.int .i64 t.n, .slice A3 t.L.length c3, .slice A4 t.by_.length c4, .int .i64 t.made] 29)) (.cells #[.int .i64 e1, .int .i64 e2, .int .u8 e3] 42)
        have HB11 := Aside0.mk h11
        have HN11 := Aside0.mk hn
        have HBX11 := Aside0.mk (blk_below HBX10.out h11)
        have HO11 := Aside0.mk (blk_below HO10.out h11)
        have HGN := Aside0.mk (show G ≠ g from fun e => by have h1 := HL.out.hlt; have h2 := HGE9.out; omega)
        have hng := Nat.ne_of_lt (blk_lt HBX10.out)
        generalize (w10.alloc (.cells #[.int .i64 t.n, .slice A3 t.L.length c3, .slice A4 t.by_.length c4, .int .i64 t.made] 29)).alloc (.cells #[.int .i64 e1, .int .i64 e2, .int .u8 e3] 42) = w11 at *
        have HB10S := Aside0.mk HB10.out.size
        obtain ⟨H, hH⟩ : ∃ H, w10.heap.size = H := ⟨_, rfl⟩
        rw [hH] at hng HN11 ⊢
        clear h11 hn HBX10 HO10 hH
        obtain ⟨z0, z1, z2, z3⟩ := cells4 HN11.out
        obtain ⟨x0, x1, x2, x3⟩ := cells4 HBX11.out
        have f0 := blk_frozen HBX11.out 0
        have f1 := blk_frozen HBX11.out 1
        have f2 := blk_frozen HBX11.out 2
        have f3 := blk_frozen HBX11.out 3
        go_upto_region 11 with fail
        rw [set4 HBX11.out]
        have HO12 := Aside0.mk ((sb_other (W := w11) (b := g) (k := G) (.cells #[.int .i64 t.n, .slice A3 t.L.length c3, .slice A4 t.by_.length c4, .int .i64 t.made] 29 (0, 0)) HGN.out).trans HO11.out)
        have hb910 := HB9.out.trans ((HB10.out.trans (HBB.out.mono HB10.out.size)).mono HB9.out.size)
        have HM12 := Aside0.mk (HL.out.mo12 hb910 (.cells #[.int .i64 t.n, .slice A3 t.L.length c3, .slice A4 t.by_.length c4, .int .i64 t.made] 29 (0, 0)))
        have HW12 := Aside0.mk (show ∀ w13, Mo w13 B pm bm t → WfK (i + 1) t → Mv [B, pm, bm] (ChangeMaps.setBlock w11 g (.cells #[.int .i64 t.n, .slice A3 t.L.length c3, .slice A4 t.by_.length c4, .int .i64 t.made] 29 (0, 0))) w13 → LpI w0 w13 B pm bm g (i + 1) t A3 c3 A4 c4 from fun w13 hmo hwf hv => HL.out.step HRT.out HB9.out HM10.out HB10.out HBB.out hmo hwf hv)
        clear hb910 z0 z1 z2 z3 x0 x1 x2 x3 f0 f1 f2 f3 hng
        generalize ChangeMaps.setBlock w11 g (.cells #[.int .i64 t.n, .slice A3 t.L.length c3, .slice A4 t.by_.length c4, .int .i64 t.made] 29 (0, 0)) = w12 at *
        clear HBX11 HO11 HN11
        go_wp2_with (refine wpList_load_row rfl 36 _ rfl G rfl 36 #[.int .i64 o.kind, .int .i64 o.sp, .int .i64 o.ak, .bool o.ap, .int .u64 o.av, .int .u8 o.byte, .int .u64 o.va, .int .i64 o.size, .bool o.at_.f0, .bool o.at_.f1, .bool o.at_.f2, .bool o.at_.f3, .bool o.at_.f4, .bool o.at_.f5, .int .i64 o.other, .int .u64 o.too] (0, 0) _ HO12.out Try.underlying36 rfl (by kernel_rfl) ?_)
        refine (done_calls HM12.out HW.out (by omega) o HOO.out).mono ?_
        rintro e w13 ⟨rfl, hmo, hwf, hmv⟩
        rw [HRT.out] at hmo hwf ⊢
        have HLN := Aside0.mk (HW12.out w13 hmo hwf hmv)
        clear hmo hwf hmv HM12 HO12 HW12
        have hwj : wrap64 ((i : Int) + 1) = (i : Int) + 1 := by unfold wrap64; omega
        go_wp2_with fail
        clear hwj
        go_roundg (gk - 1)
        case measure => omega
        case rel => exact ⟨i + 1, t, A3, c3, A4, c4, by push_cast; rfl, by omega, HLN⟩
      · by_cases hl1 : i < xs.length
        · have hd1 : decide ((i : Int) < (xs.length : Int)) = true := decide_eq_true (by omega)
          have hl2 : ¬ i < 20 := by omega
          have hd2 : decide ((i : Int) < 20) = false := decide_eq_false (by omega)
          go_wp2_with fail
          go_meet
          case rel => exact ⟨i, s, A1, c1, A2, c2, hi60, HL.out⟩
        · have hd1 : decide ((i : Int) < (xs.length : Int)) = false := decide_eq_false (by omega)
          go_wp2_with fail
          go_meet
          case rel => exact ⟨i, s, A1, c1, A2, c2, hi60, HL.out⟩
  case rest =>
  obtain ⟨i, s, A3, c3, A4, c4, hi, hl⟩ := hcut
  have HN3 := Aside0.mk hl.n3
  have HM0' := Aside0.mk hl.ml
  have HPD := Aside0.mk (blk_below HPB.out hl.lo)
  clear hl HLP HPB
  obtain ⟨p0, p1, p2, p3, p4, p5, p6, p7, p8, p9, p10⟩ := cells11 HPD.out
  go_wp2_with fail
  refine (HGD.out wc).mono ?_
  rintro e wg ⟨rfl, hb⟩
  have HM1 := Aside0.mk (HM0'.out.below hb)
  clear hb HM0' HPD p0 p1 p2 p3 p4 p5 p6 p7 p8 p9 p10
  go_upto_region 13 with fail
  have hal := (Below.refl _ wg).alloc (Nat.le_refl _) (.cells #[.int .u64 (gv : Int), .int .i64 (z : Int), .int .u64 (gp : Int), .bool p.f3.f0, .bool p.f3.f1, .bool p.f3.f2, .bool p.f3.f3, .bool p.f3.f4, .bool p.f3.f5, .bool p.f4, .bool p.f5] 50)
  have HG := Aside0.mk (blk_new wg (.cells #[.int .u64 (gv : Int), .int .i64 (z : Int), .int .u64 (gp : Int), .bool p.f3.f0, .bool p.f3.f1, .bool p.f3.f2, .bool p.f3.f3, .bool p.f3.f4, .bool p.f3.f5, .bool p.f4, .bool p.f5] 50))
  have HNG := Aside0.mk (show wg.heap.size ∉ [B, pm, bm] from fun h => Nat.lt_irrefl _ (HM1.out.mo.lt _ h))
  have HM2 := Aside0.mk (HM1.out.below hal)
  have HLG := Aside0.mk (show w0.heap.size ≤ wg.heap.size from HM1.out.lo.size)
  generalize wg.alloc (.cells #[.int .u64 (gv : Int), .int .i64 (z : Int), .int .u64 (gp : Int), .bool p.f3.f0, .bool p.f3.f1, .bool p.f3.f2, .bool p.f3.f3, .bool p.f3.f4, .bool p.f3.f5, .bool p.f4, .bool p.f5] 50) = wh at *
  generalize wg.heap.size = G13 at *
  clear hal HM1
  obtain ⟨-, -, -, -, -, -, -, p7, -, -, -⟩ := cells11 HG.out
  have f7 := blk_frozen HG.out 7
  go_upto_region 14 with fail
  obtain ⟨at', hat⟩ : ∃ a : Atr, a = { p.f3 with f4 := false } := ⟨_, rfl⟩
  rw [setCell_block (t := 50) (i := 7) (cs' := #[.int .u64 (gv : Int), .int .i64 (z : Int), .int .u64 (gp : Int), .bool at'.f0, .bool at'.f1, .bool at'.f2, .bool at'.f3, .bool at'.f4, .bool at'.f5, .bool p.f4, .bool p.f5]) HG.out (.bool false) (by rw [hat]; rfl)]
  have HA4 := Aside0.mk (show at'.f4 = false by rw [hat])
  have HG' := Aside0.mk (sb_same HG.out (.cells #[.int .u64 (gv : Int), .int .i64 (z : Int), .int .u64 (gp : Int), .bool at'.f0, .bool at'.f1, .bool at'.f2, .bool at'.f3, .bool at'.f4, .bool at'.f5, .bool p.f4, .bool p.f5] 50 (0, 0)))
  have HM := Aside0.mk (show Ml w0 (ChangeMaps.setBlock wh G13 (.cells #[.int .u64 (gv : Int), .int .i64 (z : Int), .int .u64 (gp : Int), .bool at'.f0, .bool at'.f1, .bool at'.f2, .bool at'.f3, .bool at'.f4, .bool at'.f5, .bool p.f4, .bool p.f5] 50 (0, 0))) B pm bm i s from
    ⟨HM2.out.wf, HM2.out.mo.move (fun k hk => sb_other _ (fun e => HNG.out (e ▸ hk))), below_sb HM2.out.lo HLG.out _, HM2.out.ge⟩)
  generalize ChangeMaps.setBlock wh G13 (.cells #[.int .u64 (gv : Int), .int .i64 (z : Int), .int .u64 (gp : Int), .bool at'.f0, .bool at'.f1, .bool at'.f2, .bool at'.f3, .bool at'.f4, .bool at'.f5, .bool p.f4, .bool p.f5] 50 (0, 0)) = wi at *
  clear hat HG HM2 p7 f7 HLG
  have HG := HG'
  clear HG'
  obtain ⟨p0, p1, -, p3, p4, p5, p6, p7, p8, -, -⟩ := cells11 HG.out
  cases hm : (sel 2 s.L).any (meetB (⟨(gv : Int), (z : Int), s.made, at', false, false⟩ : Pg)) with
  | true =>
    have hd := map_no (s := s) HN3.out (sp := 2) ⟨by decide, by decide⟩ (va := va) HZ4.out (a := at') HA4.out (by rw [HGV.out]; exact hm)
    rw [HGV.out] at hd
    have HMP := Aside0.mk hd
    clear hd hm
    go_wp2_with fail
    refine (HM.out.do_ (by omega) (opM 2 gv z at') (opM_ok ⟨by decide, by decide⟩ HBL.out HZ4.out) HMP.out).mono ?_
    rintro e wd1 ⟨rfl, hm, hv⟩
    have HD1 := Aside0.mk hm
    have HG' := Aside0.mk ((hv.block _ (blk_lt HG.out) HNG.out).trans HG.out)
    clear hm hv HM HG
    go_upto_region 15 with fail
    have hal := (Below.refl _ wd1).alloc (Nat.le_refl _) (.cells #[.int .i64 9, .int .i64 0, .int .u8 0] 42)
    have HBG14 := Aside0.mk (blk_new wd1 (.cells #[.int .i64 9, .int .i64 0, .int .u8 0] 42))
    have HNG14 := Aside0.mk (show wd1.heap.size ∉ [B, pm, bm] from fun h => Nat.lt_irrefl _ (HD1.out.mo.lt _ h))
    have HE1 := Aside0.mk (HD1.out.below hal)
    have HG'' := Aside0.mk (blk_below HG'.out hal)
    clear HD1 HG'
    generalize wd1.alloc (.cells #[.int .i64 9, .int .i64 0, .int .u8 0] 42) = we1 at *
    generalize wd1.heap.size = G14 at *
    clear hal
    clear p0 p1 p3 p4 p5 p6 p7 p8
    obtain ⟨r0, r1, r2⟩ := cells3 HBG14.out
    go_wp2_with fail
    refine (lives16_calls _).mono ?_
    rintro e wl ⟨rfl, hb⟩
    have HLL := Aside0.mk (HE1.out.lo.trans (hb.mono HE1.out.lo.size))
    clear hb
    go_wp2_with fail
    go_ret
    exact ⟨rfl, (show Below w.heap.size w w0 by have h := H0.out; rwa [← HDW.out] at h).trans (HLL.out.mono H0.out.size)⟩
  | false =>
    have hd := map_do (s := s) HN3.out (sp := 2) ⟨by decide, by decide⟩ (va := va) HZ4.out (a := at') HA4.out (by rw [HGV.out]; exact hm)
    obtain ⟨y, hy⟩ := fresh_all HM.out.wf (by omega) HN3.out (va := va) HZ4.out HRL.out HA4.out (by rw [HGV.out]; exact hm)
    rw [HGV.out] at hd hy
    rw [HVV.out] at hy
    have HMP := Aside0.mk hd
    obtain ⟨s2, hs2⟩ : ∃ s2, mapT s 2 gv z at' = s2 := ⟨_, rfl⟩
    rw [hs2] at HMP hy
    obtain ⟨md, hmd⟩ : ∃ m, s.made = m := ⟨_, rfl⟩
    have HMD := Aside0.mk (show 0 ≤ md ∧ md < 1000000 by have h1 := HM.out.wf.made0; have h2 := HM.out.wf.made1; omega)
    rw [hmd] at hy
    have HY := Aside0.mk hy
    clear hd hm hy hs2 hmd
    go_wp2_with fail
    refine (HM.out.do_ (by omega) (opM 2 gv z at') (opM_ok ⟨by decide, by decide⟩ HBL.out HZ4.out) HMP.out).mono ?_
    rintro e wd1 ⟨rfl, hm, hv⟩
    have HD1 := Aside0.mk hm
    have HG' := Aside0.mk ((hv.block _ (blk_lt HG.out) HNG.out).trans HG.out)
    clear hm hv HM HG
    go_upto_region 15 with fail
    have hal := (Below.refl _ wd1).alloc (Nat.le_refl _) (.cells #[.int .i64 0, .int .i64 0, .int .u8 0] 42)
    have HBG14 := Aside0.mk (blk_new wd1 (.cells #[.int .i64 0, .int .i64 0, .int .u8 0] 42))
    have HNG14 := Aside0.mk (show wd1.heap.size ∉ [B, pm, bm] from fun h => Nat.lt_irrefl _ (HD1.out.mo.lt _ h))
    have HE1 := Aside0.mk (HD1.out.below hal)
    have HG'' := Aside0.mk (blk_below HG'.out hal)
    clear HD1 HG'
    generalize wd1.alloc (.cells #[.int .i64 0, .int .i64 0, .int .u8 0] 42) = we1 at *
    generalize wd1.heap.size = G14 at *
    clear hal
    clear p0 p1 p3 p4 p5 p6 p7 p8
    obtain ⟨r0, -⟩ := cells3 HBG14.out
    obtain ⟨p0, p1, -⟩ := cells11 HG''.out
    have HP0 := Aside0.mk p0
    have HP1 := Aside0.mk p1
    clear p0 p1
    go_upto_region 17 with fail
    clear r0
    have hm0 := HM0.out
    have hmm : Int.tmod (off : Int) (M : Int) = (r : Int) := by rw [tmod_nat, HRR.out]
    have hme : (off : Int) % (M : Int) = (r : Int) := by rw [← hmm, tmod_nat]; exact (Int.natCast_emod _ _).symm
    have hww : IntKind.u64.wrap ((gv : Int) + (r : Int)) = (vv : Int) := by rw [wu _ (by omega) (by have := HVL.out; have := HVV.out; omega)]; have := HVV.out; omega
    have hwe : ((gv : Int) + (r : Int)) % 18446744073709551616 = (vv : Int) := by have := HVL.out; have := HVV.out; omega
    refine start_ (n := 15) (S := fun w' => Below we1.heap.size we1 w') (ds := []) #[false, false, false, false, false, false, false, false, false, false, false, false, false, false, false] (by kernel_rfl) rfl rfl (by exact (Below.refl _ _).drew) (fun hHeld => ?_)
    refine pure_ (i := 0) (N := some 68) (v := ?_) (a' := ?_) #[true, false, false, false, false, false, false, false, false, false, false, false, false, false, false] rfl rfl (by kernel_rfl) (fun _ _ _ h => h) (Or.inl ⟨by rfl, ?_⟩) ?_ ?_
    rotate_left
    · intro w'
      go_simp
      with_reducible rfl
    rotate_left
    · simp only [Act.put, List.setIfInBounds_toArray, List.set_cons_zero, List.set_cons_succ, i64_w, i32_w]
      rfl
    refine pure_ (i := 1) (N := some 69) (v := ?_) (a' := ?_) #[true, true, false, false, false, false, false, false, false, false, false, false, false, false, false] rfl rfl (by kernel_rfl) (fun _ _ _ h => h) (Or.inl ⟨by rfl, ?_⟩) ?_ ?_
    rotate_left
    · intro w'
      go_simp
      with_reducible rfl
    rotate_left
    · simp only [Act.put, List.setIfInBounds_toArray, List.set_cons_zero, List.set_cons_succ, i64_w, i32_w]
      rfl
    refine pure_ (i := 3) (N := some 71) (v := ?_) (a' := ?_) #[true, true, false, true, false, false, false, false, false, false, false, false, false, false, false] rfl rfl (by kernel_rfl) (fun _ _ _ h => h) (Or.inl ⟨by rfl, ?_⟩) ?_ ?_
    rotate_left
    · intro w'
      go_simp
      with_reducible rfl
    rotate_left
    · simp only [Act.put, List.setIfInBounds_toArray, List.set_cons_zero, List.set_cons_succ, i64_w, i32_w]
      rfl
    refine pure_ (i := 4) (N := some 72) (v := ?_) (a' := ?_) #[true, true, false, true, true, false, false, false, false, false, false, false, false, false, false] rfl rfl (by kernel_rfl) (fun _ _ _ h => h) (Or.inl ⟨by rfl, ?_⟩) ?_ ?_
    rotate_left
    · intro w'
      go_simp
      with_reducible rfl
    rotate_left
    · simp only [Act.put, List.setIfInBounds_toArray, List.set_cons_zero, List.set_cons_succ, i64_w, i32_w]
      rfl
    refine take_ (i := 2) (N := some 70) (v := ?_) (a' := ?_) #[true, true, true, true, true, false, false, false, false, false, false, false, false, false, false] rfl rfl (by kernel_rfl) (fun _ _ _ h => h) (Or.inl ⟨by rfl, ?_⟩) hHeld ?_ ?_
    rotate_left
    · rintro w' s0
      have p0 := (s0.cell (World.block_lt_of_cell? _ _ HP0.out)).trans HP0.out
      have p1 := (s0.cell (World.block_lt_of_cell? _ _ HP1.out)).trans HP1.out
      go_simp
      with_reducible rfl
    rotate_left
    · simp only [Act.put, List.setIfInBounds_toArray, List.set_cons_zero, List.set_cons_succ, i64_w, i32_w]
      rfl
    refine take_ (i := 5) (N := some 73) (v := ?_) (a' := ?_) #[true, true, true, true, true, true, false, false, false, false, false, false, false, false, false] rfl rfl (by kernel_rfl) (fun _ _ _ h => h) (Or.inl ⟨by rfl, ?_⟩) hHeld ?_ ?_
    rotate_left
    · rintro w' s0
      have p0 := (s0.cell (World.block_lt_of_cell? _ _ HP0.out)).trans HP0.out
      have p1 := (s0.cell (World.block_lt_of_cell? _ _ HP1.out)).trans HP1.out
      go_simp
      with_reducible rfl
    rotate_left
    · simp only [Act.put, List.setIfInBounds_toArray, List.set_cons_zero, List.set_cons_succ, i64_w, i32_w]
      rfl
    refine one_ (i := 6) (N := some 74) #[true, true, true, true, true, true, true, false, false, false, false, false, false, false, false] rfl rfl (by kernel_rfl) (by decide) (fun K hK => ?_)
    refine goes_ Try.func17 (by kernel_rfl) rfl #[.int .i64 (z : Int)] (by rfl) rfl rfl (by (try simp only [List.map_toArray, List.map_cons, List.map_nil]); first | done | rfl) ?_
    refine (lookasideref02_Bytes.calls (z : Int) (M : Int) _ HBYT.out).mono ?_
    rintro e wb ⟨rfl, hd⟩
    refine ⟨_, rfl, ?_⟩
    have hbb := (Below.refl we1.heap.size we1).drew.trans hd.below
    have HBB := Aside0.mk hbb
    clear hd hbb
    refine hK.out _ _ HBB.out (fun hHeld => ?_)
    clear hK K
    refine norm_ (a' := ?_) ?_ ?_
    rotate_left
    · show Act.put _ (some 74) _ = _
      simp only [Act.put, List.setIfInBounds_toArray, List.set_cons_zero, List.set_cons_succ, i64_w, i32_w]
      rfl
    refine pure_ (i := 7) (N := some 75) (v := ?_) (a' := ?_) #[true, true, true, true, true, true, true, true, false, false, false, false, false, false, false] rfl rfl (by kernel_rfl) (fun _ _ _ h => h) (Or.inl ⟨by rfl, ?_⟩) ?_ ?_
    rotate_left
    · intro w'
      go_simp
      with_reducible rfl
    rotate_left
    · simp only [Act.put, List.setIfInBounds_toArray, List.set_cons_zero, List.set_cons_succ, i64_w, i32_w]
      rfl
    refine pure_ (i := 8) (N := some 76) (v := ?_) (a' := ?_) #[true, true, true, true, true, true, true, true, true, false, false, false, false, false, false] rfl rfl (by kernel_rfl) (fun _ _ _ h => h) (Or.inl ⟨by rfl, ?_⟩) ?_ ?_
    rotate_left
    · intro w'
      go_simp
      with_reducible rfl
    rotate_left
    · simp only [Act.put, List.setIfInBounds_toArray, List.set_cons_zero, List.set_cons_succ, i64_w, i32_w]
      rfl
    refine one_ (i := 9) (N := some 77) #[true, true, true, true, true, true, true, true, true, true, false, false, false, false, false] rfl rfl (by kernel_rfl) (by decide) (fun K hK => ?_)
    refine goes_ Try.func21 (by kernel_rfl) rfl #[.pointer (some ⟨B, 0, none⟩), .int .i64 2, .int .u64 (vv : Int)] (by rfl) rfl rfl (by (try simp only [List.map_toArray, List.map_cons, List.map_nil]); first | done | rfl) ?_
    refine (byte_yes (HE1.out.below HBB.out).mo HE1.out.wf.wl 2 ⟨by decide, by decide⟩ vv HVL.out y HY.out.m HY.out.h).mono ?_
    rintro e wk ⟨rfl, hbk⟩
    rw [show y.f1.f2 = md by rw [HY.out.ye], HY.out.b]
    refine ⟨_, rfl, ?_⟩
    have hbb := HBB.out.trans (hbk.mono HBB.out.size)
    have HBK := Aside0.mk hbb
    clear hbk hbb
    refine hK.out _ _ HBK.out (fun hHeld => ?_)
    clear hK K
    refine norm_ (a' := ?_) ?_ ?_
    rotate_left
    · show Act.put _ (some 77) _ = _
      simp only [Act.put, List.setIfInBounds_toArray, List.set_cons_zero, List.set_cons_succ, i64_w, i32_w]
      rfl
    refine pure_ (i := 10) (N := some 67) (v := ?_) (a' := ?_) #[true, true, true, true, true, true, true, true, true, true, true, false, false, false, false] rfl rfl (by kernel_rfl) (fun _ _ _ h => h) (Or.inl ⟨by rfl, ?_⟩) ?_ ?_
    rotate_left
    · intro w'
      go_simp
      with_reducible rfl
    rotate_left
    · simp only [Act.put, List.setIfInBounds_toArray, List.set_cons_zero, List.set_cons_succ, i64_w, i32_w]
      rfl
    refine pure_ (i := 11) (N := some 78) (v := ?_) (a' := ?_) #[true, true, true, true, true, true, true, true, true, true, true, true, false, false, false] rfl rfl (by kernel_rfl) (fun _ _ _ h => h) (Or.inl ⟨by rfl, ?_⟩) ?_ ?_
    rotate_left
    · intro w'
      go_simp
      with_reducible rfl
    rotate_left
    · simp only [Act.put, List.setIfInBounds_toArray, List.set_cons_zero, List.set_cons_succ, i64_w, i32_w]
      rfl
    refine pure_ (i := 12) (N := some 79) (v := ?_) (a' := ?_) #[true, true, true, true, true, true, true, true, true, true, true, true, true, false, false] rfl rfl (by kernel_rfl) (fun _ _ _ h => h) (Or.inl ⟨by rfl, ?_⟩) ?_ ?_
    rotate_left
    · intro w'
      go_simp
      with_reducible rfl
    rotate_left
    · simp only [Act.put, List.setIfInBounds_toArray, List.set_cons_zero, List.set_cons_succ, i64_w, i32_w]
      rfl
    refine pure_ (i := 13) (N := some 15) (v := ?_) (a' := ?_) #[true, true, true, true, true, true, true, true, true, true, true, true, true, true, false] rfl rfl (by kernel_rfl) (fun _ _ _ h => h) (Or.inl ⟨by rfl, ?_⟩) ?_ ?_
    rotate_left
    · intro w'
      go_simp
      with_reducible rfl
    rotate_left
    · simp only [Act.put, List.setIfInBounds_toArray, List.set_cons_zero, List.set_cons_succ, i64_w, i32_w]
      rfl
    refine pure_ (i := 14) (N := some 16) (v := ?_) (a' := ?_) #[true, true, true, true, true, true, true, true, true, true, true, true, true, true, true] rfl rfl (by kernel_rfl) (fun _ _ _ h => h) (Or.inl ⟨by rfl, ?_⟩) ?_ ?_
    rotate_left
    · intro w'
      go_simp
      with_reducible rfl
    rotate_left
    · simp only [Act.put, List.setIfInBounds_toArray, List.set_cons_zero, List.set_cons_succ, i64_w, i32_w]
      rfl
    refine done_ (by kernel_rfl) ?_
    (try simp only [Exit.inBlock, Exit.then])
    clear hHeld hm0 hmm hme hww hwe
    have HMK := Aside0.mk (HE1.out.below HBK.out)
    have HG''' := Aside0.mk (blk_below HG''.out HBK.out)
    have HBG14' := Aside0.mk (blk_below HBG14.out HBK.out)
    clear  HE1 HG'' HBG14
    go_wp2_with fail
    refine (HMK.out.pages (by omega) 2).mono ?_
    rintro e wp ⟨Ap, cp, np, rfl, hl, hb, -⟩
    have HMP2 := Aside0.mk (HMK.out.below hb)
    have HG2 := Aside0.mk (blk_below HG'''.out hb)
    have HR2 := Aside0.mk (blk_below HBG14'.out hb)
    obtain ⟨l1, l2, rfl, l4⟩ := hl
    have HPL := Aside0.mk l1
    have hl4 := l4
    clear hb HMK HG''' HBG14' l1 l2 l4
    obtain ⟨L, hL⟩ : ∃ L, pagesS s2 2 = L := ⟨_, rfl⟩
    have HLE := Aside0.mk hL
    rw [hL] at HPL hl4 ⊢
    clear hL
    go_wp2_with fail
    go_loopg [18, 19] L.length (fun kq fv iv W => ∃ (j : Nat), iv = .int .i64 (j : Int) ∧ j + kq = L.length ∧ fv = .bool ((L.take j).any (fun q => q.f0 == (gv : Int))) ∧ Aside0 (Below wp.heap.size wp W))
    case atStart => exact ⟨0, rfl, by omega, rfl, ⟨Below.refl _ _⟩⟩
    case round =>
      obtain ⟨j, rfl, hjk, rfl, HB⟩ := hrel
      have hk0 : (0 : Int) ≤ (j : Int) := by omega
      by_cases hlt : j < L.length
      · have hk1 : (j : Int) < (L.length : Int) := by omega
        have hrd : rd_T50 L (j : Int) = L[j] := by simp [rd_T50, List.getD_eq_getElem?_getD, hlt]
        obtain ⟨ad, hA, q0, q1, q2, q3, q4, q5, q6, q7, q8, q9, q10⟩ := at_T50 (Kd.C_below HPL.out HB.out) (j : Int) hk0 hk1
        subst hA
        rw [hrd, Int.toNat_natCast] at q0 q1 q2 q3 q4 q5 q6 q7 q8 q9 q10
        have HSN := Aside0.mk (any_snoc hlt (fun q => q.f0 == (gv : Int)))
        have hmem : L[j] ∈ pagesS s2 2 := by rw [HLE.out]; exact List.getElem_mem _
        generalize L[j] = e0 at q0 q1 q2 q3 q4 q5 q6 q7 q8 q9 q10 HSN hmem
        obtain ⟨fn, hfn⟩ : ∃ fn, (L.take (j + 1)).any (fun q => q.f0 == (gv : Int)) = fn := ⟨_, rfl⟩
        have HFE := Aside0.mk hfn
        rw [hfn] at HSN
        clear hfn
        generalize (L.take j).any (fun q => q.f0 == (gv : Int)) = fo at *
        have HME := Aside0.mk hmem
        clear hmem hrd
        obtain ⟨p0, p1, -, p3, p4, p5, p6, p7, p8, -, -⟩ := cells11 (blk_below HG2.out HB.out)
        have HCC := Aside0.mk (And.intro q0 (And.intro q1 (And.intro q2 (And.intro q3 (And.intro q4 (And.intro q5 (And.intro q6 (And.intro q7 (And.intro q8 (And.intro q9 q10))))))))))
        have HPP := Aside0.mk (And.intro p0 (And.intro p1 (And.intro p3 (And.intro p4 (And.intro p5 (And.intro p6 (And.intro p7 p8)))))))
        have hwj : wrap64 ((j : Int) + 1) = (j : Int) + 1 := by unfold wrap64; omega
        by_cases he : e0.f0 = (gv : Int)
        · have HFT := Aside0.mk (show fn = true by rw [HSN.out, he]; simp)
          obtain rfl : e0 = (⟨(gv : Int), (z : Int), md, at', false, false⟩ : Pg) := (HY.out.one e0 HME.out he).trans (by rw [HY.out.ye])
          dsimp only at HCC q0
          clear he q1 q2 q3 q4 q5 q6 q7 q8 q9 q10 p1 p3 p4 p5 p6 p7 p8
          go_upto_region 23 with fail
          refine start_ (n := 8) (S := fun w' => Below wr.heap.size wr w') (ds := []) #[false, false, false, false, false, false, false, false] (by kernel_rfl) rfl rfl (by exact (Below.refl _ _).drew) (fun hHeld => ?_)
          refine pure_ (i := 0) (N := some 88) (v := ?_) (a' := ?_) #[true, false, false, false, false, false, false, false] rfl rfl (by kernel_rfl) (fun _ _ _ h => h) (Or.inl ⟨by rfl, ?_⟩) ?_ ?_
          rotate_left
          · intro w'
            go_simp
            with_reducible rfl
          rotate_left
          · simp only [Act.put, List.setIfInBounds_toArray, List.set_cons_zero, List.set_cons_succ, i64_w, i32_w]
            rfl
          refine pure_ (i := 1) (N := some 89) (v := ?_) (a' := ?_) #[true, true, false, false, false, false, false, false] rfl rfl (by kernel_rfl) (fun _ _ _ h => h) (Or.inl ⟨by rfl, ?_⟩) ?_ ?_
          rotate_left
          · intro w'
            go_simp
            with_reducible rfl
          rotate_left
          · simp only [Act.put, List.setIfInBounds_toArray, List.set_cons_zero, List.set_cons_succ, i64_w, i32_w]
            rfl
          refine pure_ (i := 2) (N := some 90) (v := ?_) (a' := ?_) #[true, true, true, false, false, false, false, false] rfl rfl (by kernel_rfl) (fun _ _ _ h => h) (Or.inl ⟨by rfl, ?_⟩) ?_ ?_
          rotate_left
          · intro w'
            go_simp
            with_reducible rfl
          rotate_left
          · simp only [Act.put, List.setIfInBounds_toArray, List.set_cons_zero, List.set_cons_succ, i64_w, i32_w]
            rfl
          refine pure_ (i := 3) (N := some 91) (v := ?_) (a' := ?_) #[true, true, true, true, false, false, false, false] rfl rfl (by kernel_rfl) (fun _ _ _ h => h) (Or.inl ⟨by rfl, ?_⟩) ?_ ?_
          rotate_left
          · intro w'
            go_simp
            with_reducible rfl
          rotate_left
          · simp only [Act.put, List.setIfInBounds_toArray, List.set_cons_zero, List.set_cons_succ, i64_w, i32_w]
            rfl
          refine pure_ (i := 5) (N := some 93) (v := ?_) (a' := ?_) #[true, true, true, true, false, true, false, false] rfl rfl (by kernel_rfl) (fun _ _ _ h => h) (Or.inl ⟨by rfl, ?_⟩) ?_ ?_
          rotate_left
          · intro w'
            go_simp
            with_reducible rfl
          rotate_left
          · simp only [Act.put, List.setIfInBounds_toArray, List.set_cons_zero, List.set_cons_succ, i64_w, i32_w]
            rfl
          refine take_ (i := 4) (N := some 92) (v := ?_) (a' := ?_) #[true, true, true, true, true, true, false, false] rfl rfl (by kernel_rfl) (fun _ _ _ h => h) (Or.inl ⟨by rfl, ?_⟩) hHeld ?_ ?_
          rotate_left
          · rintro w' s0
            have hq := fun (a : Addr) (v : Value) (h : wr.cell? a = some v) => (s0.cell (World.block_lt_of_cell? _ _ h)).trans h
            obtain ⟨q0, q1, q2, q3, q4, q5, q6, q7, q8, q9, q10⟩ := HCC.out
            obtain ⟨p0, p1, p3, p4, p5, p6, p7, p8⟩ := HPP.out
            replace q0 := hq _ _ q0
            replace p0 := hq _ _ p0
            clear hq q1 q2 q3 q4 q5 q6 q7 q8 q9 q10 p1 p3 p4 p5 p6 p7 p8
            go_simp
            with_reducible rfl
          rotate_left
          · simp only [Act.put, List.setIfInBounds_toArray, List.set_cons_zero, List.set_cons_succ, i64_w, i32_w]
            rfl
          refine take_ (i := 6) (N := some 94) (v := ?_) (a' := ?_) #[true, true, true, true, true, true, true, false] rfl rfl (by kernel_rfl) (fun _ _ _ h => h) (Or.inl ⟨by rfl, ?_⟩) hHeld ?_ ?_
          rotate_left
          · rintro w' s0
            have hq := fun (a : Addr) (v : Value) (h : wr.cell? a = some v) => (s0.cell (World.block_lt_of_cell? _ _ h)).trans h
            obtain ⟨q0, q1, q2, q3, q4, q5, q6, q7, q8, q9, q10⟩ := HCC.out
            obtain ⟨p0, p1, p3, p4, p5, p6, p7, p8⟩ := HPP.out
            replace q0 := hq _ _ q0
            replace p0 := hq _ _ p0
            clear hq q1 q2 q3 q4 q5 q6 q7 q8 q9 q10 p1 p3 p4 p5 p6 p7 p8
            go_simp
            with_reducible rfl
          rotate_left
          · simp only [Act.put, List.setIfInBounds_toArray, List.set_cons_zero, List.set_cons_succ, i64_w, i32_w]
            rfl
          refine pure_ (i := 7) (N := some 95) (v := ?_) (a' := ?_) #[true, true, true, true, true, true, true, true] rfl rfl (by kernel_rfl) (fun _ _ _ h => h) (Or.inl ⟨by rfl, ?_⟩) ?_ ?_
          rotate_left
          · intro w'
            go_simp
            with_reducible rfl
          rotate_left
          · simp only [Act.put, List.setIfInBounds_toArray, List.set_cons_zero, List.set_cons_succ, i64_w, i32_w]
            rfl
          refine done_ (by kernel_rfl) ?_
          (try simp only [Exit.inBlock, Exit.then])
          clear hHeld q0 p0
          have HB5 := Aside0.mk HB.out.drew
          have hc5 : ∀ (a : Addr) (v : Value), wr.cell? a = some v → wr.drew.cell? a = some v := fun a v h => h
          have HCC5 := Aside0.mk (And.intro (hc5 _ _ HCC.out.1) (And.intro (hc5 _ _ HCC.out.2.1) (And.intro (hc5 _ _ HCC.out.2.2.1) (And.intro (hc5 _ _ HCC.out.2.2.2.1) (And.intro (hc5 _ _ HCC.out.2.2.2.2.1) (And.intro (hc5 _ _ HCC.out.2.2.2.2.2.1) (And.intro (hc5 _ _ HCC.out.2.2.2.2.2.2.1) (And.intro (hc5 _ _ HCC.out.2.2.2.2.2.2.2.1) (And.intro (hc5 _ _ HCC.out.2.2.2.2.2.2.2.2.1) (And.intro (hc5 _ _ HCC.out.2.2.2.2.2.2.2.2.2.1) (hc5 _ _ HCC.out.2.2.2.2.2.2.2.2.2.2)))))))))))
          have HPP5 := Aside0.mk (And.intro (hc5 _ _ HPP.out.1) (And.intro (hc5 _ _ HPP.out.2.1) (And.intro (hc5 _ _ HPP.out.2.2.1) (And.intro (hc5 _ _ HPP.out.2.2.2.1) (And.intro (hc5 _ _ HPP.out.2.2.2.2.1) (And.intro (hc5 _ _ HPP.out.2.2.2.2.2.1) (And.intro (hc5 _ _ HPP.out.2.2.2.2.2.2.1) (hc5 _ _ HPP.out.2.2.2.2.2.2.2))))))))
          clear HCC HPP hc5
          have HCC := HCC5
          have HPP := HPP5
          clear HCC5 HPP5
          generalize wr.drew = w5 at *
          go_upto_region 24 with fail
          have hcv : IntKind.i64.wrap md = md := i64w ⟨by have := HMD.out; omega, by have := HMD.out; omega⟩
          refine start_ (n := 46) (S := fun w' => Below w5.heap.size w5 w') (ds := []) #[false, false, false, false, false, false, false, false, false, false, false, false, false, false, false, false, false, false, false, false, false, false, false, false, false, false, false, false, false, false, false, false, false, false, false, false, false, false, false, false, false, false, false, false, false, false] (by kernel_rfl) rfl rfl (by exact (Below.refl _ _).drew) (fun hHeld => ?_)
          refine pure_ (i := 0) (N := some 96) (v := ?_) (a' := ?_) #[true, false, false, false, false, false, false, false, false, false, false, false, false, false, false, false, false, false, false, false, false, false, false, false, false, false, false, false, false, false, false, false, false, false, false, false, false, false, false, false, false, false, false, false, false, false] rfl rfl (by kernel_rfl) (fun _ _ _ h => h) (Or.inl ⟨by rfl, ?_⟩) ?_ ?_
          rotate_left
          · intro w'
            go_simp
            with_reducible rfl
          rotate_left
          · simp only [Act.put, List.setIfInBounds_toArray, List.set_cons_zero, List.set_cons_succ, i64_w, i32_w]
            rfl
          refine pure_ (i := 1) (N := some 97) (v := ?_) (a' := ?_) #[true, true, false, false, false, false, false, false, false, false, false, false, false, false, false, false, false, false, false, false, false, false, false, false, false, false, false, false, false, false, false, false, false, false, false, false, false, false, false, false, false, false, false, false, false, false] rfl rfl (by kernel_rfl) (fun _ _ _ h => h) (Or.inl ⟨by rfl, ?_⟩) ?_ ?_
          rotate_left
          · intro w'
            go_simp
            with_reducible rfl
          rotate_left
          · simp only [Act.put, List.setIfInBounds_toArray, List.set_cons_zero, List.set_cons_succ, i64_w, i32_w]
            rfl
          refine pure_ (i := 2) (N := some 98) (v := ?_) (a' := ?_) #[true, true, true, false, false, false, false, false, false, false, false, false, false, false, false, false, false, false, false, false, false, false, false, false, false, false, false, false, false, false, false, false, false, false, false, false, false, false, false, false, false, false, false, false, false, false] rfl rfl (by kernel_rfl) (fun _ _ _ h => h) (Or.inl ⟨by rfl, ?_⟩) ?_ ?_
          rotate_left
          · intro w'
            go_simp
            with_reducible rfl
          rotate_left
          · simp only [Act.put, List.setIfInBounds_toArray, List.set_cons_zero, List.set_cons_succ, i64_w, i32_w]
            rfl
          refine pure_ (i := 3) (N := some 99) (v := ?_) (a' := ?_) #[true, true, true, true, false, false, false, false, false, false, false, false, false, false, false, false, false, false, false, false, false, false, false, false, false, false, false, false, false, false, false, false, false, false, false, false, false, false, false, false, false, false, false, false, false, false] rfl rfl (by kernel_rfl) (fun _ _ _ h => h) (Or.inl ⟨by rfl, ?_⟩) ?_ ?_
          rotate_left
          · intro w'
            go_simp
            with_reducible rfl
          rotate_left
          · simp only [Act.put, List.setIfInBounds_toArray, List.set_cons_zero, List.set_cons_succ, i64_w, i32_w]
            rfl
          refine take_ (i := 4) (N := some 100) (v := ?_) (a' := ?_) #[true, true, true, true, true, false, false, false, false, false, false, false, false, false, false, false, false, false, false, false, false, false, false, false, false, false, false, false, false, false, false, false, false, false, false, false, false, false, false, false, false, false, false, false, false, false] rfl rfl (by kernel_rfl) (fun _ _ _ h => h) (Or.inl ⟨by rfl, ?_⟩) hHeld ?_ ?_
          rotate_left
          · rintro w' s0
            have hq := fun (a : Addr) (v : Value) (h : w5.cell? a = some v) => (s0.cell (World.block_lt_of_cell? _ _ h)).trans h
            obtain ⟨q0, q1, q2, q3, q4, q5, q6, q7, q8, q9, q10⟩ := HCC.out
            obtain ⟨p0, p1, p3, p4, p5, p6, p7, p8⟩ := HPP.out
            replace q0 := hq _ _ q0
            replace q1 := hq _ _ q1
            replace q2 := hq _ _ q2
            replace q3 := hq _ _ q3
            replace q4 := hq _ _ q4
            replace q5 := hq _ _ q5
            replace q6 := hq _ _ q6
            replace q7 := hq _ _ q7
            replace q8 := hq _ _ q8
            replace q9 := hq _ _ q9
            replace q10 := hq _ _ q10
            replace p0 := hq _ _ p0
            replace p1 := hq _ _ p1
            replace p3 := hq _ _ p3
            replace p4 := hq _ _ p4
            replace p5 := hq _ _ p5
            replace p6 := hq _ _ p6
            replace p7 := hq _ _ p7
            replace p8 := hq _ _ p8
            clear hq 
            go_simp
            with_reducible rfl
          rotate_left
          · simp only [Act.put, List.setIfInBounds_toArray, List.set_cons_zero, List.set_cons_succ, i64_w, i32_w]
            rfl
          refine pure_ (i := 5) (N := some 101) (v := ?_) (a' := ?_) #[true, true, true, true, true, true, false, false, false, false, false, false, false, false, false, false, false, false, false, false, false, false, false, false, false, false, false, false, false, false, false, false, false, false, false, false, false, false, false, false, false, false, false, false, false, false] rfl rfl (by kernel_rfl) (fun _ _ _ h => h) (Or.inl ⟨by rfl, ?_⟩) ?_ ?_
          rotate_left
          · intro w'
            go_simp
            with_reducible rfl
          rotate_left
          · simp only [Act.put, List.setIfInBounds_toArray, List.set_cons_zero, List.set_cons_succ, i64_w, i32_w]
            rfl
          refine pure_ (i := 6) (N := some 102) (v := ?_) (a' := ?_) #[true, true, true, true, true, true, true, false, false, false, false, false, false, false, false, false, false, false, false, false, false, false, false, false, false, false, false, false, false, false, false, false, false, false, false, false, false, false, false, false, false, false, false, false, false, false] rfl rfl (by kernel_rfl) (fun _ _ _ h => h) (Or.inl ⟨by rfl, ?_⟩) ?_ ?_
          rotate_left
          · intro w'
            go_simp
            with_reducible rfl
          rotate_left
          · simp only [Act.put, List.setIfInBounds_toArray, List.set_cons_zero, List.set_cons_succ, i64_w, i32_w]
            rfl
          refine pure_ (i := 7) (N := some 103) (v := ?_) (a' := ?_) #[true, true, true, true, true, true, true, true, false, false, false, false, false, false, false, false, false, false, false, false, false, false, false, false, false, false, false, false, false, false, false, false, false, false, false, false, false, false, false, false, false, false, false, false, false, false] rfl rfl (by kernel_rfl) (fun _ _ _ h => h) (Or.inl ⟨by rfl, ?_⟩) ?_ ?_
          rotate_left
          · intro w'
            go_simp
            with_reducible rfl
          rotate_left
          · simp only [Act.put, List.setIfInBounds_toArray, List.set_cons_zero, List.set_cons_succ, i64_w, i32_w]
            rfl
          refine pure_ (i := 8) (N := some 104) (v := ?_) (a' := ?_) #[true, true, true, true, true, true, true, true, true, false, false, false, false, false, false, false, false, false, false, false, false, false, false, false, false, false, false, false, false, false, false, false, false, false, false, false, false, false, false, false, false, false, false, false, false, false] rfl rfl (by kernel_rfl) (fun _ _ _ h => h) (Or.inl ⟨by rfl, ?_⟩) ?_ ?_
          rotate_left
          · intro w'
            go_simp
            with_reducible rfl
          rotate_left
          · simp only [Act.put, List.setIfInBounds_toArray, List.set_cons_zero, List.set_cons_succ, i64_w, i32_w]
            rfl
          refine pure_ (i := 9) (N := some 105) (v := ?_) (a' := ?_) #[true, true, true, true, true, true, true, true, true, true, false, false, false, false, false, false, false, false, false, false, false, false, false, false, false, false, false, false, false, false, false, false, false, false, false, false, false, false, false, false, false, false, false, false, false, false] rfl rfl (by kernel_rfl) (fun _ _ _ h => h) (Or.inl ⟨by rfl, ?_⟩) ?_ ?_
          rotate_left
          · intro w'
            go_simp
            with_reducible rfl
          rotate_left
          · simp only [Act.put, List.setIfInBounds_toArray, List.set_cons_zero, List.set_cons_succ, i64_w, i32_w]
            rfl
          refine pure_ (i := 10) (N := some 106) (v := ?_) (a' := ?_) #[true, true, true, true, true, true, true, true, true, true, true, false, false, false, false, false, false, false, false, false, false, false, false, false, false, false, false, false, false, false, false, false, false, false, false, false, false, false, false, false, false, false, false, false, false, false] rfl rfl (by kernel_rfl) (fun _ _ _ h => h) (Or.inl ⟨by rfl, ?_⟩) ?_ ?_
          rotate_left
          · intro w'
            go_simp
            with_reducible rfl
          rotate_left
          · simp only [Act.put, List.setIfInBounds_toArray, List.set_cons_zero, List.set_cons_succ, i64_w, i32_w]
            rfl
          refine take_ (i := 11) (N := some 107) (v := ?_) (a' := ?_) #[true, true, true, true, true, true, true, true, true, true, true, true, false, false, false, false, false, false, false, false, false, false, false, false, false, false, false, false, false, false, false, false, false, false, false, false, false, false, false, false, false, false, false, false, false, false] rfl rfl (by kernel_rfl) (fun _ _ _ h => h) (Or.inl ⟨by rfl, ?_⟩) hHeld ?_ ?_
          rotate_left
          · rintro w' s0
            have hq := fun (a : Addr) (v : Value) (h : w5.cell? a = some v) => (s0.cell (World.block_lt_of_cell? _ _ h)).trans h
            obtain ⟨q0, q1, q2, q3, q4, q5, q6, q7, q8, q9, q10⟩ := HCC.out
            obtain ⟨p0, p1, p3, p4, p5, p6, p7, p8⟩ := HPP.out
            replace q0 := hq _ _ q0
            replace q1 := hq _ _ q1
            replace q2 := hq _ _ q2
            replace q3 := hq _ _ q3
            replace q4 := hq _ _ q4
            replace q5 := hq _ _ q5
            replace q6 := hq _ _ q6
            replace q7 := hq _ _ q7
            replace q8 := hq _ _ q8
            replace q9 := hq _ _ q9
            replace q10 := hq _ _ q10
            replace p0 := hq _ _ p0
            replace p1 := hq _ _ p1
            replace p3 := hq _ _ p3
            replace p4 := hq _ _ p4
            replace p5 := hq _ _ p5
            replace p6 := hq _ _ p6
            replace p7 := hq _ _ p7
            replace p8 := hq _ _ p8
            clear hq 
            go_simp
            with_reducible rfl
          rotate_left
          · simp only [Act.put, List.setIfInBounds_toArray, List.set_cons_zero, List.set_cons_succ, i64_w, i32_w]
            rfl
          refine pure_ (i := 12) (N := some 108) (v := ?_) (a' := ?_) #[true, true, true, true, true, true, true, true, true, true, true, true, true, false, false, false, false, false, false, false, false, false, false, false, false, false, false, false, false, false, false, false, false, false, false, false, false, false, false, false, false, false, false, false, false, false] rfl rfl (by kernel_rfl) (fun _ _ _ h => h) (Or.inl ⟨by rfl, ?_⟩) ?_ ?_
          rotate_left
          · intro w'
            go_simp
            with_reducible rfl
          rotate_left
          · simp only [Act.put, List.setIfInBounds_toArray, List.set_cons_zero, List.set_cons_succ, i64_w, i32_w]
            rfl
          refine pure_ (i := 13) (N := some 109) (v := ?_) (a' := ?_) #[true, true, true, true, true, true, true, true, true, true, true, true, true, true, false, false, false, false, false, false, false, false, false, false, false, false, false, false, false, false, false, false, false, false, false, false, false, false, false, false, false, false, false, false, false, false] rfl rfl (by kernel_rfl) (fun _ _ _ h => h) (Or.inl ⟨by rfl, ?_⟩) ?_ ?_
          rotate_left
          · intro w'
            go_simp
            with_reducible rfl
          rotate_left
          · simp only [Act.put, List.setIfInBounds_toArray, List.set_cons_zero, List.set_cons_succ, i64_w, i32_w]
            rfl
          refine pure_ (i := 14) (N := some 110) (v := ?_) (a' := ?_) #[true, true, true, true, true, true, true, true, true, true, true, true, true, true, true, false, false, false, false, false, false, false, false, false, false, false, false, false, false, false, false, false, false, false, false, false, false, false, false, false, false, false, false, false, false, false] rfl rfl (by kernel_rfl) (fun _ _ _ h => h) (Or.inl ⟨by rfl, ?_⟩) ?_ ?_
          rotate_left
          · intro w'
            go_simp
            with_reducible rfl
          rotate_left
          · simp only [Act.put, List.setIfInBounds_toArray, List.set_cons_zero, List.set_cons_succ, i64_w, i32_w]
            rfl
          refine pure_ (i := 15) (N := some 111) (v := ?_) (a' := ?_) #[true, true, true, true, true, true, true, true, true, true, true, true, true, true, true, true, false, false, false, false, false, false, false, false, false, false, false, false, false, false, false, false, false, false, false, false, false, false, false, false, false, false, false, false, false, false] rfl rfl (by kernel_rfl) (fun _ _ _ h => h) (Or.inl ⟨by rfl, ?_⟩) ?_ ?_
          rotate_left
          · intro w'
            go_simp
            with_reducible rfl
          rotate_left
          · simp only [Act.put, List.setIfInBounds_toArray, List.set_cons_zero, List.set_cons_succ, i64_w, i32_w]
            rfl
          refine pure_ (i := 16) (N := some 112) (v := ?_) (a' := ?_) #[true, true, true, true, true, true, true, true, true, true, true, true, true, true, true, true, true, false, false, false, false, false, false, false, false, false, false, false, false, false, false, false, false, false, false, false, false, false, false, false, false, false, false, false, false, false] rfl rfl (by kernel_rfl) (fun _ _ _ h => h) (Or.inl ⟨by rfl, ?_⟩) ?_ ?_
          rotate_left
          · intro w'
            go_simp
            with_reducible rfl
          rotate_left
          · simp only [Act.put, List.setIfInBounds_toArray, List.set_cons_zero, List.set_cons_succ, i64_w, i32_w]
            rfl
          refine pure_ (i := 17) (N := some 113) (v := ?_) (a' := ?_) #[true, true, true, true, true, true, true, true, true, true, true, true, true, true, true, true, true, true, false, false, false, false, false, false, false, false, false, false, false, false, false, false, false, false, false, false, false, false, false, false, false, false, false, false, false, false] rfl rfl (by kernel_rfl) (fun _ _ _ h => h) (Or.inl ⟨by rfl, ?_⟩) ?_ ?_
          rotate_left
          · intro w'
            go_simp
            with_reducible rfl
          rotate_left
          · simp only [Act.put, List.setIfInBounds_toArray, List.set_cons_zero, List.set_cons_succ, i64_w, i32_w]
            rfl
          refine pure_ (i := 18) (N := some 114) (v := ?_) (a' := ?_) #[true, true, true, true, true, true, true, true, true, true, true, true, true, true, true, true, true, true, true, false, false, false, false, false, false, false, false, false, false, false, false, false, false, false, false, false, false, false, false, false, false, false, false, false, false, false] rfl rfl (by kernel_rfl) (fun _ _ _ h => h) (Or.inl ⟨by rfl, ?_⟩) ?_ ?_
          rotate_left
          · intro w'
            go_simp
            with_reducible rfl
          rotate_left
          · simp only [Act.put, List.setIfInBounds_toArray, List.set_cons_zero, List.set_cons_succ, i64_w, i32_w]
            rfl
          refine pure_ (i := 20) (N := some 116) (v := ?_) (a' := ?_) #[true, true, true, true, true, true, true, true, true, true, true, true, true, true, true, true, true, true, true, false, true, false, false, false, false, false, false, false, false, false, false, false, false, false, false, false, false, false, false, false, false, false, false, false, false, false] rfl rfl (by kernel_rfl) (fun _ _ _ h => h) (Or.inl ⟨by rfl, ?_⟩) ?_ ?_
          rotate_left
          · intro w'
            go_simp
            with_reducible rfl
          rotate_left
          · simp only [Act.put, List.setIfInBounds_toArray, List.set_cons_zero, List.set_cons_succ, i64_w, i32_w]
            rfl
          refine take_ (i := 19) (N := some 115) (v := ?_) (a' := ?_) #[true, true, true, true, true, true, true, true, true, true, true, true, true, true, true, true, true, true, true, true, true, false, false, false, false, false, false, false, false, false, false, false, false, false, false, false, false, false, false, false, false, false, false, false, false, false] rfl rfl (by kernel_rfl) (fun _ _ _ h => h) (Or.inl ⟨by rfl, ?_⟩) hHeld ?_ ?_
          rotate_left
          · rintro w' s0
            have hq := fun (a : Addr) (v : Value) (h : w5.cell? a = some v) => (s0.cell (World.block_lt_of_cell? _ _ h)).trans h
            obtain ⟨q0, q1, q2, q3, q4, q5, q6, q7, q8, q9, q10⟩ := HCC.out
            obtain ⟨p0, p1, p3, p4, p5, p6, p7, p8⟩ := HPP.out
            replace q0 := hq _ _ q0
            replace q1 := hq _ _ q1
            replace q2 := hq _ _ q2
            replace q3 := hq _ _ q3
            replace q4 := hq _ _ q4
            replace q5 := hq _ _ q5
            replace q6 := hq _ _ q6
            replace q7 := hq _ _ q7
            replace q8 := hq _ _ q8
            replace q9 := hq _ _ q9
            replace q10 := hq _ _ q10
            replace p0 := hq _ _ p0
            replace p1 := hq _ _ p1
            replace p3 := hq _ _ p3
            replace p4 := hq _ _ p4
            replace p5 := hq _ _ p5
            replace p6 := hq _ _ p6
            replace p7 := hq _ _ p7
            replace p8 := hq _ _ p8
            clear hq 
            go_simp
            with_reducible rfl
          rotate_left
          · simp only [Act.put, List.setIfInBounds_toArray, List.set_cons_zero, List.set_cons_succ, i64_w, i32_w]
            rfl
          refine take_ (i := 21) (N := some 117) (v := ?_) (a' := ?_) #[true, true, true, true, true, true, true, true, true, true, true, true, true, true, true, true, true, true, true, true, true, true, false, false, false, false, false, false, false, false, false, false, false, false, false, false, false, false, false, false, false, false, false, false, false, false] rfl rfl (by kernel_rfl) (fun _ _ _ h => h) (Or.inl ⟨by rfl, ?_⟩) hHeld ?_ ?_
          rotate_left
          · rintro w' s0
            have hq := fun (a : Addr) (v : Value) (h : w5.cell? a = some v) => (s0.cell (World.block_lt_of_cell? _ _ h)).trans h
            obtain ⟨q0, q1, q2, q3, q4, q5, q6, q7, q8, q9, q10⟩ := HCC.out
            obtain ⟨p0, p1, p3, p4, p5, p6, p7, p8⟩ := HPP.out
            replace q0 := hq _ _ q0
            replace q1 := hq _ _ q1
            replace q2 := hq _ _ q2
            replace q3 := hq _ _ q3
            replace q4 := hq _ _ q4
            replace q5 := hq _ _ q5
            replace q6 := hq _ _ q6
            replace q7 := hq _ _ q7
            replace q8 := hq _ _ q8
            replace q9 := hq _ _ q9
            replace q10 := hq _ _ q10
            replace p0 := hq _ _ p0
            replace p1 := hq _ _ p1
            replace p3 := hq _ _ p3
            replace p4 := hq _ _ p4
            replace p5 := hq _ _ p5
            replace p6 := hq _ _ p6
            replace p7 := hq _ _ p7
            replace p8 := hq _ _ p8
            clear hq 
            go_simp
            with_reducible rfl
          rotate_left
          · simp only [Act.put, List.setIfInBounds_toArray, List.set_cons_zero, List.set_cons_succ, i64_w, i32_w]
            rfl
          refine pure_ (i := 22) (N := some 118) (v := ?_) (a' := ?_) #[true, true, true, true, true, true, true, true, true, true, true, true, true, true, true, true, true, true, true, true, true, true, true, false, false, false, false, false, false, false, false, false, false, false, false, false, false, false, false, false, false, false, false, false, false, false] rfl rfl (by kernel_rfl) (fun _ _ _ h => h) (Or.inl ⟨by rfl, ?_⟩) ?_ ?_
          rotate_left
          · intro w'
            go_simp
            with_reducible rfl
          rotate_left
          · simp only [Act.put, List.setIfInBounds_toArray, List.set_cons_zero, List.set_cons_succ, i64_w, i32_w]
            rfl
          refine pure_ (i := 23) (N := some 119) (v := ?_) (a' := ?_) #[true, true, true, true, true, true, true, true, true, true, true, true, true, true, true, true, true, true, true, true, true, true, true, true, false, false, false, false, false, false, false, false, false, false, false, false, false, false, false, false, false, false, false, false, false, false] rfl rfl (by kernel_rfl) (fun _ _ _ h => h) (Or.inl ⟨by rfl, ?_⟩) ?_ ?_
          rotate_left
          · intro w'
            go_simp
            with_reducible rfl
          rotate_left
          · simp only [Act.put, List.setIfInBounds_toArray, List.set_cons_zero, List.set_cons_succ, i64_w, i32_w]
            rfl
          refine pure_ (i := 24) (N := some 120) (v := ?_) (a' := ?_) #[true, true, true, true, true, true, true, true, true, true, true, true, true, true, true, true, true, true, true, true, true, true, true, true, true, false, false, false, false, false, false, false, false, false, false, false, false, false, false, false, false, false, false, false, false, false] rfl rfl (by kernel_rfl) (fun _ _ _ h => h) (Or.inl ⟨by rfl, ?_⟩) ?_ ?_
          rotate_left
          · intro w'
            go_simp
            with_reducible rfl
          rotate_left
          · simp only [Act.put, List.setIfInBounds_toArray, List.set_cons_zero, List.set_cons_succ, i64_w, i32_w]
            rfl
          refine pure_ (i := 25) (N := some 121) (v := ?_) (a' := ?_) #[true, true, true, true, true, true, true, true, true, true, true, true, true, true, true, true, true, true, true, true, true, true, true, true, true, true, false, false, false, false, false, false, false, false, false, false, false, false, false, false, false, false, false, false, false, false] rfl rfl (by kernel_rfl) (fun _ _ _ h => h) (Or.inl ⟨by rfl, ?_⟩) ?_ ?_
          rotate_left
          · intro w'
            go_simp
            with_reducible rfl
          rotate_left
          · simp only [Act.put, List.setIfInBounds_toArray, List.set_cons_zero, List.set_cons_succ, i64_w, i32_w]
            rfl
          refine pure_ (i := 26) (N := some 122) (v := ?_) (a' := ?_) #[true, true, true, true, true, true, true, true, true, true, true, true, true, true, true, true, true, true, true, true, true, true, true, true, true, true, true, false, false, false, false, false, false, false, false, false, false, false, false, false, false, false, false, false, false, false] rfl rfl (by kernel_rfl) (fun _ _ _ h => h) (Or.inl ⟨by rfl, ?_⟩) ?_ ?_
          rotate_left
          · intro w'
            go_simp
            with_reducible rfl
          rotate_left
          · simp only [Act.put, List.setIfInBounds_toArray, List.set_cons_zero, List.set_cons_succ, i64_w, i32_w]
            rfl
          refine pure_ (i := 27) (N := some 123) (v := ?_) (a' := ?_) #[true, true, true, true, true, true, true, true, true, true, true, true, true, true, true, true, true, true, true, true, true, true, true, true, true, true, true, true, false, false, false, false, false, false, false, false, false, false, false, false, false, false, false, false, false, false] rfl rfl (by kernel_rfl) (fun _ _ _ h => h) (Or.inl ⟨by rfl, ?_⟩) ?_ ?_
          rotate_left
          · intro w'
            go_simp
            with_reducible rfl
          rotate_left
          · simp only [Act.put, List.setIfInBounds_toArray, List.set_cons_zero, List.set_cons_succ, i64_w, i32_w]
            rfl
          refine pure_ (i := 28) (N := some 124) (v := ?_) (a' := ?_) #[true, true, true, true, true, true, true, true, true, true, true, true, true, true, true, true, true, true, true, true, true, true, true, true, true, true, true, true, true, false, false, false, false, false, false, false, false, false, false, false, false, false, false, false, false, false] rfl rfl (by kernel_rfl) (fun _ _ _ h => h) (Or.inl ⟨by rfl, ?_⟩) ?_ ?_
          rotate_left
          · intro w'
            go_simp
            with_reducible rfl
          rotate_left
          · simp only [Act.put, List.setIfInBounds_toArray, List.set_cons_zero, List.set_cons_succ, i64_w, i32_w]
            rfl
          refine pure_ (i := 30) (N := some 126) (v := ?_) (a' := ?_) #[true, true, true, true, true, true, true, true, true, true, true, true, true, true, true, true, true, true, true, true, true, true, true, true, true, true, true, true, true, false, true, false, false, false, false, false, false, false, false, false, false, false, false, false, false, false] rfl rfl (by kernel_rfl) (fun _ _ _ h => h) (Or.inl ⟨by rfl, ?_⟩) ?_ ?_
          rotate_left
          · intro w'
            go_simp
            with_reducible rfl
          rotate_left
          · simp only [Act.put, List.setIfInBounds_toArray, List.set_cons_zero, List.set_cons_succ, i64_w, i32_w]
            rfl
          refine take_ (i := 29) (N := some 125) (v := ?_) (a' := ?_) #[true, true, true, true, true, true, true, true, true, true, true, true, true, true, true, true, true, true, true, true, true, true, true, true, true, true, true, true, true, true, true, false, false, false, false, false, false, false, false, false, false, false, false, false, false, false] rfl rfl (by kernel_rfl) (fun _ _ _ h => h) (Or.inl ⟨by rfl, ?_⟩) hHeld ?_ ?_
          rotate_left
          · rintro w' s0
            have hq := fun (a : Addr) (v : Value) (h : w5.cell? a = some v) => (s0.cell (World.block_lt_of_cell? _ _ h)).trans h
            obtain ⟨q0, q1, q2, q3, q4, q5, q6, q7, q8, q9, q10⟩ := HCC.out
            obtain ⟨p0, p1, p3, p4, p5, p6, p7, p8⟩ := HPP.out
            replace q0 := hq _ _ q0
            replace q1 := hq _ _ q1
            replace q2 := hq _ _ q2
            replace q3 := hq _ _ q3
            replace q4 := hq _ _ q4
            replace q5 := hq _ _ q5
            replace q6 := hq _ _ q6
            replace q7 := hq _ _ q7
            replace q8 := hq _ _ q8
            replace q9 := hq _ _ q9
            replace q10 := hq _ _ q10
            replace p0 := hq _ _ p0
            replace p1 := hq _ _ p1
            replace p3 := hq _ _ p3
            replace p4 := hq _ _ p4
            replace p5 := hq _ _ p5
            replace p6 := hq _ _ p6
            replace p7 := hq _ _ p7
            replace p8 := hq _ _ p8
            clear hq 
            go_simp
            with_reducible rfl
          rotate_left
          · simp only [Act.put, List.setIfInBounds_toArray, List.set_cons_zero, List.set_cons_succ, i64_w, i32_w]
            rfl
          refine take_ (i := 31) (N := some 127) (v := ?_) (a' := ?_) #[true, true, true, true, true, true, true, true, true, true, true, true, true, true, true, true, true, true, true, true, true, true, true, true, true, true, true, true, true, true, true, true, false, false, false, false, false, false, false, false, false, false, false, false, false, false] rfl rfl (by kernel_rfl) (fun _ _ _ h => h) (Or.inl ⟨by rfl, ?_⟩) hHeld ?_ ?_
          rotate_left
          · rintro w' s0
            have hq := fun (a : Addr) (v : Value) (h : w5.cell? a = some v) => (s0.cell (World.block_lt_of_cell? _ _ h)).trans h
            obtain ⟨q0, q1, q2, q3, q4, q5, q6, q7, q8, q9, q10⟩ := HCC.out
            obtain ⟨p0, p1, p3, p4, p5, p6, p7, p8⟩ := HPP.out
            replace q0 := hq _ _ q0
            replace q1 := hq _ _ q1
            replace q2 := hq _ _ q2
            replace q3 := hq _ _ q3
            replace q4 := hq _ _ q4
            replace q5 := hq _ _ q5
            replace q6 := hq _ _ q6
            replace q7 := hq _ _ q7
            replace q8 := hq _ _ q8
            replace q9 := hq _ _ q9
            replace q10 := hq _ _ q10
            replace p0 := hq _ _ p0
            replace p1 := hq _ _ p1
            replace p3 := hq _ _ p3
            replace p4 := hq _ _ p4
            replace p5 := hq _ _ p5
            replace p6 := hq _ _ p6
            replace p7 := hq _ _ p7
            replace p8 := hq _ _ p8
            clear hq 
            go_simp
            with_reducible rfl
          rotate_left
          · simp only [Act.put, List.setIfInBounds_toArray, List.set_cons_zero, List.set_cons_succ, i64_w, i32_w]
            rfl
          refine pure_ (i := 32) (N := some 128) (v := ?_) (a' := ?_) #[true, true, true, true, true, true, true, true, true, true, true, true, true, true, true, true, true, true, true, true, true, true, true, true, true, true, true, true, true, true, true, true, true, false, false, false, false, false, false, false, false, false, false, false, false, false] rfl rfl (by kernel_rfl) (fun _ _ _ h => h) (Or.inl ⟨by rfl, ?_⟩) ?_ ?_
          rotate_left
          · intro w'
            go_simp
            with_reducible rfl
          rotate_left
          · simp only [Act.put, List.setIfInBounds_toArray, List.set_cons_zero, List.set_cons_succ, i64_w, i32_w]
            rfl
          refine pure_ (i := 33) (N := some 129) (v := ?_) (a' := ?_) #[true, true, true, true, true, true, true, true, true, true, true, true, true, true, true, true, true, true, true, true, true, true, true, true, true, true, true, true, true, true, true, true, true, true, false, false, false, false, false, false, false, false, false, false, false, false] rfl rfl (by kernel_rfl) (fun _ _ _ h => h) (Or.inl ⟨by rfl, ?_⟩) ?_ ?_
          rotate_left
          · intro w'
            go_simp
            with_reducible rfl
          rotate_left
          · simp only [Act.put, List.setIfInBounds_toArray, List.set_cons_zero, List.set_cons_succ, i64_w, i32_w]
            rfl
          refine pure_ (i := 34) (N := some 130) (v := ?_) (a' := ?_) #[true, true, true, true, true, true, true, true, true, true, true, true, true, true, true, true, true, true, true, true, true, true, true, true, true, true, true, true, true, true, true, true, true, true, true, false, false, false, false, false, false, false, false, false, false, false] rfl rfl (by kernel_rfl) (fun _ _ _ h => h) (Or.inl ⟨by rfl, ?_⟩) ?_ ?_
          rotate_left
          · intro w'
            go_simp
            with_reducible rfl
          rotate_left
          · simp only [Act.put, List.setIfInBounds_toArray, List.set_cons_zero, List.set_cons_succ, i64_w, i32_w]
            rfl
          refine pure_ (i := 35) (N := some 131) (v := ?_) (a' := ?_) #[true, true, true, true, true, true, true, true, true, true, true, true, true, true, true, true, true, true, true, true, true, true, true, true, true, true, true, true, true, true, true, true, true, true, true, true, false, false, false, false, false, false, false, false, false, false] rfl rfl (by kernel_rfl) (fun _ _ _ h => h) (Or.inl ⟨by rfl, ?_⟩) ?_ ?_
          rotate_left
          · intro w'
            go_simp
            with_reducible rfl
          rotate_left
          · simp only [Act.put, List.setIfInBounds_toArray, List.set_cons_zero, List.set_cons_succ, i64_w, i32_w]
            rfl
          refine pure_ (i := 36) (N := some 132) (v := ?_) (a' := ?_) #[true, true, true, true, true, true, true, true, true, true, true, true, true, true, true, true, true, true, true, true, true, true, true, true, true, true, true, true, true, true, true, true, true, true, true, true, true, false, false, false, false, false, false, false, false, false] rfl rfl (by kernel_rfl) (fun _ _ _ h => h) (Or.inl ⟨by rfl, ?_⟩) ?_ ?_
          rotate_left
          · intro w'
            go_simp
            with_reducible rfl
          rotate_left
          · simp only [Act.put, List.setIfInBounds_toArray, List.set_cons_zero, List.set_cons_succ, i64_w, i32_w]
            rfl
          refine pure_ (i := 37) (N := some 133) (v := ?_) (a' := ?_) #[true, true, true, true, true, true, true, true, true, true, true, true, true, true, true, true, true, true, true, true, true, true, true, true, true, true, true, true, true, true, true, true, true, true, true, true, true, true, false, false, false, false, false, false, false, false] rfl rfl (by kernel_rfl) (fun _ _ _ h => h) (Or.inl ⟨by rfl, ?_⟩) ?_ ?_
          rotate_left
          · intro w'
            go_simp
            with_reducible rfl
          rotate_left
          · simp only [Act.put, List.setIfInBounds_toArray, List.set_cons_zero, List.set_cons_succ, i64_w, i32_w]
            rfl
          refine pure_ (i := 38) (N := some 134) (v := ?_) (a' := ?_) #[true, true, true, true, true, true, true, true, true, true, true, true, true, true, true, true, true, true, true, true, true, true, true, true, true, true, true, true, true, true, true, true, true, true, true, true, true, true, true, false, false, false, false, false, false, false] rfl rfl (by kernel_rfl) (fun _ _ _ h => h) (Or.inl ⟨by rfl, ?_⟩) ?_ ?_
          rotate_left
          · intro w'
            go_simp
            with_reducible rfl
          rotate_left
          · simp only [Act.put, List.setIfInBounds_toArray, List.set_cons_zero, List.set_cons_succ, i64_w, i32_w]
            rfl
          refine pure_ (i := 39) (N := some 135) (v := ?_) (a' := ?_) #[true, true, true, true, true, true, true, true, true, true, true, true, true, true, true, true, true, true, true, true, true, true, true, true, true, true, true, true, true, true, true, true, true, true, true, true, true, true, true, true, false, false, false, false, false, false] rfl rfl (by kernel_rfl) (fun _ _ _ h => h) (Or.inl ⟨by rfl, ?_⟩) ?_ ?_
          rotate_left
          · intro w'
            go_simp
            with_reducible rfl
          rotate_left
          · simp only [Act.put, List.setIfInBounds_toArray, List.set_cons_zero, List.set_cons_succ, i64_w, i32_w]
            rfl
          refine take_ (i := 40) (N := some 136) (v := ?_) (a' := ?_) #[true, true, true, true, true, true, true, true, true, true, true, true, true, true, true, true, true, true, true, true, true, true, true, true, true, true, true, true, true, true, true, true, true, true, true, true, true, true, true, true, true, false, false, false, false, false] rfl rfl (by kernel_rfl) (fun _ _ _ h => h) (Or.inl ⟨by rfl, ?_⟩) hHeld ?_ ?_
          rotate_left
          · rintro w' s0
            have hq := fun (a : Addr) (v : Value) (h : w5.cell? a = some v) => (s0.cell (World.block_lt_of_cell? _ _ h)).trans h
            obtain ⟨q0, q1, q2, q3, q4, q5, q6, q7, q8, q9, q10⟩ := HCC.out
            obtain ⟨p0, p1, p3, p4, p5, p6, p7, p8⟩ := HPP.out
            replace q0 := hq _ _ q0
            replace q1 := hq _ _ q1
            replace q2 := hq _ _ q2
            replace q3 := hq _ _ q3
            replace q4 := hq _ _ q4
            replace q5 := hq _ _ q5
            replace q6 := hq _ _ q6
            replace q7 := hq _ _ q7
            replace q8 := hq _ _ q8
            replace q9 := hq _ _ q9
            replace q10 := hq _ _ q10
            replace p0 := hq _ _ p0
            replace p1 := hq _ _ p1
            replace p3 := hq _ _ p3
            replace p4 := hq _ _ p4
            replace p5 := hq _ _ p5
            replace p6 := hq _ _ p6
            replace p7 := hq _ _ p7
            replace p8 := hq _ _ p8
            clear hq 
            go_simp
            with_reducible rfl
          rotate_left
          · simp only [Act.put, List.setIfInBounds_toArray, List.set_cons_zero, List.set_cons_succ, i64_w, i32_w]
            rfl
          refine pure_ (i := 41) (N := some 137) (v := ?_) (a' := ?_) #[true, true, true, true, true, true, true, true, true, true, true, true, true, true, true, true, true, true, true, true, true, true, true, true, true, true, true, true, true, true, true, true, true, true, true, true, true, true, true, true, true, true, false, false, false, false] rfl rfl (by kernel_rfl) (fun _ _ _ h => h) (Or.inl ⟨by rfl, ?_⟩) ?_ ?_
          rotate_left
          · intro w'
            go_simp
            with_reducible rfl
          rotate_left
          · simp only [Act.put, List.setIfInBounds_toArray, List.set_cons_zero, List.set_cons_succ, i64_w, i32_w]
            rfl
          refine one_ (i := 42) (N := some 138) #[true, true, true, true, true, true, true, true, true, true, true, true, true, true, true, true, true, true, true, true, true, true, true, true, true, true, true, true, true, true, true, true, true, true, true, true, true, true, true, true, true, true, true, false, false, false] rfl rfl (by kernel_rfl) (by decide) (fun K hK => ?_)
          refine goes_ Try.func20 (by kernel_rfl) rfl #[.pointer (some ⟨B, 0, none⟩), .int .i64 md] (by rfl) rfl rfl (by (try simp only [List.map_toArray, List.map_cons, List.map_nil]); first | done | rfl) ?_
          refine (windows_calls ((HMP2.out.below HB5.out).below (Below.refl _ w5).drew).mo HMP2.out.wf.wl (by have := HMP2.out.wf.few; omega) md).mono ?_
          rintro e ww ⟨rfl, hbw⟩
          rw [HY.out.w]
          refine ⟨_, rfl, ?_⟩
          have HBW := Aside0.mk ((Below.refl w5.heap.size w5).drew.trans hbw)
          clear hbw
          refine hK.out _ _ HBW.out (fun hHeld => ?_)
          clear hK K
          refine norm_ (a' := ?_) ?_ ?_
          rotate_left
          · show Act.put _ (some 138) _ = _
            simp only [Act.put, List.setIfInBounds_toArray, List.set_cons_zero, List.set_cons_succ, i64_w, i32_w]
            rfl
          refine pure_ (i := 43) (N := some 139) (v := ?_) (a' := ?_) #[true, true, true, true, true, true, true, true, true, true, true, true, true, true, true, true, true, true, true, true, true, true, true, true, true, true, true, true, true, true, true, true, true, true, true, true, true, true, true, true, true, true, true, true, false, false] rfl rfl (by kernel_rfl) (fun _ _ _ h => h) (Or.inl ⟨by rfl, ?_⟩) ?_ ?_
          rotate_left
          · intro w'
            go_simp
            with_reducible rfl
          rotate_left
          · simp only [Act.put, List.setIfInBounds_toArray, List.set_cons_zero, List.set_cons_succ, i64_w, i32_w]
            rfl
          refine pure_ (i := 44) (N := some 140) (v := ?_) (a' := ?_) #[true, true, true, true, true, true, true, true, true, true, true, true, true, true, true, true, true, true, true, true, true, true, true, true, true, true, true, true, true, true, true, true, true, true, true, true, true, true, true, true, true, true, true, true, true, false] rfl rfl (by kernel_rfl) (fun _ _ _ h => h) (Or.inl ⟨by rfl, ?_⟩) ?_ ?_
          rotate_left
          · intro w'
            go_simp
            with_reducible rfl
          rotate_left
          · simp only [Act.put, List.setIfInBounds_toArray, List.set_cons_zero, List.set_cons_succ, i64_w, i32_w]
            rfl
          refine pure_ (i := 45) (N := some 18) (v := ?_) (a' := ?_) #[true, true, true, true, true, true, true, true, true, true, true, true, true, true, true, true, true, true, true, true, true, true, true, true, true, true, true, true, true, true, true, true, true, true, true, true, true, true, true, true, true, true, true, true, true, true] rfl rfl (by kernel_rfl) (fun _ _ _ h => h) (Or.inl ⟨by rfl, ?_⟩) ?_ ?_
          rotate_left
          · intro w'
            go_simp
            with_reducible rfl
          rotate_left
          · simp only [Act.put, List.setIfInBounds_toArray, List.set_cons_zero, List.set_cons_succ, i64_w, i32_w]
            rfl
          refine done_ (by kernel_rfl) ?_
          (try simp only [Exit.inBlock, Exit.then])
          clear hHeld hcv
          go_wp2_with fail
          clear hwj
          go_roundg (gk - 1)
          case measure => omega
          case rel => exact ⟨j + 1, by push_cast; rfl, by omega, by rw [HFE.out, HFT.out], ⟨HB5.out.trans (HBW.out.mono HB5.out.size)⟩⟩
        · have HFN := Aside0.mk (show fn = fo by rw [HSN.out, show (e0.f0 == (gv : Int)) = false from beq_eq_false_iff_ne.2 he]; cases fo <;> rfl)
          have hb1 : (e0.f0 == (gv : Int)) = false := beq_eq_false_iff_ne.2 he
          clear q1 q2 q3 q4 q5 q6 q7 q8 q9 q10 p1 p3 p4 p5 p6 p7 p8
          go_upto_region 23 with fail
          refine start_ (n := 8) (S := fun w' => Below wr.heap.size wr w') (ds := []) #[false, false, false, false, false, false, false, false] (by kernel_rfl) rfl rfl (by exact (Below.refl _ _).drew) (fun hHeld => ?_)
          refine pure_ (i := 0) (N := some 88) (v := ?_) (a' := ?_) #[true, false, false, false, false, false, false, false] rfl rfl (by kernel_rfl) (fun _ _ _ h => h) (Or.inl ⟨by rfl, ?_⟩) ?_ ?_
          rotate_left
          · intro w'
            go_simp
            with_reducible rfl
          rotate_left
          · simp only [Act.put, List.setIfInBounds_toArray, List.set_cons_zero, List.set_cons_succ, i64_w, i32_w]
            rfl
          refine pure_ (i := 1) (N := some 89) (v := ?_) (a' := ?_) #[true, true, false, false, false, false, false, false] rfl rfl (by kernel_rfl) (fun _ _ _ h => h) (Or.inl ⟨by rfl, ?_⟩) ?_ ?_
          rotate_left
          · intro w'
            go_simp
            with_reducible rfl
          rotate_left
          · simp only [Act.put, List.setIfInBounds_toArray, List.set_cons_zero, List.set_cons_succ, i64_w, i32_w]
            rfl
          refine pure_ (i := 2) (N := some 90) (v := ?_) (a' := ?_) #[true, true, true, false, false, false, false, false] rfl rfl (by kernel_rfl) (fun _ _ _ h => h) (Or.inl ⟨by rfl, ?_⟩) ?_ ?_
          rotate_left
          · intro w'
            go_simp
            with_reducible rfl
          rotate_left
          · simp only [Act.put, List.setIfInBounds_toArray, List.set_cons_zero, List.set_cons_succ, i64_w, i32_w]
            rfl
          refine pure_ (i := 3) (N := some 91) (v := ?_) (a' := ?_) #[true, true, true, true, false, false, false, false] rfl rfl (by kernel_rfl) (fun _ _ _ h => h) (Or.inl ⟨by rfl, ?_⟩) ?_ ?_
          rotate_left
          · intro w'
            go_simp
            with_reducible rfl
          rotate_left
          · simp only [Act.put, List.setIfInBounds_toArray, List.set_cons_zero, List.set_cons_succ, i64_w, i32_w]
            rfl
          refine pure_ (i := 5) (N := some 93) (v := ?_) (a' := ?_) #[true, true, true, true, false, true, false, false] rfl rfl (by kernel_rfl) (fun _ _ _ h => h) (Or.inl ⟨by rfl, ?_⟩) ?_ ?_
          rotate_left
          · intro w'
            go_simp
            with_reducible rfl
          rotate_left
          · simp only [Act.put, List.setIfInBounds_toArray, List.set_cons_zero, List.set_cons_succ, i64_w, i32_w]
            rfl
          refine take_ (i := 4) (N := some 92) (v := ?_) (a' := ?_) #[true, true, true, true, true, true, false, false] rfl rfl (by kernel_rfl) (fun _ _ _ h => h) (Or.inl ⟨by rfl, ?_⟩) hHeld ?_ ?_
          rotate_left
          · rintro w' s0
            have hq := fun (a : Addr) (v : Value) (h : wr.cell? a = some v) => (s0.cell (World.block_lt_of_cell? _ _ h)).trans h
            obtain ⟨q0, q1, q2, q3, q4, q5, q6, q7, q8, q9, q10⟩ := HCC.out
            obtain ⟨p0, p1, p3, p4, p5, p6, p7, p8⟩ := HPP.out
            replace q0 := hq _ _ q0
            replace p0 := hq _ _ p0
            clear hq q1 q2 q3 q4 q5 q6 q7 q8 q9 q10 p1 p3 p4 p5 p6 p7 p8
            go_simp
            with_reducible rfl
          rotate_left
          · simp only [Act.put, List.setIfInBounds_toArray, List.set_cons_zero, List.set_cons_succ, i64_w, i32_w]
            rfl
          refine take_ (i := 6) (N := some 94) (v := ?_) (a' := ?_) #[true, true, true, true, true, true, true, false] rfl rfl (by kernel_rfl) (fun _ _ _ h => h) (Or.inl ⟨by rfl, ?_⟩) hHeld ?_ ?_
          rotate_left
          · rintro w' s0
            have hq := fun (a : Addr) (v : Value) (h : wr.cell? a = some v) => (s0.cell (World.block_lt_of_cell? _ _ h)).trans h
            obtain ⟨q0, q1, q2, q3, q4, q5, q6, q7, q8, q9, q10⟩ := HCC.out
            obtain ⟨p0, p1, p3, p4, p5, p6, p7, p8⟩ := HPP.out
            replace q0 := hq _ _ q0
            replace p0 := hq _ _ p0
            clear hq q1 q2 q3 q4 q5 q6 q7 q8 q9 q10 p1 p3 p4 p5 p6 p7 p8
            go_simp
            with_reducible rfl
          rotate_left
          · simp only [Act.put, List.setIfInBounds_toArray, List.set_cons_zero, List.set_cons_succ, i64_w, i32_w]
            rfl
          refine pure_ (i := 7) (N := some 95) (v := ?_) (a' := ?_) #[true, true, true, true, true, true, true, true] rfl rfl (by kernel_rfl) (fun _ _ _ h => h) (Or.inl ⟨by rfl, ?_⟩) ?_ ?_
          rotate_left
          · intro w'
            go_simp
            with_reducible rfl
          rotate_left
          · simp only [Act.put, List.setIfInBounds_toArray, List.set_cons_zero, List.set_cons_succ, i64_w, i32_w]
            rfl
          refine done_ (by kernel_rfl) ?_
          (try simp only [Exit.inBlock, Exit.then])
          clear hHeld q0 p0
          go_wp2_with fail
          clear hwj
          go_roundg (gk - 1)
          case measure => omega
          case rel => exact ⟨j + 1, by push_cast; rfl, by omega, by rw [HFE.out, HFN.out], ⟨HB.out.drew⟩⟩
      · have hk1 : ¬ (j : Int) < (L.length : Int) := by omega
        have hd : decide ((j : Int) < (L.length : Int)) = false := decide_eq_false hk1
        have hall : (L.take j).any (fun q => q.f0 == (gv : Int)) = true := by
          rw [List.take_of_length_le (by omega), List.any_eq_true]
          have h1 := HY.out.has
          rw [HLE.out] at h1
          exact ⟨_, h1, by rw [HY.out.ye]; simp⟩
        rw [hall]
        have HMF := Aside0.mk (HMP2.out.below HB.out)
        obtain ⟨r0, r1, r2⟩ := cells3 (blk_below HR2.out HB.out)
        clear hall
        go_wp2_with fail
        refine (lives16_calls _).mono ?_
        rintro e wl ⟨rfl, hb⟩
        have HLL := Aside0.mk (HMF.out.lo.trans (hb.mono HMF.out.lo.size))
        clear hb
        go_wp2_with fail
        go_ret
        exact ⟨rfl, (show Below w.heap.size w w0 by have h := H0.out; rwa [← HDW.out] at h).trans (HLL.out.mono H0.out.size)⟩
end
end Go.Proofs.Ytalmemcidbmdgaa.PM



/- A parameter of asks (lookasidelaw16.Ask), opened; operations, pages. -/
set_option linter.unusedVariables false
namespace Go.Proofs.Ytalmemcidbmdgaa.OpenA
open Go.WideMaps Go.Joins Go.ChangeShapes Go.WideShapes Go.RowKit Go.Deep Go.Proofs.Ytalmemcidbmdgaa.PM Go.Proofs.Ytalmemcidbmdgaa.OpenR
theorem cInt : Try.prog.cellsOf 3 = 1 := by kernel_rfl
theorem cBool : Try.prog.cellsOf 4 = 1 := by kernel_rfl
theorem cU64 : Try.prog.cellsOf 23 = 1 := by kernel_rfl
theorem cU8 : Try.prog.cellsOf 5 = 1 := by kernel_rfl
theorem cAttr : Try.prog.cellsOf 34 = 6 := by kernel_rfl
theorem cAcc : Try.prog.cellsOf 32 = 3 := by kernel_rfl
theorem cOp : Try.prog.cellsOf 36 = 16 := by kernel_rfl
theorem cAsk : Try.prog.cellsOf 39 = 19 := by kernel_rfl
theorem cPage : Try.prog.cellsOf 50 = 11 := by kernel_rfl
theorem list3 {α : Type} {l : List α} (h : l.length = 3) : ∃ a b c, l = [a, b, c] := by
  match l, h with
  | [a, b, c], _ => exact ⟨a, b, c, rfl⟩
theorem list6 {α : Type} {l : List α} (h : l.length = 6) : ∃ a b c d e f, l = [a, b, c, d, e, f] := by
  match l, h with
  | [a, b, c, d, e, f], _ => exact ⟨a, b, c, d, e, f, rfl⟩
theorem list11 {α : Type} {l : List α} (h : l.length = 11) : ∃ a b c d e f g h i j k, l = [a, b, c, d, e, f, g, h, i, j, k] := by
  match l, h with
  | [a, b, c, d, e, f, g, h, i, j, k], _ => exact ⟨a, b, c, d, e, f, g, h, i, j, k, rfl⟩
theorem list16 {α : Type} {l : List α} (h : l.length = 16) : ∃ a b c d e f g h i j k m n o p q, l = [a, b, c, d, e, f, g, h, i, j, k, m, n, o, p, q] := by
  match l, h with
  | [a, b, c, d, e, f, g, h, i, j, k, m, n, o, p, q], _ => exact ⟨a, b, c, d, e, f, g, h, i, j, k, m, n, o, p, q, rfl⟩
theorem list19 {α : Type} {l : List α} (h : l.length = 19) : ∃ a b c d e f g h i j k m n o p q r s t, l = [a, b, c, d, e, f, g, h, i, j, k, m, n, o, p, q, r, s, t] := by
  match l, h with
  | [a, b, c, d, e, f, g, h, i, j, k, m, n, o, p, q, r, s, t], _ => exact ⟨a, b, c, d, e, f, g, h, i, j, k, m, n, o, p, q, r, s, t, rfl⟩
theorem w64 {k : Int} (h : (Lit.int .i64 k).wf = true) : W64 k := by
  simp [Lit.wf, IntKind.min, IntKind.max, IntKind.signed, IntKind.bits] at h
  unfold W64
  omega
theorem wu64 {k : Int} (h : (Lit.int .u64 k).wf = true) : 0 ≤ k ∧ k < 2 ^ 64 := by
  simp [Lit.wf, IntKind.min, IntKind.max, IntKind.signed, IntKind.bits] at h
  omega
theorem wu8 {n : Int} (h : (Lit.int .u8 n).wf = true) : 0 ≤ n ∧ n < 256 := by
  have := bounds_u8 h
  omega
theorem fld {H : Type} {enc : TypeId × Value → H} {P : Program} {W : World} {n : Nat} {fs : Array Field} {cs : List Value} {xs : List (DataW H × List MemPlace)} (hf : ∀ (i : Nat) (f : Field), fs[i]? = some f → DataW.trod enc P W 0 (fun _ => true) true n f.type ((cs.drop f.offset).take (P.cellsOf f.type)) = xs[i]?) (hlen : xs.length = fs.size)
    (i : Nat) (t : TypeId) (o k : Nat) (hi : (fs[i]?).map (fun f => (f.type, f.offset)) = some (t, o)) (hc : P.cellsOf t = k) : ∃ y, DataW.trod enc P W 0 (fun _ => true) true n t ((cs.drop o).take k) = some y := by
  cases hq : fs[i]? with
  | none => rw [hq] at hi; simp at hi
  | some f =>
    rw [hq] at hi
    simp at hi
    have h := hf i f hq
    rw [hi.1, hi.2, hc] at h
    have hlt : i < xs.length := by rw [hlen]; exact (Array.getElem?_eq_some_iff.1 hq).1
    rw [List.getElem?_eq_getElem hlt] at h
    exact ⟨_, h⟩
section
variable {H : Type} {enc : TypeId × Value → H} {W : World}
set_option maxRecDepth 100000 in
theorem attr_open {n : Nat} {cs : List Value} {x : DataW H × List MemPlace} (h : DataW.trod enc Try.prog W 0 (fun _ => true) true n 34 cs = some x) :
    ∃ a : Atr, cs = [.bool a.f0, .bool a.f1, .bool a.f2, .bool a.f3, .bool a.f4, .bool a.f5] := by
  obtain ⟨xs, m, _, rfl, hl, hlen, hf⟩ := DataW.trod_struct Try.underlying34 h
  rw [cAttr] at hl
  obtain ⟨c0, c1, c2, c3, c4, c5, rfl⟩ := list6 hl
  obtain ⟨y0, h0⟩ := fld hf hlen 0 4 0 1 rfl cBool
  obtain ⟨y1, h1⟩ := fld hf hlen 1 4 1 1 rfl cBool
  obtain ⟨y2, h2⟩ := fld hf hlen 2 4 2 1 rfl cBool
  obtain ⟨y3, h3⟩ := fld hf hlen 3 4 3 1 rfl cBool
  obtain ⟨y4, h4⟩ := fld hf hlen 4 4 4 1 rfl cBool
  obtain ⟨y5, h5⟩ := fld hf hlen 5 4 5 1 rfl cBool
  obtain ⟨a0, e0, _⟩ := DataW.trod_bool Try.underlying4 h0
  obtain ⟨a1, e1, _⟩ := DataW.trod_bool Try.underlying4 h1
  obtain ⟨a2, e2, _⟩ := DataW.trod_bool Try.underlying4 h2
  obtain ⟨a3, e3, _⟩ := DataW.trod_bool Try.underlying4 h3
  obtain ⟨a4, e4, _⟩ := DataW.trod_bool Try.underlying4 h4
  obtain ⟨a5, e5, _⟩ := DataW.trod_bool Try.underlying4 h5
  simp at e0 e1 e2 e3 e4 e5
  subst e0 e1 e2 e3 e4 e5
  exact ⟨⟨a0, a1, a2, a3, a4, a5⟩, rfl⟩
set_option maxRecDepth 100000 in
theorem acc_open {n : Nat} {cs : List Value} {x : DataW H × List MemPlace} (h : DataW.trod enc Try.prog W 0 (fun _ => true) true n 32 cs = some x) :
    ∃ (k : Int) (p : Bool) (v : Int), cs = [.int .i64 k, .bool p, .int .u64 v] ∧ W64 k ∧ (0 ≤ v ∧ v < 2 ^ 64) := by
  obtain ⟨xs, m, _, rfl, hl, hlen, hf⟩ := DataW.trod_struct Try.underlying32 h
  rw [cAcc] at hl
  obtain ⟨c0, c1, c2, rfl⟩ := list3 hl
  obtain ⟨y0, h0⟩ := fld hf hlen 0 3 0 1 rfl cInt
  obtain ⟨y1, h1⟩ := fld hf hlen 1 4 1 1 rfl cBool
  obtain ⟨y2, h2⟩ := fld hf hlen 2 23 2 1 rfl cU64
  obtain ⟨a0, e0, _, w0⟩ := DataW.trod_int Try.underlying3 h0
  obtain ⟨a1, e1, _⟩ := DataW.trod_bool Try.underlying4 h1
  obtain ⟨a2, e2, _, w2⟩ := DataW.trod_int Try.underlying23 h2
  simp at e0 e1 e2
  subst e0 e1 e2
  exact ⟨a0, a1, a2, rfl, w64 w0, wu64 w2⟩
set_option maxRecDepth 100000 in
theorem op_open {n : Nat} {cs : List Value} {x : DataW H × List MemPlace} (h : DataW.trod enc Try.prog W 0 (fun _ => true) true n 36 cs = some x) :
    ∃ o : OpS, cs = [.int .i64 o.kind, .int .i64 o.sp, .int .i64 o.ak, .bool o.ap, .int .u64 o.av, .int .u8 o.byte, .int .u64 o.va, .int .i64 o.size, .bool o.at_.f0, .bool o.at_.f1, .bool o.at_.f2, .bool o.at_.f3, .bool o.at_.f4, .bool o.at_.f5, .int .i64 o.other, .int .u64 o.too] ∧ WO o := by
  obtain ⟨xs, m, _, rfl, hl, hlen, hf⟩ := DataW.trod_struct Try.underlying36 h
  rw [cOp] at hl
  obtain ⟨c0, c1, c2, c3, c4, c5, c6, c7, c8, c9, c10, c11, c12, c13, c14, c15, rfl⟩ := list16 hl
  obtain ⟨y0, h0⟩ := fld hf hlen 0 3 0 1 rfl cInt
  obtain ⟨y1, h1⟩ := fld hf hlen 1 3 1 1 rfl cInt
  obtain ⟨y2, h2⟩ := fld hf hlen 2 32 2 3 rfl cAcc
  obtain ⟨y3, h3⟩ := fld hf hlen 3 5 5 1 rfl cU8
  obtain ⟨y4, h4⟩ := fld hf hlen 4 23 6 1 rfl cU64
  obtain ⟨y5, h5⟩ := fld hf hlen 5 3 7 1 rfl cInt
  obtain ⟨y6, h6⟩ := fld hf hlen 6 34 8 6 rfl cAttr
  obtain ⟨y7, h7⟩ := fld hf hlen 7 3 14 1 rfl cInt
  obtain ⟨y8, h8⟩ := fld hf hlen 8 23 15 1 rfl cU64
  obtain ⟨a0, e0, _, w0⟩ := DataW.trod_int Try.underlying3 h0
  obtain ⟨a1, e1, _, w1⟩ := DataW.trod_int Try.underlying3 h1
  obtain ⟨k, p, v, e2, wk, wv⟩ := acc_open h2
  obtain ⟨a3, e3, _, w3⟩ := DataW.trod_int Try.underlying5 h3
  obtain ⟨a4, e4, _, w4⟩ := DataW.trod_int Try.underlying23 h4
  obtain ⟨a5, e5, _, w5⟩ := DataW.trod_int Try.underlying3 h5
  obtain ⟨a6, e6⟩ := attr_open h6
  obtain ⟨a7, e7, _, w7⟩ := DataW.trod_int Try.underlying3 h7
  obtain ⟨a8, e8, _, w8⟩ := DataW.trod_int Try.underlying23 h8
  simp at e0 e1 e2 e3 e4 e5 e6 e7 e8
  obtain ⟨rfl, rfl, rfl⟩ := e2
  obtain ⟨rfl, rfl, rfl, rfl, rfl, rfl⟩ := e6
  subst e0 e1 e3 e4 e5 e7 e8
  exact ⟨⟨a0, a1, k, p, v, a3, a4, a5, a6, a7, a8⟩, rfl, w64 w0, wk, w64 w1, wu64 w4, wu64 w8, wv, w64 w7, w64 w5, wu8 w3⟩
set_option maxRecDepth 100000 in
theorem ask_open {n : Nat} {cs : List Value} {x : DataW H × List MemPlace} (h : DataW.trod enc Try.prog W 0 (fun _ => true) true n 39 cs = some x) :
    ∃ a : AskS, cs = encA a ∧ GoodA W a := by
  obtain ⟨xs, m, _, rfl, hl, hlen, hf⟩ := DataW.trod_struct Try.underlying39 h
  rw [cAsk] at hl
  obtain ⟨c0, c1, c2, c3, c4, c5, c6, c7, c8, c9, c10, c11, c12, c13, c14, c15, c16, c17, c18, rfl⟩ := list19 hl
  obtain ⟨y0, h0⟩ := fld hf hlen 0 36 0 16 rfl cOp
  obtain ⟨y1, h1⟩ := fld hf hlen 1 4 16 1 rfl cBool
  obtain ⟨y2, h2⟩ := fld hf hlen 2 4 17 1 rfl cBool
  obtain ⟨y3, h3⟩ := fld hf hlen 3 3 18 1 rfl cInt
  obtain ⟨o, e0, w0⟩ := op_open h0
  obtain ⟨a1, e1, _⟩ := DataW.trod_bool Try.underlying4 h1
  obtain ⟨a2, e2, _⟩ := DataW.trod_bool Try.underlying4 h2
  obtain ⟨a3, e3, _, w3⟩ := DataW.trod_int Try.underlying3 h3
  simp at e0 e1 e2 e3
  obtain ⟨rfl, rfl, rfl, rfl, rfl, rfl, rfl, rfl, rfl, rfl, rfl, rfl, rfl, rfl, rfl, rfl⟩ := e0
  subst e1 e2 e3
  exact ⟨⟨o, a1, a2, a3⟩, rfl, w0, w64 w3⟩
set_option maxRecDepth 100000 in
theorem open_asks {v : Value} {d : DataW H} {p : List MemPlace} (hval : Value.okWide Try.prog W .any 0 22 v) (h : DataW.Trod enc Try.prog W 0 (fun _ => true) true 22 v d p) :
    ∃ (A : Option Addr) (c : Nat) (xs : List AskS), v = .slice A xs.length c ∧ xs.length ≤ c ∧ xs.length ≤ maxLen ∧ Row 19 encA GoodA W A xs :=
  open_row (P := Try.prog) (T := 22) (E := 39) (en := encA) (Good := GoodA) (n := 19) Try.underlying22 cAsk (fun _ => rfl) (fun _ _ _ h => ask_open h) hval h
/-- A page as a parameter. -/
structure OkPg (p : Pg) : Prop where
  va : 0 ≤ p.f0 ∧ p.f0 < 2 ^ 64
  sz : W64 p.f1
  pa : 0 ≤ p.f2 ∧ p.f2 < 2 ^ 64
set_option maxRecDepth 100000 in
theorem page_open {n : Nat} {cs : List Value} {x : DataW H × List MemPlace} (h : DataW.trod enc Try.prog W 0 (fun _ => true) true n 50 cs = some x) :
    ∃ p : Pg, cs = encPg p ∧ OkPg p := by
  obtain ⟨xs, m, _, rfl, hl, hlen, hf⟩ := DataW.trod_struct Try.underlying50 h
  rw [cPage] at hl
  obtain ⟨c0, c1, c2, c3, c4, c5, c6, c7, c8, c9, c10, rfl⟩ := list11 hl
  obtain ⟨y0, h0⟩ := fld hf hlen 0 23 0 1 rfl cU64
  obtain ⟨y1, h1⟩ := fld hf hlen 1 3 1 1 rfl cInt
  obtain ⟨y2, h2⟩ := fld hf hlen 2 23 2 1 rfl cU64
  obtain ⟨y3, h3⟩ := fld hf hlen 3 34 3 6 rfl cAttr
  obtain ⟨y4, h4⟩ := fld hf hlen 4 4 9 1 rfl cBool
  obtain ⟨y5, h5⟩ := fld hf hlen 5 4 10 1 rfl cBool
  obtain ⟨a0, e0, _, w0⟩ := DataW.trod_int Try.underlying23 h0
  obtain ⟨a1, e1, _, w1⟩ := DataW.trod_int Try.underlying3 h1
  obtain ⟨a2, e2, _, w2⟩ := DataW.trod_int Try.underlying23 h2
  obtain ⟨a3, e3⟩ := attr_open h3
  obtain ⟨a4, e4, _⟩ := DataW.trod_bool Try.underlying4 h4
  obtain ⟨a5, e5, _⟩ := DataW.trod_bool Try.underlying4 h5
  simp at e0 e1 e2 e3 e4 e5
  obtain ⟨rfl, rfl, rfl, rfl, rfl, rfl⟩ := e3
  subst e0 e1 e2 e4 e5
  exact ⟨⟨a0, a1, a2, a3, a4, a5⟩, rfl, wu64 w0, w64 w1, wu64 w2⟩
set_option maxRecDepth 100000 in
theorem open_page {v : Value} {d : DataW H} {p : List MemPlace} (hval : Value.okWide Try.prog W .any 0 50 v) (h : DataW.Trod enc Try.prog W 0 (fun _ => true) true 50 v d p) :
    ∃ q : Pg, v = .agg #[.int .u64 q.f0, .int .i64 q.f1, .int .u64 q.f2, .bool q.f3.f0, .bool q.f3.f1, .bool q.f3.f2, .bool q.f3.f3, .bool q.f3.f4, .bool q.f3.f5, .bool q.f4, .bool q.f5] ∧ OkPg q := by
  obtain ⟨cs, rfl, hsz⟩ := okWide_struct Try.underlying50 hval
  obtain ⟨fuel, hf⟩ := h
  obtain ⟨q, e, hq⟩ := page_open hf
  refine ⟨q, ?_, hq⟩
  have e2 : cs.toList = encPg q := e
  obtain ⟨l⟩ := cs
  have e3 : l = encPg q := e2
  subst e3
  rfl
end
end Go.Proofs.Ytalmemcidbmdgaa.OpenA


namespace Go.Proofs.Ytalmemcidbmdgaa.modelFresh
open Go.ChangeShapes Go.WideShapes Go.ChangeAt Go.RowKit
set_option linter.unusedVariables false
theorem own : ownKnob Try.prog.godebug = none := by kernel_rfl
theorem laid : laidOutB Try.prog = true := by kernel_rfl
theorem rec22 : Try.prog.readableRec 22 = true := by kernel_rfl
theorem lt22 : 22 < Try.prog.types.size := of_decide_eq_true (by kernel_rfl)
theorem rec23 : Try.prog.readableRec 23 = true := by kernel_rfl
theorem lt23 : 23 < Try.prog.types.size := of_decide_eq_true (by kernel_rfl)
theorem rec50 : Try.prog.readableRec 50 = true := by kernel_rfl
theorem lt50 : 50 < Try.prog.types.size := of_decide_eq_true (by kernel_rfl)
set_option maxRecDepth 100000 in
theorem lifted (os : Os) (started : os.Started) (H : Type) (enc : TypeId × Value → H) :
    ReturnsInHanded {} Try.checked os 4 .any (Rows.modelFreshSpec.pre6 enc Try.prog Try.f4 Rows.modelFreshRow.domain false) (Rows.modelFreshSpec.post enc Try.prog Try.f4 false true false false) := by
  refine returnsInHanded_of_change_sized (C := Try.checked) own started (by kernel_rfl) Try.func4
    (ChangeSpec.witness6 (enc := enc) (C := Try.checked) false ⟨#[], #[.slice none 0 0, .agg #[.int .u64 0, .int .i64 0, .int .u64 0, .bool false, .bool false, .bool false, .bool false, .bool false, .bool false, .bool false, .bool false], .int .u64 0], []⟩ 8 (by kernel_rfl) (by kernel_rfl) (by kernel_rfl) (by kernel_rfl)) ?_
  intro W base args ds gs before hval0 hW hcnd hsz0 _
  have hval : ∀ (j : Nat) t v, Try.f4.params[j]? = some t → args[j]? = some v → Value.okWide Try.prog W .any base t v := hval0
  have hW' := hW
  obtain ⟨p, q, hA0, hV, rfl, hfz, hnd⟩ := hW
  have hA : DataW.TrodAll enc Try.prog W 0 (fun _ => true) true Try.f4.params.toList args.toList ds p := hA0
  rw [Try.params4] at hA hval
  obtain ⟨v0, vs0, d0, ds0, p0, q0, hargs, rfl, rfl, h0, r0⟩ := trodAll_cons hA
  obtain ⟨v1, vs1, d1, ds1, p1, q1, rfl, rfl, rfl, h1, r1⟩ := trodAll_cons r0
  obtain ⟨v2, vs2, d2, ds2, p2, q2, rfl, rfl, rfl, h2, r2⟩ := trodAll_cons r1
  obtain ⟨rfl, rfl, rfl⟩ := trodAll_nil r2
  obtain rfl : args = #[v0, v1, v2] := by cases args; simp_all
  obtain ⟨rfl, rfl⟩ := trodVars_none hV
  have hlt0 : ∀ x ∈ p0, x.block < W.heap.size := fun x hx => by
    obtain ⟨fuel, hf⟩ := h0
    exact DataW.trod_lt fuel _ _ _ hf x hx
  have hlt1 : ∀ x ∈ p1, x.block < W.heap.size := fun x hx => by
    obtain ⟨fuel, hf⟩ := h1
    exact DataW.trod_lt fuel _ _ _ hf x hx
  have hlt2 : ∀ x ∈ p2, x.block < W.heap.size := fun x hx => by
    obtain ⟨fuel, hf⟩ := h2
    exact DataW.trod_lt fuel _ _ _ hf x hx
  obtain ⟨A, c, xs, rfl, hxc, hxl, hrow⟩ := OpenA.open_asks (hval 0 22 v0 rfl rfl) h0
  obtain ⟨p, rfl, hp⟩ := OpenA.open_page (hval 1 50 v1 rfl rfl) h1
  obtain ⟨off, rfl, hoff⟩ : ∃ a, v2 = .int .u64 a ∧ (Lit.int .u64 a).wf = true := (open_int Try.underlying23 (hval 2 23 v2 rfl rfl) h2).elim fun a h => ⟨a, h.1, h.2.2.2⟩
  clear hA0 hval0 hsz0
  refine (PM.fresh_law A c xs hrow p hp.va hp.sz hp.pa off hoff).mono fun e W' ⟨he, bel⟩ => ?_
  subst he
  exact ⟨_, rfl, _, _, _, [], _, [], hW', trodAll_mk1 (shut_bool Try.underlying4 _), (trodAll_cons_mk (Below.trod laid rec22 lt22 h0 bel hlt0) (trodAll_cons_mk (Below.trod laid rec50 lt50 h1 bel hlt1) (trodAll_cons_mk (Below.trod laid rec23 lt23 h2 bel hlt2) trodAll_mk0))), rfl, bel.frame _, fun h => by cases h⟩
theorem over : Rows.modelFreshRow.holds Try.pinned (OpenSpec.ofChange Rows.modelFreshSpec) :=
  OpenClaim.holds_of_wide 4 Try.f4 rfl rfl rfl rfl rfl rfl rfl ⟨rfl, rfl, rfl, rfl, rfl⟩ rfl rfl rfl rfl rfl (by kernel_rfl) Try.func4 (by kernel_rfl)
    (of_decide_eq_true (by kernel_rfl)) (by unfold Func.isWrapper; first | (rw [if_pos (by decide +kernel)]; kernel_rfl) | (rw [if_neg (by decide +kernel)]; exact ⟨rfl, rfl⟩))
    (fun os started H enc _ => lifted os started H enc)
theorem proved : Rows.ModelFreshSaid := over
#print axioms proved
end Go.Proofs.Ytalmemcidbmdgaa.modelFresh
namespace Go.Proofs.Ytalmemcidbmdgaa
/-- The row, under a short name, for the claim. -/
theorem modelFresh_holds : Rows.ModelFreshSaid := modelFresh.proved
end Go.Proofs.Ytalmemcidbmdgaa

