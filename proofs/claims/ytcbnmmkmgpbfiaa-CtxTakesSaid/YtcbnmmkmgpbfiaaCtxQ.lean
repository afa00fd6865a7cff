/- A pool of numbers (layer 14): a number given, and stolen. Written by mkctxq.py over ctxq.txt. -/
import Derived.Test.YtcbnmmkmgpbfiaaCtxO
namespace Go.Proofs.Ytcbnmmkmgpbfiaa.PP
open Go.RowKit Go.Proofs.Ytcbnmmkmgpbfiaa.PX Go.Proofs.YtcbnmmkmgpbfiaaW.PrintWords Go.Proofs.YtcbnmmkmgpbfiaaW.PrintLast Go.Proofs.YtcbnmmkmgpbfiaaW.PrintMore
attribute [local go_sem] max2_int min2_int max_two min_two max_three min_three max_four min_four   -- for this text's walks alone
set_option linter.unusedVariables false
set_option linter.unusedSimpArgs false
def GiveP (base B bm : Nat) (vo : Value) (os : List Int) (f : Int → Option Int) (c : Nat) (hand rounds : Int) (s : Int) (w : World) (e : Ending) (w' : World) : Prop :=
  match f s with
  | none => e = .returned (.tuple #[.int .i64 0, .int .i64 10]) ∧ PA w' base B bm vo os f c hand rounds ∧ Mv (pid B bm vo) w w'
  | some n => e = .returned (.tuple #[.int .i64 n, .int .i64 0]) ∧ PA w' base B bm vo (os.set (n - 1).toNat (-1)) (fun j => if j = s then none else f j) (c - 1) hand rounds ∧ Mv (pid B bm vo) w w'
section
variable {w w1 w' : World} {base B bm : Nat} {vo : Value} {os : List Int} {f : Int → Option Int} {c : Nat} {hand rounds : Int}
theorem Mv.refl (S : List Nat) (w : World) : Mv S w w := Mv.of_below (Below.refl _ _)
theorem PA.drop (h : PA w base B bm vo os f c hand rounds) {s : Int} (hs : Wf s) : ∃ wd, (Builtin.delete_ #[101, 3] 0 #[.map (some bm), .int .i64 s]).run Try.prog w = .ok (.tuple #[]) wd ∧
    PA wd base B bm vo os (fun j => if j = s then none else f j) (c - (if (f s).isSome then 1 else 0)) hand rounds ∧ Mv (pid B bm vo) w wd := by
  obtain ⟨wd, hdr, hdm, es, cl, es', cl', he, rfl⟩ := h.hM.drop hs 0
  refine ⟨_, hdr, ⟨?_, ?_, hdm, h.bB, h.bM⟩, (Mv.refl _ _).setBlock (mem_pid.2 (.inr (.inl rfl))) _⟩
  · exact (sb_other _ h.ne_Bm).trans h.hB
  · exact Kd.R_move h.hO fun k hk => sb_other _ (h.ne_o hk.symm).2
theorem PA.put (h : PA w base B bm vo os f c hand rounds) {i g : Nat} (hg : vo.ownBlock = some g) (x : Int) {cap n : Nat} (hv : vo = .slice (some ⟨g, 0, none⟩) n cap) : PA (w.setCell ⟨g, i, none⟩ (.int .i64 x)) base B bm vo (os.set i x) f c hand rounds where
  hB := (Below.heap_setCell w ⟨g, i, none⟩ _ B (Ne.symm (h.ne_o hg).1)).trans h.hB
  hO := by
    have hO := h.hO
    rw [hv] at hO ⊢
    have hput := Kd.R_putn hO (i : Int) x
    rw [Int.toNat_natCast] at hput
    exact hput
  hM := h.hM.move (Below.heap_setCell w ⟨g, i, none⟩ _ bm (Ne.symm (h.ne_o hg).2))
  bB := h.bB
  bM := h.bM
set_option maxHeartbeats 8000000 in
set_option maxRecDepth 100000 in
theorem give_calls (h : PA w base B bm vo os f c hand rounds) (s : Int) (hs : Wf s) (hl : os.length ≤ 10000) (hn : ∀ n, f s = some n → 1 ≤ n ∧ n ≤ (os.length : Int)) :
    Calls Try.prog 32 #[.pointer (some ⟨B, 0, none⟩), .int .i64 s] w (GiveP base B bm vo os f c hand rounds s w) := by
  have c0 := h.cell0
  have c1 := h.cell1
  have hlk := h.hM.look hs
  have HP := Aside0.mk h
  go_enter Try.func32, Try.ntmps32
  cases hf : f s with
  | none =>
    rw [hf] at hlk
    have hlk2 : (Instr.lookup 101 (.map (some bm)) (.int .i64 s) true).run Try.prog w = .ok (.tuple #[.int .i64 0, .bool false]) w := hlk
    clear hlk h
    obtain ⟨A, cap, rfl⟩ := HP.out.form
    go_wp2
    go_ret2
    unfold GiveP
    rw [hf]
    exact ⟨rfl, HP.out, Mv.of_below (Below.refl _ _)⟩
  | some n =>
    have HF := Aside0.mk hf
    rw [hf] at hlk
    have hlk2 : (Instr.lookup 101 (.map (some bm)) (.int .i64 s) true).run Try.prog w = .ok (.tuple #[.int .i64 n, .bool true]) w := hlk
    obtain ⟨wd, hdr, hda, hdt⟩ := h.drop hs
    clear hlk
    obtain ⟨hn1, hn2⟩ := hn n hf
    rw [hf] at hda
    clear hf hn
    obtain ⟨i, hi⟩ : ∃ i : Nat, n = (i : Int) + 1 := ⟨(n - 1).toNat, by omega⟩
    subst hi
    have hil : i < os.length := by omega
    obtain ⟨g, cap, hvo, hcg, hfg, hcap⟩ := hda.at hil
    subst hvo
    have d0 := hda.cell0
    have hwi : wrap64 (i : Int) = (i : Int) := by unfold wrap64; omega
    have hgp : (Value.slice (some ⟨g, 0, none⟩) os.length cap).ownBlock = some g := rfl
    have HD := Aside0.mk (hda.put hgp (i := i) (-1) rfl)
    have HDM := Aside0.mk (hdt.set (p := ⟨g, i, none⟩) (.inl (mem_pid.2 (.inr (.inr rfl)))) (.int .i64 (-1)))
    clear h hda hdt hgp
    go_wp2
    go_ret2
    unfold GiveP
    rw [HF.out]
    refine ⟨rfl, ?_, HDM.out⟩
    rw [show ((i : Int) + 1 - 1).toNat = i by omega]
    exact HD.out
end

end Go.Proofs.Ytcbnmmkmgpbfiaa.PP
