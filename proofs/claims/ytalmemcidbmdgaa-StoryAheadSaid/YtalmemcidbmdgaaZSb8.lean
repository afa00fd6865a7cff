import Derived.Test.YtalmemcidbmdgaaZSb7
import Derived.Deep.WholeRow
/- A model (layer 16): Do, in one. -/
set_option linter.unusedVariables false
set_option linter.unusedSimpArgs false
namespace Go.Proofs.Ytalmemcidbmdgaa.PM
open Go.RowKit Go.Proofs.YtalmemcidbmdgaaW.PrintWords Go.Proofs.YtalmemcidbmdgaaW.PrintLast Go.Proofs.YtalmemcidbmdgaaW.PrintMore Go.Proofs.Ytalmemcidbmdgaa.PageG
attribute [local go_sem] max2_int min2_int max_two min_two max_three min_three max_four min_four   -- for this text's walks alone
/-- A space's pages, as they rise. -/
def pagesS (s : MS) (sp : Int) : List Pg := (sel sp s.L).mergeSort (fun p q => decide (p.f0 ≤ q.f0))
def dropAt (sp : Int) (t : MS) (p : Pg) : MS := match find t.L sp p.f0.toNat with | some i => unmapS t i | none => t
def destS (s : MS) (sp : Int) : MS := (pagesS s sp).foldl (dropAt sp) s
def destroyR (s : MS) (o : OpS) : Int × MS := if isAll s.n [o.sp] = true then (0, destS s o.sp) else (1, s)
def protectR (s : MS) (o : OpS) : Int × MS := if o.at_.f4 = true then (1, s) else changeR s o (protS s o.at_)
def rep3 (r : Int × MS) : (Int × Int × Int) × MS := ((r.1, 0, 0), r.2)
/-- Do. -/
def doR (s : MS) (o : OpS) : (Int × Int × Int) × MS :=
  if o.kind = 0 then accessR s o
  else if o.kind = 1 then rep3 (mappedR s o)
  else if o.kind = 2 then rep3 (changeR s o (unmapS s))
  else if o.kind = 3 then rep3 (protectR s o)
  else if o.kind = 4 then rep3 (changeR s o (clearS s))
  else if o.kind = 5 then rep3 (shareR s o)
  else if o.kind = 6 then rep3 (growE s o, s)
  else if o.kind = 7 then rep3 (destroyR s o)
  else rep3 (1, s)
theorem pagesS_perm (s : MS) (sp : Int) : (pagesS s sp).Perm (sel sp s.L) := List.mergeSort_perm _ _
theorem DS.fold {s : MS} {sp : Int} {l : List Pg} (hw : WfL s.L) (hp : l.Perm (sel sp s.L)) : ∀ j, j ≤ l.length → DS s sp l j ((l.take j).foldl (dropAt sp) s)
  | 0, _ => DS.start hw hp
  | j + 1, hj => by
    have ih := DS.fold hw hp j (by omega)
    have hlt : j < l.length := by omega
    obtain ⟨i, x, hi, hx, hxp, hd⟩ := ih.next (List.getElem?_eq_getElem hlt)
    rw [List.take_succ_eq_append_getElem hlt, List.foldl_append]
    generalize (l.take j).foldl (dropAt sp) s = t at *
    show DS s sp l (j + 1) (dropAt sp t l[j])
    have hok := ih.wf.ok x (List.mem_of_getElem? hi)
    have hf : find t.L sp (l[j]).f0.toNat = some i := find_of ih.wf hi (by rw [← hxp]; exact hit_iff.2 ⟨hx, hok.st⟩)
    unfold dropAt
    rw [hf]
    show DS s sp l (j + 1) (unmapS t i)
    unfold unmapS
    rw [hi]
    exact hd
theorem dest_gone {s : MS} (hw : WfL s.L) (sp : Int) : Gone s sp (destS s sp) := by
  have h := DS.fold hw (pagesS_perm s sp) (pagesS s sp).length (Nat.le_refl _)
  rw [List.take_length] at h
  exact h.end
theorem BRel.congr {l : ML.En} {b b' : List Bt} (h : BRel l b) (e : ∀ r o, getB b' r o = getB b r o) : BRel l b' :=
  ⟨h.form, fun r o v hm => by rw [e]; exact h.has r o v hm, fun r o hm => by rw [e]; exact h.hasnt r o hm⟩
section
variable {w w' : World} {B pm bm : Nat} {s : MS}
theorem Mo.congr {s' : MS} (h : Mo w B pm bm s) (h1 : s'.n = s.n) (h2 : s'.L = s.L) (h3 : s'.made = s.made) (h4 : ∀ r o, getB s'.by_ r o = getB s.by_ r o) : Mo w B pm bm s' := by
  obtain ⟨l, hl, hr⟩ := h.hm
  exact ⟨by rw [h1, h3]; exact h.hb, by rw [h2]; exact h.hp, ⟨l, hl, hr.congr h4⟩, h.ne⟩
theorem gone_one {s t t' : MS} {sp : Int} (h : Gone s sp t) (h' : Gone s sp t') : t'.n = t.n ∧ t'.L = t.L ∧ t'.made = t.made ∧ ∀ r o, getB t'.by_ r o = getB t.by_ r o := by
  refine ⟨h'.n.trans h.n.symm, h'.L.trans h.L.symm, h'.made.trans h.made.symm, fun r o => ?_⟩
  rw [h.by_, h'.by_, h'.L, h.L]
theorem dest2_calls (h : Mo w B pm bm s) (hw : WfL s.L) (hf : s.L.length ≤ 100000) (o : OpS) :
    Calls Try.prog 45 #[.pointer (some ⟨B, 0, none⟩), Value.agg #[.int .i64 o.kind, .int .i64 o.sp, .int .i64 o.ak, .bool o.ap, .int .u64 o.av, .int .u8 o.byte, .int .u64 o.va, .int .i64 o.size, .bool o.at_.f0, .bool o.at_.f1, .bool o.at_.f2, .bool o.at_.f3, .bool o.at_.f4, .bool o.at_.f5, .int .i64 o.other, .int .u64 o.too]] w (Rep3 w B pm bm (rep3 (destroyR s o))) := by
  refine (destroy_calls h hw hf o).mono ?_
  rintro e w' ⟨n, t, rfl, hc, hm, hv⟩
  unfold destroyR
  rcases hc with ⟨hi, rfl, rfl⟩ | ⟨hi, rfl, hg⟩
  · rw [if_neg (by rw [hi]; simp)]
    exact ⟨rfl, hm, hv⟩
  · rw [if_pos hi]
    obtain ⟨e1, e2, e3, e4⟩ := gone_one hg (dest_gone hw o.sp)
    exact ⟨rfl, hm.congr e1 e2 e3 e4, hv⟩
set_option maxHeartbeats 8000000 in
set_option maxRecDepth 100000 in
theorem do_bad (h : Mo w B pm bm s) (o : OpS) (hk : ¬ (0 ≤ o.kind ∧ o.kind < 8)) :
    Calls Try.prog 14 #[.pointer (some ⟨B, 0, none⟩), Value.agg #[.int .i64 o.kind, .int .i64 o.sp, .int .i64 o.ak, .bool o.ap, .int .u64 o.av, .int .u8 o.byte, .int .u64 o.va, .int .i64 o.size, .bool o.at_.f0, .bool o.at_.f1, .bool o.at_.f2, .bool o.at_.f3, .bool o.at_.f4, .bool o.at_.f5, .int .i64 o.other, .int .u64 o.too]] w (Rep3 w B pm bm (rep3 (1, s))) := by
  have HM := Aside0.mk h
  clear h
  obtain ⟨D, hD⟩ : ∃ D, w.heap.size = D := ⟨_, rfl⟩
  by_cases h0 : o.kind < 0
  · have hd0 : decide (o.kind < 0) = true := decide_eq_true h0
    clear hk h0
    go_enter Try.func14, Try.ntmps14
    go_upto_region 2 with fail
    have hz := blk_new (w.alloc (.cells #[.int .i64 o.kind, .int .i64 o.sp, .int .i64 o.ak, .bool o.ap, .int .u64 o.av, .int .u8 o.byte, .int .u64 o.va, .int .i64 o.size, .bool o.at_.f0, .bool o.at_.f1, .bool o.at_.f2, .bool o.at_.f3, .bool o.at_.f4, .bool o.at_.f5, .int .i64 o.other, .int .u64 o.too] 36)) (.cells #[.int .i64 0, .int .i64 0, .int .u8 0] 42)
    have hb : Below w.heap.size w ((w.alloc (.cells #[.int .i64 o.kind, .int .i64 o.sp, .int .i64 o.ak, .bool o.ap, .int .u64 o.av, .int .u8 o.byte, .int .u64 o.va, .int .i64 o.size, .bool o.at_.f0, .bool o.at_.f1, .bool o.at_.f2, .bool o.at_.f3, .bool o.at_.f4, .bool o.at_.f5, .int .i64 o.other, .int .u64 o.too] 36)).alloc (.cells #[.int .i64 0, .int .i64 0, .int .u8 0] 42)) := ((Below.refl _ w).alloc (Nat.le_refl _) _).alloc (by simp) _
    have hs1 : (w.alloc (.cells #[.int .i64 o.kind, .int .i64 o.sp, .int .i64 o.ak, .bool o.ap, .int .u64 o.av, .int .u8 o.byte, .int .u64 o.va, .int .i64 o.size, .bool o.at_.f0, .bool o.at_.f1, .bool o.at_.f2, .bool o.at_.f3, .bool o.at_.f4, .bool o.at_.f5, .int .i64 o.other, .int .u64 o.too] 36)).heap.size = D + 1 := by simp [hD]
    rw [hs1] at hz
    generalize (w.alloc (.cells #[.int .i64 o.kind, .int .i64 o.sp, .int .i64 o.ak, .bool o.ap, .int .u64 o.av, .int .u8 o.byte, .int .u64 o.va, .int .i64 o.size, .bool o.at_.f0, .bool o.at_.f1, .bool o.at_.f2, .bool o.at_.f3, .bool o.at_.f4, .bool o.at_.f5, .int .i64 o.other, .int .u64 o.too] 36)).alloc (.cells #[.int .i64 0, .int .i64 0, .int .u8 0] 42) = w1 at *
    have HZ := Aside0.mk hz
    have HB := Aside0.mk hb
    clear hs1 hz hb hd0
    go_wp2_with fail
    refine (model_told.calls 1 _ _ _ w1 rfl).mono ?_
    rintro e w2z ⟨rfl, hb2⟩
    have hz2 := blk_below HZ.out hb2
    have HB2 := Aside0.mk (below_step HB.out hb2)
    obtain ⟨z0, z1, z2⟩ := cells3 hz2
    have y0 := blk_frozen hz2 0
    have y1 := blk_frozen hz2 1
    have y2 := blk_frozen hz2 2
    clear hb2
    go_wp2_with fail
    rw [set3 hz2]
    refine bodyPost_ret (results_cell_row rfl _ _ (D + 1) 42 _ (0, 0) _ rfl (sb_same hz2 _) Try.underlying42 rfl (by kernel_rfl)) rfl ?_
    exact Rep3.same HM.out (below_sb HB2.out (by omega) _) rfl
  · have hd0 : decide (o.kind < 0) = false := decide_eq_false h0
    have hd8 : decide (8 ≤ o.kind) = true := decide_eq_true (by omega)
    clear hk h0
    go_enter Try.func14, Try.ntmps14
    go_upto_region 2 with fail
    have hz := blk_new (w.alloc (.cells #[.int .i64 o.kind, .int .i64 o.sp, .int .i64 o.ak, .bool o.ap, .int .u64 o.av, .int .u8 o.byte, .int .u64 o.va, .int .i64 o.size, .bool o.at_.f0, .bool o.at_.f1, .bool o.at_.f2, .bool o.at_.f3, .bool o.at_.f4, .bool o.at_.f5, .int .i64 o.other, .int .u64 o.too] 36)) (.cells #[.int .i64 0, .int .i64 0, .int .u8 0] 42)
    have hb : Below w.heap.size w ((w.alloc (.cells #[.int .i64 o.kind, .int .i64 o.sp, .int .i64 o.ak, .bool o.ap, .int .u64 o.av, .int .u8 o.byte, .int .u64 o.va, .int .i64 o.size, .bool o.at_.f0, .bool o.at_.f1, .bool o.at_.f2, .bool o.at_.f3, .bool o.at_.f4, .bool o.at_.f5, .int .i64 o.other, .int .u64 o.too] 36)).alloc (.cells #[.int .i64 0, .int .i64 0, .int .u8 0] 42)) := ((Below.refl _ w).alloc (Nat.le_refl _) _).alloc (by simp) _
    have hs1 : (w.alloc (.cells #[.int .i64 o.kind, .int .i64 o.sp, .int .i64 o.ak, .bool o.ap, .int .u64 o.av, .int .u8 o.byte, .int .u64 o.va, .int .i64 o.size, .bool o.at_.f0, .bool o.at_.f1, .bool o.at_.f2, .bool o.at_.f3, .bool o.at_.f4, .bool o.at_.f5, .int .i64 o.other, .int .u64 o.too] 36)).heap.size = D + 1 := by simp [hD]
    rw [hs1] at hz
    generalize (w.alloc (.cells #[.int .i64 o.kind, .int .i64 o.sp, .int .i64 o.ak, .bool o.ap, .int .u64 o.av, .int .u8 o.byte, .int .u64 o.va, .int .i64 o.size, .bool o.at_.f0, .bool o.at_.f1, .bool o.at_.f2, .bool o.at_.f3, .bool o.at_.f4, .bool o.at_.f5, .int .i64 o.other, .int .u64 o.too] 36)).alloc (.cells #[.int .i64 0, .int .i64 0, .int .u8 0] 42) = w1 at *
    have HZ := Aside0.mk hz
    have HB := Aside0.mk hb
    clear hs1 hz hb hd0
    go_wp2_with fail
    refine (model_told.calls 1 _ _ _ w1 rfl).mono ?_
    rintro e w2z ⟨rfl, hb2⟩
    have hz2 := blk_below HZ.out hb2
    have HB2 := Aside0.mk (below_step HB.out hb2)
    obtain ⟨z0, z1, z2⟩ := cells3 hz2
    have y0 := blk_frozen hz2 0
    have y1 := blk_frozen hz2 1
    have y2 := blk_frozen hz2 2
    clear hb2
    go_wp2_with fail
    rw [set3 hz2]
    refine bodyPost_ret (results_cell_row rfl _ _ (D + 1) 42 _ (0, 0) _ rfl (sb_same hz2 _) Try.underlying42 rfl (by kernel_rfl)) rfl ?_
    exact Rep3.same HM.out (below_sb HB2.out (by omega) _) rfl
theorem do_calls (h : Mo w B pm bm s) (hw : WfL s.L) (hf : s.L.length ≤ 100000) (o : OpS) (ho : OkO o) (hn : s.n ≤ 64) (hm0 : 0 ≤ s.made) (hm1 : s.made < 1000000) :
    Calls Try.prog 14 #[.pointer (some ⟨B, 0, none⟩), Value.agg #[.int .i64 o.kind, .int .i64 o.sp, .int .i64 o.ak, .bool o.ap, .int .u64 o.av, .int .u8 o.byte, .int .u64 o.va, .int .i64 o.size, .bool o.at_.f0, .bool o.at_.f1, .bool o.at_.f2, .bool o.at_.f3, .bool o.at_.f4, .bool o.at_.f5, .int .i64 o.other, .int .u64 o.too]] w (Rep3 w B pm bm (doR s o)) := by
  have hc : o.kind = 0 ∨ o.kind = 1 ∨ o.kind = 2 ∨ o.kind = 3 ∨ o.kind = 4 ∨ o.kind = 5 ∨ o.kind = 6 ∨ o.kind = 7 ∨ ¬ (0 ≤ o.kind ∧ o.kind < 8) := by omega
  unfold doR
  rcases hc with hk | hk | hk | hk | hk | hk | hk | hk | hk
  · rw [if_pos hk]
    exact do_one h o (by omega) _ (by rw [hk]; rfl) (enters_ Try.func38 (by rfl) (by kernel_rfl)) _ (fun W hb => access_calls (h.below hb) hw o ho)
  · rw [if_neg (by omega), if_pos hk]
    exact do_one h o (by omega) _ (by rw [hk]; rfl) (enters_ Try.func39 (by rfl) (by kernel_rfl)) _ (fun W hb => (mapped_calls (h.below hb) hw hf o ho.va hn hm0 hm1).mono (fun e w' h => h))
  · rw [if_neg (by omega), if_neg (by omega), if_pos hk]
    exact do_one h o (by omega) _ (by rw [hk]; rfl) (enters_ Try.func40 (by rfl) (by kernel_rfl)) _ (fun W hb => (unmap_calls (h.below hb) hw hf o ho).mono (fun e w' h => h))
  · rw [if_neg (by omega), if_neg (by omega), if_neg (by omega), if_pos hk]
    exact do_one h o (by omega) _ (by rw [hk]; rfl) (enters_ Try.func41 (by rfl) (by kernel_rfl)) _ (fun W hb => (protect_calls (h.below hb) hw hf o ho).mono (fun e w' h => h))
  · rw [if_neg (by omega), if_neg (by omega), if_neg (by omega), if_neg (by omega), if_pos hk]
    exact do_one h o (by omega) _ (by rw [hk]; rfl) (enters_ Try.func42 (by rfl) (by kernel_rfl)) _ (fun W hb => (clear_calls (h.below hb) hw hf o ho).mono (fun e w' h => h))
  · rw [if_neg (by omega), if_neg (by omega), if_neg (by omega), if_neg (by omega), if_neg (by omega), if_pos hk]
    exact do_one h o (by omega) _ (by rw [hk]; rfl) (enters_ Try.func43 (by rfl) (by kernel_rfl)) _ (fun W hb => (share_calls (h.below hb) hw hf o ho hn).mono (fun e w' h => h))
  · rw [if_neg (by omega), if_neg (by omega), if_neg (by omega), if_neg (by omega), if_neg (by omega), if_neg (by omega), if_pos hk]
    exact do_one h o (by omega) _ (by rw [hk]; rfl) (enters_ Try.func44 (by rfl) (by kernel_rfl)) _ (fun W hb => (grow_calls (h.below hb) o).mono (fun e w' hh => ⟨hh.1, (h.below hb).below hh.2, Mv.of_below hh.2⟩))
  · rw [if_neg (by omega), if_neg (by omega), if_neg (by omega), if_neg (by omega), if_neg (by omega), if_neg (by omega), if_neg (by omega), if_pos hk]
    exact do_one h o (by omega) _ (by rw [hk]; rfl) (enters_ Try.func45 (by rfl) (by kernel_rfl)) _ (fun W hb => dest2_calls (h.below hb) hw hf o)
  · rw [if_neg (by omega), if_neg (by omega), if_neg (by omega), if_neg (by omega), if_neg (by omega), if_neg (by omega), if_neg (by omega), if_neg (by omega)]
    exact do_bad h o hk
end
end Go.Proofs.Ytalmemcidbmdgaa.PM


/- A model (layer 16): what stays behind every operation: plain. -/
set_option linter.unusedVariables false
set_option linter.unusedSimpArgs false
namespace Go.Proofs.Ytalmemcidbmdgaa.PM
open Go.RowKit Go.Proofs.YtalmemcidbmdgaaW.PrintWords Go.Proofs.YtalmemcidbmdgaaW.PrintLast Go.Proofs.YtalmemcidbmdgaaW.PrintMore Go.Proofs.Ytalmemcidbmdgaa.PageG
attribute [local go_sem] max2_int min2_int max_two min_two max_three min_three max_four min_four   -- for this text's walks alone
/-- What is true of a model behind k operations. -/
structure WfK (k : Nat) (s : MS) : Prop where
  n0 : 0 ≤ s.n
  n1 : s.n ≤ 64
  wl : WfL s.L
  few : s.L.length ≤ k
  made0 : 0 ≤ s.made
  made1 : s.made ≤ (k : Int)
  pa : ∀ x ∈ s.L, x.f1.f2 < s.made
  sp : ∀ x ∈ s.L, x.f0 < s.n
  rs : ∀ x ∈ s.L, ∀ y ∈ s.L, x.f1.f2 = y.f1.f2 → x.f1.f1 = y.f1.f1
  bok : ∀ b ∈ s.by_, 0 ≤ b.f0 ∧ b.f0 < s.made ∧ U64 b.f1 ∧ 0 ≤ b.f2 ∧ b.f2 < 256
  bof : ∀ b ∈ s.by_, ∀ x ∈ s.L, x.f1.f2 = b.f0 → b.f1 < ((2 ^ (13 + 3 * szN x) : Nat) : Int)
  bnd : s.by_.Pairwise (fun a b => ¬ (a.f0 = b.f0 ∧ a.f1 = b.f1))
  blen : s.by_.length ≤ k
theorem WfK.new {n : Int} (h0 : 0 ≤ n) (h1 : n ≤ 64) : WfK 0 ⟨n, [], [], 0⟩ :=
  ⟨h0, h1, ⟨fun x hx => (by cases hx), List.Pairwise.nil⟩, by simp, by simp, by simp, fun x hx => (by cases hx), fun x hx => (by cases hx), fun x hx => (by cases hx), fun x hx => (by cases hx), fun x hx => (by cases hx), List.Pairwise.nil, by simp⟩
theorem WfK.up {k m : Nat} {s : MS} (h : WfK k s) (hm : k ≤ m) : WfK m s :=
  ⟨h.n0, h.n1, h.wl, by have := h.few; omega, h.made0, by have := h.made1; omega, h.pa, h.sp, h.rs, h.bok, h.bof, h.bnd, by have := h.blen; omega⟩
theorem mem_set {α : Type} {l : List α} {i : Nat} {a y : α} (h : y ∈ l.set i a) : y ∈ l ∨ y = a := List.mem_or_eq_of_mem_set h
theorem meets_same {x x' y : Ent} (h0 : x'.f0 = x.f0) (h1 : x'.f1.f0 = x.f1.f0) (h2 : x'.f1.f1 = x.f1.f1) : (meets x' y ↔ meets x y) ∧ (meets y x' ↔ meets y x) := by
  have e1 : vaN x' = vaN x := by unfold vaN; rw [h1]
  have e2 : szN x' = szN x := by unfold szN; rw [h2]
  unfold meets
  rw [h0, e1, e2]
  exact ⟨Iff.rfl, Iff.rfl⟩
theorem pw_set {α : Type} {R : α → α → Prop} {a : α} : ∀ {l : List α} {i : Nat} {x : α}, l[i]? = some x → (∀ y, R x y → R a y) → (∀ y, R y x → R y a) → l.Pairwise R → (l.set i a).Pairwise R
  | [], i, x, h, _, _, _ => by simp at h
  | b :: l, 0, x, h, h1, h2, hp => by
    simp at h
    subst h
    have := List.pairwise_cons.1 hp
    exact List.pairwise_cons.2 ⟨fun y hy => h1 y (this.1 y hy), this.2⟩
  | b :: l, i + 1, x, h, h1, h2, hp => by
    have hc := List.pairwise_cons.1 hp
    have hx : l[i]? = some x := by simpa using h
    refine List.pairwise_cons.2 ⟨fun y hy => ?_, pw_set hx h1 h2 hc.2⟩
    rcases mem_set hy with hy | rfl
    · exact hc.1 y hy
    · exact h2 b (hc.1 x (List.mem_of_getElem? hx))
theorem WfK.set {k : Nat} {s : MS} (h : WfK k s) {i : Nat} {x : Ent} (hi : s.L[i]? = some x) (p : Pg) (h0 : p.f0 = x.f1.f0) (h1 : p.f1 = x.f1.f1) (h2 : p.f2 = x.f1.f2) : WfK k { s with L := s.L.set i ⟨x.f0, p⟩ } := by
  have hx := List.mem_of_getElem? hi
  have hok := h.wl.ok x hx
  have hne : OkE ⟨x.f0, p⟩ := ⟨hok.sp0, hok.sp1, by show p.f0 = ((p.f0.toNat : Nat) : Int); rw [h0]; exact hok.va, by show p.f0.toNat < _; rw [h0]; exact hok.va1, by show p.f1 = ((p.f1.toNat : Nat) : Int); rw [h1]; exact hok.sz, by show p.f1.toNat < _; rw [h1]; exact hok.sz1, by show bs p.f0.toNat p.f1.toNat = p.f0.toNat; rw [h0, h1]; exact hok.st, by show 0 ≤ p.f2; rw [h2]; exact hok.pa0, by show p.f2 < _; rw [h2]; exact hok.pa1⟩
  have hm : ∀ y, (meets ⟨x.f0, p⟩ y ↔ meets x y) ∧ (meets y ⟨x.f0, p⟩ ↔ meets y x) := fun y => meets_same rfl h0 h1
  refine ⟨h.n0, h.n1, ⟨fun y hy => ?_, ?_⟩, by simpa using h.few, h.made0, h.made1, fun y hy => ?_, fun y hy => ?_, fun y hy z hz => ?_, h.bok, fun b hb y hy => ?_, h.bnd, h.blen⟩
  · rcases mem_set hy with hy | rfl
    · exact h.wl.ok y hy
    · exact hne
  · exact pw_set hi (fun y hy hc => hy ((hm y).1.1 hc)) (fun y hy hc => hy ((hm y).2.1 hc)) h.wl.apart
  · rcases mem_set hy with hy | rfl
    · exact h.pa y hy
    · show p.f2 < _
      rw [h2]
      exact h.pa x hx
  · rcases mem_set hy with hy | rfl
    · exact h.sp y hy
    · exact h.sp x hx
  · rcases mem_set hy with hy | rfl
    · rcases mem_set hz with hz | rfl
      · exact h.rs y hy z hz
      · show _ = p.f2 → _ = p.f1
        rw [h2, h1]
        exact h.rs y hy x hx
    · rcases mem_set hz with hz | rfl
      · show p.f2 = _ → p.f1 = _
        rw [h2, h1]
        exact h.rs x hx z hz
      · intro _; rfl
  · rcases mem_set hy with hy | rfl
    · exact h.bof b hb y hy
    · show p.f2 = _ → _ < ((2 ^ (13 + 3 * p.f1.toNat) : Nat) : Int)
      rw [h2, h1]
      exact h.bof b hb x hx
theorem WfK.byte {k : Nat} {s : MS} (h : WfK k s) {r o v : Int} {x : Ent} (hx : x ∈ s.L) (hr : x.f1.f2 = r) (ho : 0 ≤ o) (ho1 : o < ((2 ^ (13 + 3 * szN x) : Nat) : Int)) (ho2 : U64 o) (hv : 0 ≤ v ∧ v < 256) : WfK (k + 1) { s with by_ := putB s.by_ r o v } := by
  have hlen : (s.by_.filter (fun b => !(b.f0 == r && b.f1 == o))).length ≤ s.by_.length := List.length_filter_le _ _
  have hbl := h.blen
  have h' := h.up (Nat.le_succ k)
  refine ⟨h'.n0, h'.n1, h'.wl, h'.few, h'.made0, h'.made1, h'.pa, h'.sp, h'.rs, fun b hb => ?_, fun b hb y hy e => ?_, ?_, ?_⟩
  · rcases List.mem_cons.1 hb with rfl | hb
    · exact ⟨by rw [← hr]; exact (h.wl.ok x hx).pa0, by rw [← hr]; exact h.pa x hx, ho2, hv.1, hv.2⟩
    · exact h.bok b (List.mem_filter.1 hb).1
  · rcases List.mem_cons.1 hb with rfl | hb
    · have e2 := h.rs x hx y hy (by rw [hr, e])
      have e3 : szN y = szN x := by unfold szN; rw [e2]
      rw [e3]
      exact ho1
    · exact h.bof b (List.mem_filter.1 hb).1 y hy e
  · refine List.pairwise_cons.2 ⟨fun b hb hc => ?_, h.bnd.sublist List.filter_sublist⟩
    have := (List.mem_filter.1 hb).2
    simp [← hc.1, ← hc.2] at this
  · show (_ :: _).length ≤ _
    simp only [List.length_cons]
    omega
theorem WfK.drop {k : Nat} {s : MS} (h : WfK k s) (i : Nat) (x : Ent) : WfK k (dropS s i x) := by
  have hsub := List.eraseIdx_sublist s.L i
  have hb : ∀ b ∈ (dropS s i x).by_, b ∈ s.by_ := fun b hb => by
    have hb' : b ∈ (if winN (s.L.eraseIdx i) x.f1.f2 = 0 then cutB s.by_ x.f1.f2 else s.by_) := hb
    split at hb'
    · exact (List.mem_filter.1 hb').1
    · exact hb'
  have hbs : (dropS s i x).by_.Sublist s.by_ := by
    show (if winN (s.L.eraseIdx i) x.f1.f2 = 0 then cutB s.by_ x.f1.f2 else s.by_).Sublist s.by_
    split
    · exact List.filter_sublist
    · exact List.Sublist.refl _
  exact ⟨h.n0, h.n1, h.wl.erase i, Nat.le_trans hsub.length_le h.few, h.made0, h.made1, fun y hy => h.pa y (hsub.subset hy), fun y hy => h.sp y (hsub.subset hy), fun y hy z hz => h.rs y (hsub.subset hy) z (hsub.subset hz), fun b hm => h.bok b (hb b hm), fun b hm y hy => h.bof b (hb b hm) y (hsub.subset hy), h.bnd.sublist hbs, Nat.le_trans hbs.length_le h.blen⟩
theorem WfK.unmap {k : Nat} {s : MS} (h : WfK k s) (i : Nat) : WfK k (unmapS s i) := by
  unfold unmapS
  split
  · exact h.drop i _
  · exact h
theorem WfK.dropAt {k : Nat} {s : MS} (h : WfK k s) (sp : Int) (p : Pg) : WfK k (PM.dropAt sp s p) := by
  unfold PM.dropAt
  split
  · exact h.unmap _
  · exact h
theorem WfK.dest {k : Nat} {s : MS} (h : WfK k s) (sp : Int) : WfK k (destS s sp) := by
  unfold destS
  generalize pagesS s sp = l
  induction l generalizing s with
  | nil => exact h
  | cons p l ih => exact ih (h.dropAt sp p)
theorem WfK.prot {k : Nat} {s : MS} (h : WfK k s) (a : Atr) (i : Nat) : WfK k (protS s a i) := by
  unfold protS
  split
  · rename_i x hx
    exact h.set hx _ rfl rfl rfl
  · exact h
theorem WfK.clear {k : Nat} {s : MS} (h : WfK k s) (i : Nat) : WfK k (clearS s i) := by
  unfold clearS
  split
  · rename_i x hx
    exact h.set hx _ rfl rfl rfl
  · exact h
theorem WfK.change {k : Nat} {s : MS} (h : WfK k s) (o : OpS) (f : Nat → MS) (hf : ∀ i, WfK k (f i)) : WfK k (changeR s o f).2 := by
  unfold changeR
  split
  · split
    · exact h
    · exact hf _
  · exact h
theorem offN_bound (x : Ent) (va : Nat) : ((offN x va : Nat) : Int) < ((2 ^ (13 + 3 * szN x) : Nat) : Int) := by
  have : offN x va < 2 ^ (13 + 3 * szN x) := Nat.mod_lt _ (Nat.two_pow_pos _)
  omega
theorem WfK.access {k : Nat} {s : MS} (h : WfK k s) (o : OpS) (ho : OkO o) : WfK (k + 1) (accessR s o).2 := by
  have h' := h.up (Nat.le_succ k)
  have hav : o.av.toNat < 2 ^ 64 := by have := ho.av; omega
  unfold accessR
  split
  · split
    · exact h'
    · split
      · exact h'
      · split
        · exact h'
        · rename_i x hx
          split
          · split
            · have h1 := h.set hx (accP x.f1 o.ak) rfl rfl rfl
              have hm : (⟨x.f0, accP x.f1 o.ak⟩ : Ent) ∈ s.L.set _ ⟨x.f0, accP x.f1 o.ak⟩ := List.mem_set (List.getElem?_eq_some_iff.1 hx).1 _
              exact h1.byte (x := ⟨x.f0, accP x.f1 o.ak⟩) hm rfl (by omega) (offN_bound x _) ⟨by omega, by have := offN_lt (x := x) hav; omega⟩ ho.by_
            · exact h'.set hx (accP x.f1 o.ak) rfl rfl rfl
          · exact h'
  · exact h'
theorem WfK.snoc {k : Nat} {s : MS} (h : WfK k s) (sp : Int) (p : Pg) (m : Int) (hp : OkE ⟨sp, p⟩) (hm : s.made ≤ m) (hm1 : m ≤ ((k + 1 : Nat) : Int)) (hpa : p.f2 < m) (hsp : sp < s.n) (hmt : (sel sp s.L).any (meetB p) = false) (hr : ∀ y ∈ s.L, y.f1.f2 = p.f2 → y.f1.f1 = p.f1) (hb : ∀ b ∈ s.by_, p.f2 = b.f0 → b.f1 < ((2 ^ (13 + 3 * p.f1.toNat) : Nat) : Int)) :
    WfK (k + 1) { s with L := s.L ++ [⟨sp, p⟩], made := m } := by
  have h' := h.up (Nat.le_succ k)
  refine ⟨h.n0, h.n1, ⟨fun y hy => ?_, ?_⟩, by have := h.few; simp only [List.length_append, List.length_singleton]; omega, by have := h.made0; show 0 ≤ m; omega, hm1, fun y hy => ?_, fun y hy => ?_, fun y hy z hz => ?_, fun b hb => ?_, fun b hb2 y hy => ?_, h.bnd, h'.blen⟩
  · rcases List.mem_append.1 hy with hy | hy
    · exact h.wl.ok y hy
    · rw [List.mem_singleton.1 hy]; exact hp
  · refine List.pairwise_append.2 ⟨h.wl.apart, List.pairwise_singleton _ _, fun y hy z hz hc => ?_⟩
    rw [List.mem_singleton.1 hz] at hc
    rw [List.any_eq_false] at hmt
    refine hmt y.f1 ?_ ?_
    · unfold sel
      exact List.mem_map.2 ⟨y, List.mem_filter.2 ⟨hy, by simp [hc.1]⟩, rfl⟩
    · unfold meetB
      have := hc.2
      unfold vaN szN at this
      simp only [decide_eq_true_eq]
      rw [Nat.max_comm]
      exact this.symm
  · rcases List.mem_append.1 hy with hy | hy
    · have := h.pa y hy; show _ < m; omega
    · rw [List.mem_singleton.1 hy]; exact hpa
  · rcases List.mem_append.1 hy with hy | hy
    · exact h.sp y hy
    · rw [List.mem_singleton.1 hy]; exact hsp
  · rcases List.mem_append.1 hy with hy | hy
    · rcases List.mem_append.1 hz with hz | hz
      · exact h.rs y hy z hz
      · rw [List.mem_singleton.1 hz]; exact hr y hy
    · rw [List.mem_singleton.1 hy]
      rcases List.mem_append.1 hz with hz | hz
      · exact fun e => (hr z hz e.symm).symm
      · rw [List.mem_singleton.1 hz]; exact fun _ => rfl
  · have := h.bok b hb
    exact ⟨this.1, by show _ < m; omega, this.2.2⟩
  · rcases List.mem_append.1 hy with hy | hy
    · exact h.bof b hb2 y hy
    · rw [List.mem_singleton.1 hy]; exact hb b hb2
theorem isAll_mem {n : Int} {l : List Int} (h : isAll n l = true) {x : Int} (hx : x ∈ l) : 0 ≤ x ∧ x < n := by
  unfold isAll at h
  rw [List.all_eq_true] at h
  simpa using h x hx
theorem WfK.mapped {k : Nat} {s : MS} (h : WfK k s) (hk : k < 1000) (o : OpS) (ho : OkO o) : WfK (k + 1) (mappedR s o).2 := by
  have h' := h.up (Nat.le_succ k)
  unfold mappedR
  split
  · rename_i hg
    have hs := isAll_mem hg.1 (x := o.sp) (by simp)
    have hva := ho.va
    have hm1 := h.made1
    have hq : OkQ o.sp (mapP s o) := ⟨hs.1, by have := h.n1; omega, by show o.va = ((o.va.toNat : Nat) : Int); omega, by show o.va.toNat < 2 ^ 64; omega, h.made0, by show s.made < 1000000; omega⟩
    unfold putS
    split
    · rw [if_neg (by show ¬ (3 : Int) = 0; omega)]; exact h'
    · split
      · rw [if_neg (by show ¬ (4 : Int) = 0; omega)]; exact h'
      · split
        · rw [if_neg (by show ¬ (9 : Int) = 0; omega)]; exact h'
        · rename_i hst hmt
          rw [if_pos rfl]
          have hst' : startsB (mapP s o).f0 (mapP s o).f1 = true := by simpa using hst
          have hmt' : (sel o.sp s.L).any (meetB (mapP s o)) = false := by simpa using hmt
          refine h.snoc o.sp (mapP s o) (s.made + 1) (hq.e hst') (by omega) (by omega) (by show s.made < _; omega) hs.2 hmt' (fun y hy e => ?_) (fun b hb e => ?_)
          · have := h.pa y hy
            have e' : y.f1.f2 = s.made := e
            omega
          · have := (h.bok b hb).2.1
            have e' : s.made = b.f0 := e
            omega
  · exact h'
theorem WfK.share {k : Nat} {s : MS} (h : WfK k s) (o : OpS) (ho : OkO o) : WfK (k + 1) (shareR s o).2 := by
  have h' := h.up (Nat.le_succ k)
  unfold shareR
  split
  · rename_i hg
    have hs := isAll_mem hg.1 (x := o.other) (by simp)
    have hva := ho.to1
    split
    · exact h'
    · split
      · rename_i x hx
        have hxm := List.mem_of_getElem? hx
        have hok := h.wl.ok x hxm
        have hq : OkQ o.other (shaP o x) := ⟨hs.1, by have := h.n1; omega, by show o.too = ((o.too.toNat : Nat) : Int); omega, by show o.too.toNat < 2 ^ 64; omega, hok.pa0, hok.pa1⟩
        unfold putS
        split
        · exact h'
        · split
          · exact h'
          · split
            · exact h'
            · rename_i hst hmt
              have hst' : startsB (shaP o x).f0 (shaP o x).f1 = true := by simpa using hst
              have hmt' : (sel o.other s.L).any (meetB (shaP o x)) = false := by simpa using hmt
              refine h.snoc o.other (shaP o x) s.made (hq.e hst') (by omega) (by have := h.made1; omega) (h.pa x hxm) hs.2 hmt' (fun y hy e => ?_) (fun b hb e => ?_)
              · exact h.rs y hy x hxm e
              · exact h.bof b hb x hxm e
      · exact h'
  · exact h'
theorem WfK.step {k : Nat} {s : MS} (h : WfK k s) (hk : k < 1000) (o : OpS) (ho : OkO o) : WfK (k + 1) (doR s o).2 := by
  have h' := h.up (Nat.le_succ k)
  unfold doR
  split
  · exact h.access o ho
  · split
    · exact h.mapped hk o ho
    · split
      · exact h'.change o _ (fun i => h'.unmap i)
      · split
        · show WfK (k + 1) (protectR s o).2
          unfold protectR
          split
          · exact h'
          · exact h'.change o _ (fun i => h'.prot _ i)
        · split
          · exact h'.change o _ (fun i => h'.clear i)
          · split
            · exact h.share o ho
            · split
              · exact h'
              · split
                · show WfK (k + 1) (destroyR s o).2
                  unfold destroyR
                  split
                  · exact h'.dest o.sp
                  · exact h'
                · exact h'
section
variable {w w' : World} {B pm bm : Nat} {s : MS}
/-- Do, and what stays. -/
def DoneP (w : World) (B pm bm : Nat) (k : Nat) (s : MS) (o : OpS) (e : Ending) (w' : World) : Prop :=
  e = .returned (.agg #[.int .i64 (doR s o).1.1, .int .i64 (doR s o).1.2.1, .int .u8 (doR s o).1.2.2]) ∧ Mo w' B pm bm (doR s o).2 ∧ WfK (k + 1) (doR s o).2 ∧ Mv [B, pm, bm] w w'
theorem done_calls (h : Mo w B pm bm s) {k : Nat} (hw : WfK k s) (hk : k < 1000) (o : OpS) (ho : OkO o) :
    Calls Try.prog 14 #[.pointer (some ⟨B, 0, none⟩), Value.agg #[.int .i64 o.kind, .int .i64 o.sp, .int .i64 o.ak, .bool o.ap, .int .u64 o.av, .int .u8 o.byte, .int .u64 o.va, .int .i64 o.size, .bool o.at_.f0, .bool o.at_.f1, .bool o.at_.f2, .bool o.at_.f3, .bool o.at_.f4, .bool o.at_.f5, .int .i64 o.other, .int .u64 o.too]] w (DoneP w B pm bm k s o) :=
  (do_calls h hw.wl (by have := hw.few; omega) o ho hw.n1 hw.made0 (by have := hw.made1; omega)).mono (fun e w' hh => ⟨hh.1, hh.2.1, hw.step hk o ho, hh.2.2⟩)
end
end Go.Proofs.Ytalmemcidbmdgaa.PM


/- A model (layer 16): the document's example: the walk. -/
set_option linter.unusedVariables false
set_option linter.unusedSimpArgs false
namespace Go.Proofs.Ytalmemcidbmdgaa.PM
open Go.RowKit Go.Proofs.YtalmemcidbmdgaaW.PrintWords Go.Proofs.YtalmemcidbmdgaaW.PrintLast Go.Proofs.YtalmemcidbmdgaaW.PrintMore Go.Proofs.Ytalmemcidbmdgaa.PageG
attribute [local go_sem] max2_int min2_int max_two min_two max_three min_three max_four min_four   -- for this text's walks alone
def lvS0 : MS := ⟨1, [], [], 0⟩
theorem lvw0 : WfK 0 lvS0 := WfK.new (by omega) (by omega)
section
variable {w w' : World} {B pm bm : Nat} {s : MS}
theorem lv_do {k : Nat} {s' : MS} (h : Mo w B pm bm s) (hw : WfK k s) (hk : k < 1000) (o : OpS) (ho : OkO o) {a b c : Int} (he : doR s o = ((a, b, c), s')) :
    Calls Try.prog 14 #[.pointer (some ⟨B, 0, none⟩), Value.agg #[.int .i64 o.kind, .int .i64 o.sp, .int .i64 o.ak, .bool o.ap, .int .u64 o.av, .int .u8 o.byte, .int .u64 o.va, .int .i64 o.size, .bool o.at_.f0, .bool o.at_.f1, .bool o.at_.f2, .bool o.at_.f3, .bool o.at_.f4, .bool o.at_.f5, .int .i64 o.other, .int .u64 o.too]] w (fun e w' => e = .returned (.agg #[.int .i64 a, .int .i64 b, .int .u8 c]) ∧ Mo w' B pm bm s' ∧ Mv [B, pm, bm] w w') :=
  (done_calls h hw hk o ho).mono (fun e w' hh => by
    obtain ⟨h1, h2, -, h4⟩ := hh
    rw [he] at h1 h2
    exact ⟨h1, h2, h4⟩)
end
end Go.Proofs.Ytalmemcidbmdgaa.PM


/- A story (layer 21): the document's example: the small walks. -/
set_option linter.unusedVariables false
set_option linter.unusedSimpArgs false
namespace Go.Proofs.Ytalmemcidbmdgaa.PM
open Go.RowKit Go.Proofs.YtalmemcidbmdgaaW.PrintWords Go.Proofs.YtalmemcidbmdgaaW.PrintLast Go.Proofs.YtalmemcidbmdgaaW.PrintMore Go.Proofs.Ytalmemcidbmdgaa.PageG
attribute [local go_sem] max2_int min2_int max_two min_two max_three min_three max_four min_four   -- for this text's walks alone
section
variable {w w' : World}
/-- The one call of the example. -/
def CallAt (w : World) (g : Nat) : Prop := w.heap[g]? = some (.cells #[.int .i64 0, .int .i64 6, .int .i64 0, .int .i64 0, .bool false, .int .u64 0, .int .u8 0, .int .u64 0, .int .i64 0, .bool false, .bool false, .bool false, .bool false, .bool false, .bool false, .int .i64 0, .int .u64 0, .int .i64 0, .int .i64 3, .int .i64 3, .int .i64 0, .int .i64 0, .int .u8 0, .int .i64 0] 69 (0, 0))
theorem CallAt.below {g : Nat} (h : CallAt w g) (hb : Below w.heap.size w w') : CallAt w' g := blk_below h hb
set_option maxHeartbeats 4000000 in
set_option maxRecDepth 100000 in
theorem row1_calls (w : World) : Calls Try.prog 122 #[.agg #[.int .i64 0, .int .i64 6, .int .i64 0, .int .i64 0, .bool false, .int .u64 0, .int .u8 0, .int .u64 0, .int .i64 0, .bool false, .bool false, .bool false, .bool false, .bool false, .bool false, .int .i64 0, .int .u64 0, .int .i64 0, .int .i64 3, .int .i64 3, .int .i64 0, .int .i64 0, .int .u8 0, .int .i64 0]] w fun e w' => e = .returned (.bool true) ∧ Below w.heap.size w w' := by
  have hb := (Below.refl _ w).alloc (Nat.le_refl _) (.cells #[.int .i64 0, .int .i64 6, .int .i64 0, .int .i64 0, .bool false, .int .u64 0, .int .u8 0, .int .u64 0, .int .i64 0, .bool false, .bool false, .bool false, .bool false, .bool false, .bool false, .int .i64 0, .int .u64 0, .int .i64 0, .int .i64 3, .int .i64 3, .int .i64 0, .int .i64 0, .int .u8 0, .int .i64 0] 69)
  have HB := Aside0.mk hb
  clear hb
  go_enter Try.func122, Try.ntmps122
  go_wp2_with fail
  go_ret
  exact ⟨rfl, HB.out⟩
set_option maxHeartbeats 4000000 in
set_option maxRecDepth 100000 in
theorem idx0_calls (w : World) (A : Option Addr) (c : Nat) (fv : Value) : Calls Try.prog 108 #[.slice A 0 c, fv] w fun e w' => e = .returned (.int .i64 (-1)) ∧ w = w' := by
  go_enter Try.func108, Try.ntmps108
  go_wp2_with fail
  refine wp_loop_rounds 1 ?_
  rw [rounds_succ]
  go_wp2_with fail
  go_ret
  exact ⟨rfl, rfl⟩
set_option maxHeartbeats 4000000 in
set_option maxRecDepth 100000 in
theorem has0_calls (w : World) (A : Option Addr) (c : Nat) (fv : Value) : Calls Try.prog 84 #[.slice A 0 c, fv] w fun e w' => e = .returned (.bool false) ∧ w = w' := by
  go_enter Try.func84, Try.ntmps84
  go_wp2_with fail
  refine (idx0_calls w A c fv).mono ?_
  rintro e w1 ⟨rfl, rfl⟩
  go_wp2_with fail
  go_ret
  exact ⟨rfl, rfl⟩
set_option maxHeartbeats 4000000 in
set_option maxRecDepth 100000 in
theorem ins1_calls (w : World) (A : Option Addr) (c : Nat) (fv : Value) : Calls Try.prog 128 #[.slice A 1 c, .int .i64 0, .int .i64 1, fv] w fun e w' => e = .returned (.tuple #[]) ∧ w = w' := by
  go_enter Try.func128, Try.ntmps128
  go_wp2_with fail
  refine wp_loop_rounds 1 ?_
  rw [rounds_succ]
  go_wp2_with fail
  go_end0
  exact ⟨rfl, rfl⟩
set_option maxHeartbeats 4000000 in
set_option maxRecDepth 100000 in
theorem stable1_calls (w : World) (A : Option Addr) (c : Nat) (fv : Value) : Calls Try.prog 126 #[.slice A 1 c, .int .i64 1, fv] w fun e w' => e = .returned (.tuple #[]) ∧ w = w' := by
  go_enter Try.func126, Try.ntmps126
  go_wp2_with fail
  refine wp_loop_rounds 1 ?_
  rw [rounds_succ]
  go_wp2_with fail
  refine (ins1_calls w A c fv).mono ?_
  rintro e w1 ⟨rfl, rfl⟩
  go_wp2_with fail
  refine wp_loop_rounds 1 ?_
  rw [rounds_succ]
  go_wp2_with fail
  go_end0
  exact ⟨rfl, rfl⟩
set_option maxHeartbeats 4000000 in
set_option maxRecDepth 100000 in
theorem sort1_calls (w : World) (A : Option Addr) (c : Nat) (fv : Value) : Calls Try.prog 123 #[.slice A 1 c, fv] w fun e w' => e = .returned (.tuple #[]) ∧ w = w' := by
  go_enter Try.func123, Try.ntmps123
  go_wp2_with fail
  refine (stable1_calls w A c fv).mono ?_
  rintro e w1 ⟨rfl, rfl⟩
  go_wp2_with fail
  go_end0
  exact ⟨rfl, rfl⟩
set_option maxHeartbeats 4000000 in
set_option maxRecDepth 100000 in
theorem chk1_calls (w : World) (g b : Nat) (hg : CallAt w g) (hb : w.cell? ⟨b, 0, none⟩ = some (.slice (some ⟨g, 0, none⟩) 1 1)) : Calls Try.prog 82 #[.int .i64 0, .pointer (some ⟨b, 0, none⟩)] w fun e w' => e = .returned (.bool false) ∧ Below w.heap.size w w' := by
  unfold CallAt at hg
  have c3 : w.cell? ⟨g, 18, none⟩ = some (.int .i64 3) := (blk_cell hg 18).trans rfl
  have c4 : w.cell? ⟨g, 19, none⟩ = some (.int .i64 3) := (blk_cell hg 19).trans rfl
  clear hg
  go_enter Try.func82, Try.ntmps82
  go_wp2_with fail
  go_ret
  exact ⟨rfl, Below.refl _ _⟩
set_option maxHeartbeats 4000000 in
set_option maxRecDepth 100000 in
theorem chk2_calls (w : World) (g b : Nat) (hg : CallAt w g) (hb : w.cell? ⟨b, 0, none⟩ = some (.slice (some ⟨g, 0, none⟩) 1 1)) : Calls Try.prog 83 #[.int .i64 0, .pointer (some ⟨b, 0, none⟩)] w fun e w' => e = .returned (.bool false) ∧ Below w.heap.size w w' := by
  unfold CallAt at hg
  have hgl := World.block_lt_of_cell? _ _ hb
  have hgl2 := blk_lt hg
  have hbl := (Below.refl _ w).alloc (Nat.le_refl _) (.cells #[.int .i64 0] 3)
  have c4 : w.cell? ⟨g, 19, none⟩ = some (.int .i64 3) := (blk_cell hg 19).trans rfl
  have hb1 := cell_up hbl hb
  have c41 := cell_up hbl c4
  have HB := Aside0.mk hbl
  clear hg hbl
  go_enter Try.func83, Try.ntmps83
  go_wp2_with fail
  refine (has0_calls _ _ _ _).mono ?_
  rintro e w1 ⟨rfl, rfl⟩
  go_wp2_with fail
  go_ret
  exact ⟨rfl, HB.out⟩
set_option maxHeartbeats 4000000 in
set_option maxRecDepth 100000 in
theorem chk3_calls (w : World) (g b : Nat) (hg : CallAt w g) (hb : w.cell? ⟨b, 0, none⟩ = some (.slice (some ⟨g, 0, none⟩) 1 1)) : Calls Try.prog 86 #[.int .i64 0, .pointer (some ⟨b, 0, none⟩)] w fun e w' => e = .returned (.bool false) ∧ Below w.heap.size w w' := by
  unfold CallAt at hg
  have c2 : w.cell? ⟨g, 17, none⟩ = some (.int .i64 0) := (blk_cell hg 17).trans rfl
  have c3 : w.cell? ⟨g, 18, none⟩ = some (.int .i64 3) := (blk_cell hg 18).trans rfl
  have c4 : w.cell? ⟨g, 19, none⟩ = some (.int .i64 3) := (blk_cell hg 19).trans rfl
  clear hg
  go_enter Try.func86, Try.ntmps86
  go_upto_region 1 with fail
  refine start_ (n := 41) (S := fun w' => w'.cell? ⟨b, 0, none⟩ = some (.slice (some ⟨g, 0, none⟩) 1 1) ∧ w'.cell? ⟨g, 17, none⟩ = some (.int .i64 0) ∧ w'.cell? ⟨g, 18, none⟩ = some (.int .i64 3) ∧ w'.cell? ⟨g, 19, none⟩ = some (.int .i64 3)) (ds := []) #[false, false, false, false, false, false, false, false, false, false, false, false, false, false, false, false, false, false, false, false, false, false, false, false, false, false, false, false, false, false, false, false, false, false, false, false, false, false, false, false, false] (by kernel_rfl) rfl rfl ⟨hb, c2, c3, c4⟩ (fun hHeld => ?_)
  refine pure_ (i := 1) (N := some 5) (v := ?_) (a' := ?_) #[false, true, false, false, false, false, false, false, false, false, false, false, false, false, false, false, false, false, false, false, false, false, false, false, false, false, false, false, false, false, false, false, false, false, false, false, false, false, false, false, false] rfl rfl (by kernel_rfl) (fun _ _ _ h => h) (Or.inl ⟨by rfl, ?_⟩) ?_ ?_
  rotate_left
  · intro w'
    go_simp
    with_reducible rfl
  rotate_left
  · simp only [Act.put, List.setIfInBounds_toArray, List.set_cons_zero, List.set_cons_succ, i64_w, i32_w]
    rfl
  refine take_ (i := 0) (N := some 4) (v := ?_) (a' := ?_) #[true, true, false, false, false, false, false, false, false, false, false, false, false, false, false, false, false, false, false, false, false, false, false, false, false, false, false, false, false, false, false, false, false, false, false, false, false, false, false, false, false] rfl rfl (by kernel_rfl) (fun _ _ _ h => h) (Or.inl ⟨by rfl, ?_⟩) hHeld ?_ ?_
  rotate_left
  · rintro w' ⟨s0, s1, s2, s3⟩
    go_simp
    with_reducible rfl
  rotate_left
  · simp only [Act.put, List.setIfInBounds_toArray, List.set_cons_zero, List.set_cons_succ, i64_w, i32_w]
    rfl
  refine pure_ (i := 2) (N := some 6) (v := ?_) (a' := ?_) #[true, true, true, false, false, false, false, false, false, false, false, false, false, false, false, false, false, false, false, false, false, false, false, false, false, false, false, false, false, false, false, false, false, false, false, false, false, false, false, false, false] rfl rfl (by kernel_rfl) (fun _ _ _ h => h) (Or.inl ⟨by rfl, ?_⟩) ?_ ?_
  rotate_left
  · intro w'
    go_simp
    with_reducible rfl
  rotate_left
  · simp only [Act.put, List.setIfInBounds_toArray, List.set_cons_zero, List.set_cons_succ, i64_w, i32_w]
    rfl
  refine pure_ (i := 3) (N := some 7) (v := ?_) (a' := ?_) #[true, true, true, true, false, false, false, false, false, false, false, false, false, false, false, false, false, false, false, false, false, false, false, false, false, false, false, false, false, false, false, false, false, false, false, false, false, false, false, false, false] rfl rfl (by kernel_rfl) (fun _ _ _ h => h) (Or.inl ⟨by rfl, ?_⟩) ?_ ?_
  rotate_left
  · intro w'
    go_simp
    with_reducible rfl
  rotate_left
  · simp only [Act.put, List.setIfInBounds_toArray, List.set_cons_zero, List.set_cons_succ, i64_w, i32_w]
    rfl
  refine take_ (i := 4) (N := some 8) (v := ?_) (a' := ?_) #[true, true, true, true, true, false, false, false, false, false, false, false, false, false, false, false, false, false, false, false, false, false, false, false, false, false, false, false, false, false, false, false, false, false, false, false, false, false, false, false, false] rfl rfl (by kernel_rfl) (fun _ _ _ h => h) (Or.inl ⟨by rfl, ?_⟩) hHeld ?_ ?_
  rotate_left
  · rintro w' ⟨s0, s1, s2, s3⟩
    go_simp
    with_reducible rfl
  rotate_left
  · simp only [Act.put, List.setIfInBounds_toArray, List.set_cons_zero, List.set_cons_succ, i64_w, i32_w]
    rfl
  refine pure_ (i := 5) (N := some 9) (v := ?_) (a' := ?_) #[true, true, true, true, true, true, false, false, false, false, false, false, false, false, false, false, false, false, false, false, false, false, false, false, false, false, false, false, false, false, false, false, false, false, false, false, false, false, false, false, false] rfl rfl (by kernel_rfl) (fun _ _ _ h => h) (Or.inl ⟨by rfl, ?_⟩) ?_ ?_
  rotate_left
  · intro w'
    go_simp
    with_reducible rfl
  rotate_left
  · simp only [Act.put, List.setIfInBounds_toArray, List.set_cons_zero, List.set_cons_succ, i64_w, i32_w]
    rfl
  refine pure_ (i := 6) (N := some 10) (v := ?_) (a' := ?_) #[true, true, true, true, true, true, true, false, false, false, false, false, false, false, false, false, false, false, false, false, false, false, false, false, false, false, false, false, false, false, false, false, false, false, false, false, false, false, false, false, false] rfl rfl (by kernel_rfl) (fun _ _ _ h => h) (Or.inl ⟨by rfl, ?_⟩) ?_ ?_
  rotate_left
  · intro w'
    go_simp
    with_reducible rfl
  rotate_left
  · simp only [Act.put, List.setIfInBounds_toArray, List.set_cons_zero, List.set_cons_succ, i64_w, i32_w]
    rfl
  refine pure_ (i := 8) (N := some 12) (v := ?_) (a' := ?_) #[true, true, true, true, true, true, true, false, true, false, false, false, false, false, false, false, false, false, false, false, false, false, false, false, false, false, false, false, false, false, false, false, false, false, false, false, false, false, false, false, false] rfl rfl (by kernel_rfl) (fun _ _ _ h => h) (Or.inl ⟨by rfl, ?_⟩) ?_ ?_
  rotate_left
  · intro w'
    go_simp
    with_reducible rfl
  rotate_left
  · simp only [Act.put, List.setIfInBounds_toArray, List.set_cons_zero, List.set_cons_succ, i64_w, i32_w]
    rfl
  refine pure_ (i := 13) (N := some 17) (v := ?_) (a' := ?_) #[true, true, true, true, true, true, true, false, true, false, false, false, false, true, false, false, false, false, false, false, false, false, false, false, false, false, false, false, false, false, false, false, false, false, false, false, false, false, false, false, false] rfl rfl (by kernel_rfl) (fun _ _ _ h => h) (Or.inl ⟨by rfl, ?_⟩) ?_ ?_
  rotate_left
  · intro w'
    go_simp
    with_reducible rfl
  rotate_left
  · simp only [Act.put, List.setIfInBounds_toArray, List.set_cons_zero, List.set_cons_succ, i64_w, i32_w]
    rfl
  refine take_ (i := 7) (N := some 11) (v := ?_) (a' := ?_) #[true, true, true, true, true, true, true, true, true, false, false, false, false, true, false, false, false, false, false, false, false, false, false, false, false, false, false, false, false, false, false, false, false, false, false, false, false, false, false, false, false] rfl rfl (by kernel_rfl) (fun _ _ _ h => h) (Or.inl ⟨by rfl, ?_⟩) hHeld ?_ ?_
  rotate_left
  · rintro w' ⟨s0, s1, s2, s3⟩
    go_simp
    with_reducible rfl
  rotate_left
  · simp only [Act.put, List.setIfInBounds_toArray, List.set_cons_zero, List.set_cons_succ, i64_w, i32_w]
    rfl
  refine pure_ (i := 9) (N := some 13) (v := ?_) (a' := ?_) #[true, true, true, true, true, true, true, true, true, true, false, false, false, true, false, false, false, false, false, false, false, false, false, false, false, false, false, false, false, false, false, false, false, false, false, false, false, false, false, false, false] rfl rfl (by kernel_rfl) (fun _ _ _ h => h) (Or.inl ⟨by rfl, ?_⟩) ?_ ?_
  rotate_left
  · intro w'
    go_simp
    with_reducible rfl
  rotate_left
  · simp only [Act.put, List.setIfInBounds_toArray, List.set_cons_zero, List.set_cons_succ, i64_w, i32_w]
    rfl
  refine pure_ (i := 10) (N := some 14) (v := ?_) (a' := ?_) #[true, true, true, true, true, true, true, true, true, true, true, false, false, true, false, false, false, false, false, false, false, false, false, false, false, false, false, false, false, false, false, false, false, false, false, false, false, false, false, false, false] rfl rfl (by kernel_rfl) (fun _ _ _ h => h) (Or.inl ⟨by rfl, ?_⟩) ?_ ?_
  rotate_left
  · intro w'
    go_simp
    with_reducible rfl
  rotate_left
  · simp only [Act.put, List.setIfInBounds_toArray, List.set_cons_zero, List.set_cons_succ, i64_w, i32_w]
    rfl
  refine take_ (i := 11) (N := some 15) (v := ?_) (a' := ?_) #[true, true, true, true, true, true, true, true, true, true, true, true, false, true, false, false, false, false, false, false, false, false, false, false, false, false, false, false, false, false, false, false, false, false, false, false, false, false, false, false, false] rfl rfl (by kernel_rfl) (fun _ _ _ h => h) (Or.inl ⟨by rfl, ?_⟩) hHeld ?_ ?_
  rotate_left
  · rintro w' ⟨s0, s1, s2, s3⟩
    go_simp
    with_reducible rfl
  rotate_left
  · simp only [Act.put, List.setIfInBounds_toArray, List.set_cons_zero, List.set_cons_succ, i64_w, i32_w]
    rfl
  refine take_ (i := 12) (N := some 16) (v := ?_) (a' := ?_) #[true, true, true, true, true, true, true, true, true, true, true, true, true, true, false, false, false, false, false, false, false, false, false, false, false, false, false, false, false, false, false, false, false, false, false, false, false, false, false, false, false] rfl rfl (by kernel_rfl) (fun _ _ _ h => h) (Or.inl ⟨by rfl, ?_⟩) hHeld ?_ ?_
  rotate_left
  · rintro w' ⟨s0, s1, s2, s3⟩
    go_simp
    with_reducible rfl
  rotate_left
  · simp only [Act.put, List.setIfInBounds_toArray, List.set_cons_zero, List.set_cons_succ, i64_w, i32_w]
    rfl
  refine pure_ (i := 14) (N := some 18) (v := ?_) (a' := ?_) #[true, true, true, true, true, true, true, true, true, true, true, true, true, true, true, false, false, false, false, false, false, false, false, false, false, false, false, false, false, false, false, false, false, false, false, false, false, false, false, false, false] rfl rfl (by kernel_rfl) (fun _ _ _ h => h) (Or.inl ⟨by rfl, ?_⟩) ?_ ?_
  rotate_left
  · intro w'
    go_simp
    with_reducible rfl
  rotate_left
  · simp only [Act.put, List.setIfInBounds_toArray, List.set_cons_zero, List.set_cons_succ, i64_w, i32_w]
    rfl
  refine pure_ (i := 15) (N := some 19) (v := ?_) (a' := ?_) #[true, true, true, true, true, true, true, true, true, true, true, true, true, true, true, true, false, false, false, false, false, false, false, false, false, false, false, false, false, false, false, false, false, false, false, false, false, false, false, false, false] rfl rfl (by kernel_rfl) (fun _ _ _ h => h) (Or.inl ⟨by rfl, ?_⟩) ?_ ?_
  rotate_left
  · intro w'
    go_simp
    with_reducible rfl
  rotate_left
  · simp only [Act.put, List.setIfInBounds_toArray, List.set_cons_zero, List.set_cons_succ, i64_w, i32_w]
    rfl
  refine take_ (i := 16) (N := some 20) (v := ?_) (a' := ?_) #[true, true, true, true, true, true, true, true, true, true, true, true, true, true, true, true, true, false, false, false, false, false, false, false, false, false, false, false, false, false, false, false, false, false, false, false, false, false, false, false, false] rfl rfl (by kernel_rfl) (fun _ _ _ h => h) (Or.inl ⟨by rfl, ?_⟩) hHeld ?_ ?_
  rotate_left
  · rintro w' ⟨s0, s1, s2, s3⟩
    go_simp
    with_reducible rfl
  rotate_left
  · simp only [Act.put, List.setIfInBounds_toArray, List.set_cons_zero, List.set_cons_succ, i64_w, i32_w]
    rfl
  refine pure_ (i := 17) (N := some 21) (v := ?_) (a' := ?_) #[true, true, true, true, true, true, true, true, true, true, true, true, true, true, true, true, true, true, false, false, false, false, false, false, false, false, false, false, false, false, false, false, false, false, false, false, false, false, false, false, false] rfl rfl (by kernel_rfl) (fun _ _ _ h => h) (Or.inl ⟨by rfl, ?_⟩) ?_ ?_
  rotate_left
  · intro w'
    go_simp
    with_reducible rfl
  rotate_left
  · simp only [Act.put, List.setIfInBounds_toArray, List.set_cons_zero, List.set_cons_succ, i64_w, i32_w]
    rfl
  refine pure_ (i := 18) (N := some 22) (v := ?_) (a' := ?_) #[true, true, true, true, true, true, true, true, true, true, true, true, true, true, true, true, true, true, true, false, false, false, false, false, false, false, false, false, false, false, false, false, false, false, false, false, false, false, false, false, false] rfl rfl (by kernel_rfl) (fun _ _ _ h => h) (Or.inl ⟨by rfl, ?_⟩) ?_ ?_
  rotate_left
  · intro w'
    go_simp
    with_reducible rfl
  rotate_left
  · simp only [Act.put, List.setIfInBounds_toArray, List.set_cons_zero, List.set_cons_succ, i64_w, i32_w]
    rfl
  refine pure_ (i := 20) (N := some 24) (v := ?_) (a' := ?_) #[true, true, true, true, true, true, true, true, true, true, true, true, true, true, true, true, true, true, true, false, true, false, false, false, false, false, false, false, false, false, false, false, false, false, false, false, false, false, false, false, false] rfl rfl (by kernel_rfl) (fun _ _ _ h => h) (Or.inl ⟨by rfl, ?_⟩) ?_ ?_
  rotate_left
  · intro w'
    go_simp
    with_reducible rfl
  rotate_left
  · simp only [Act.put, List.setIfInBounds_toArray, List.set_cons_zero, List.set_cons_succ, i64_w, i32_w]
    rfl
  refine take_ (i := 19) (N := some 23) (v := ?_) (a' := ?_) #[true, true, true, true, true, true, true, true, true, true, true, true, true, true, true, true, true, true, true, true, true, false, false, false, false, false, false, false, false, false, false, false, false, false, false, false, false, false, false, false, false] rfl rfl (by kernel_rfl) (fun _ _ _ h => h) (Or.inl ⟨by rfl, ?_⟩) hHeld ?_ ?_
  rotate_left
  · rintro w' ⟨s0, s1, s2, s3⟩
    go_simp
    with_reducible rfl
  rotate_left
  · simp only [Act.put, List.setIfInBounds_toArray, List.set_cons_zero, List.set_cons_succ, i64_w, i32_w]
    rfl
  refine pure_ (i := 21) (N := some 25) (v := ?_) (a' := ?_) #[true, true, true, true, true, true, true, true, true, true, true, true, true, true, true, true, true, true, true, true, true, true, false, false, false, false, false, false, false, false, false, false, false, false, false, false, false, false, false, false, false] rfl rfl (by kernel_rfl) (fun _ _ _ h => h) (Or.inl ⟨by rfl, ?_⟩) ?_ ?_
  rotate_left
  · intro w'
    go_simp
    with_reducible rfl
  rotate_left
  · simp only [Act.put, List.setIfInBounds_toArray, List.set_cons_zero, List.set_cons_succ, i64_w, i32_w]
    rfl
  refine pure_ (i := 22) (N := some 26) (v := ?_) (a' := ?_) #[true, true, true, true, true, true, true, true, true, true, true, true, true, true, true, true, true, true, true, true, true, true, true, false, false, false, false, false, false, false, false, false, false, false, false, false, false, false, false, false, false] rfl rfl (by kernel_rfl) (fun _ _ _ h => h) (Or.inl ⟨by rfl, ?_⟩) ?_ ?_
  rotate_left
  · intro w'
    go_simp
    with_reducible rfl
  rotate_left
  · simp only [Act.put, List.setIfInBounds_toArray, List.set_cons_zero, List.set_cons_succ, i64_w, i32_w]
    rfl
  refine take_ (i := 23) (N := some 27) (v := ?_) (a' := ?_) #[true, true, true, true, true, true, true, true, true, true, true, true, true, true, true, true, true, true, true, true, true, true, true, true, false, false, false, false, false, false, false, false, false, false, false, false, false, false, false, false, false] rfl rfl (by kernel_rfl) (fun _ _ _ h => h) (Or.inl ⟨by rfl, ?_⟩) hHeld ?_ ?_
  rotate_left
  · rintro w' ⟨s0, s1, s2, s3⟩
    go_simp
    with_reducible rfl
  rotate_left
  · simp only [Act.put, List.setIfInBounds_toArray, List.set_cons_zero, List.set_cons_succ, i64_w, i32_w]
    rfl
  refine pure_ (i := 24) (N := some 28) (v := ?_) (a' := ?_) #[true, true, true, true, true, true, true, true, true, true, true, true, true, true, true, true, true, true, true, true, true, true, true, true, true, false, false, false, false, false, false, false, false, false, false, false, false, false, false, false, false] rfl rfl (by kernel_rfl) (fun _ _ _ h => h) (Or.inl ⟨by rfl, ?_⟩) ?_ ?_
  rotate_left
  · intro w'
    go_simp
    with_reducible rfl
  rotate_left
  · simp only [Act.put, List.setIfInBounds_toArray, List.set_cons_zero, List.set_cons_succ, i64_w, i32_w]
    rfl
  refine pure_ (i := 25) (N := some 29) (v := ?_) (a' := ?_) #[true, true, true, true, true, true, true, true, true, true, true, true, true, true, true, true, true, true, true, true, true, true, true, true, true, true, false, false, false, false, false, false, false, false, false, false, false, false, false, false, false] rfl rfl (by kernel_rfl) (fun _ _ _ h => h) (Or.inl ⟨by rfl, ?_⟩) ?_ ?_
  rotate_left
  · intro w'
    go_simp
    with_reducible rfl
  rotate_left
  · simp only [Act.put, List.setIfInBounds_toArray, List.set_cons_zero, List.set_cons_succ, i64_w, i32_w]
    rfl
  refine pure_ (i := 27) (N := some 31) (v := ?_) (a' := ?_) #[true, true, true, true, true, true, true, true, true, true, true, true, true, true, true, true, true, true, true, true, true, true, true, true, true, true, false, true, false, false, false, false, false, false, false, false, false, false, false, false, false] rfl rfl (by kernel_rfl) (fun _ _ _ h => h) (Or.inl ⟨by rfl, ?_⟩) ?_ ?_
  rotate_left
  · intro w'
    go_simp
    with_reducible rfl
  rotate_left
  · simp only [Act.put, List.setIfInBounds_toArray, List.set_cons_zero, List.set_cons_succ, i64_w, i32_w]
    rfl
  refine pure_ (i := 32) (N := some 36) (v := ?_) (a' := ?_) #[true, true, true, true, true, true, true, true, true, true, true, true, true, true, true, true, true, true, true, true, true, true, true, true, true, true, false, true, false, false, false, false, true, false, false, false, false, false, false, false, false] rfl rfl (by kernel_rfl) (fun _ _ _ h => h) (Or.inl ⟨by rfl, ?_⟩) ?_ ?_
  rotate_left
  · intro w'
    go_simp
    with_reducible rfl
  rotate_left
  · simp only [Act.put, List.setIfInBounds_toArray, List.set_cons_zero, List.set_cons_succ, i64_w, i32_w]
    rfl
  refine take_ (i := 26) (N := some 30) (v := ?_) (a' := ?_) #[true, true, true, true, true, true, true, true, true, true, true, true, true, true, true, true, true, true, true, true, true, true, true, true, true, true, true, true, false, false, false, false, true, false, false, false, false, false, false, false, false] rfl rfl (by kernel_rfl) (fun _ _ _ h => h) (Or.inl ⟨by rfl, ?_⟩) hHeld ?_ ?_
  rotate_left
  · rintro w' ⟨s0, s1, s2, s3⟩
    go_simp
    with_reducible rfl
  rotate_left
  · simp only [Act.put, List.setIfInBounds_toArray, List.set_cons_zero, List.set_cons_succ, i64_w, i32_w]
    rfl
  refine pure_ (i := 28) (N := some 32) (v := ?_) (a' := ?_) #[true, true, true, true, true, true, true, true, true, true, true, true, true, true, true, true, true, true, true, true, true, true, true, true, true, true, true, true, true, false, false, false, true, false, false, false, false, false, false, false, false] rfl rfl (by kernel_rfl) (fun _ _ _ h => h) (Or.inl ⟨by rfl, ?_⟩) ?_ ?_
  rotate_left
  · intro w'
    go_simp
    with_reducible rfl
  rotate_left
  · simp only [Act.put, List.setIfInBounds_toArray, List.set_cons_zero, List.set_cons_succ, i64_w, i32_w]
    rfl
  refine pure_ (i := 29) (N := some 33) (v := ?_) (a' := ?_) #[true, true, true, true, true, true, true, true, true, true, true, true, true, true, true, true, true, true, true, true, true, true, true, true, true, true, true, true, true, true, false, false, true, false, false, false, false, false, false, false, false] rfl rfl (by kernel_rfl) (fun _ _ _ h => h) (Or.inl ⟨by rfl, ?_⟩) ?_ ?_
  rotate_left
  · intro w'
    go_simp
    with_reducible rfl
  rotate_left
  · simp only [Act.put, List.setIfInBounds_toArray, List.set_cons_zero, List.set_cons_succ, i64_w, i32_w]
    rfl
  refine take_ (i := 30) (N := some 34) (v := ?_) (a' := ?_) #[true, true, true, true, true, true, true, true, true, true, true, true, true, true, true, true, true, true, true, true, true, true, true, true, true, true, true, true, true, true, true, false, true, false, false, false, false, false, false, false, false] rfl rfl (by kernel_rfl) (fun _ _ _ h => h) (Or.inl ⟨by rfl, ?_⟩) hHeld ?_ ?_
  rotate_left
  · rintro w' ⟨s0, s1, s2, s3⟩
    go_simp
    with_reducible rfl
  rotate_left
  · simp only [Act.put, List.setIfInBounds_toArray, List.set_cons_zero, List.set_cons_succ, i64_w, i32_w]
    rfl
  refine take_ (i := 31) (N := some 35) (v := ?_) (a' := ?_) #[true, true, true, true, true, true, true, true, true, true, true, true, true, true, true, true, true, true, true, true, true, true, true, true, true, true, true, true, true, true, true, true, true, false, false, false, false, false, false, false, false] rfl rfl (by kernel_rfl) (fun _ _ _ h => h) (Or.inl ⟨by rfl, ?_⟩) hHeld ?_ ?_
  rotate_left
  · rintro w' ⟨s0, s1, s2, s3⟩
    go_simp
    with_reducible rfl
  rotate_left
  · simp only [Act.put, List.setIfInBounds_toArray, List.set_cons_zero, List.set_cons_succ, i64_w, i32_w]
    rfl
  refine pure_ (i := 33) (N := some 37) (v := ?_) (a' := ?_) #[true, true, true, true, true, true, true, true, true, true, true, true, true, true, true, true, true, true, true, true, true, true, true, true, true, true, true, true, true, true, true, true, true, true, false, false, false, false, false, false, false] rfl rfl (by kernel_rfl) (fun _ _ _ h => h) (Or.inl ⟨by rfl, ?_⟩) ?_ ?_
  rotate_left
  · intro w'
    go_simp
    with_reducible rfl
  rotate_left
  · simp only [Act.put, List.setIfInBounds_toArray, List.set_cons_zero, List.set_cons_succ, i64_w, i32_w]
    rfl
  refine pure_ (i := 34) (N := some 38) (v := ?_) (a' := ?_) #[true, true, true, true, true, true, true, true, true, true, true, true, true, true, true, true, true, true, true, true, true, true, true, true, true, true, true, true, true, true, true, true, true, true, true, false, false, false, false, false, false] rfl rfl (by kernel_rfl) (fun _ _ _ h => h) (Or.inl ⟨by rfl, ?_⟩) ?_ ?_
  rotate_left
  · intro w'
    go_simp
    with_reducible rfl
  rotate_left
  · simp only [Act.put, List.setIfInBounds_toArray, List.set_cons_zero, List.set_cons_succ, i64_w, i32_w]
    rfl
  refine take_ (i := 35) (N := some 39) (v := ?_) (a' := ?_) #[true, true, true, true, true, true, true, true, true, true, true, true, true, true, true, true, true, true, true, true, true, true, true, true, true, true, true, true, true, true, true, true, true, true, true, true, false, false, false, false, false] rfl rfl (by kernel_rfl) (fun _ _ _ h => h) (Or.inl ⟨by rfl, ?_⟩) hHeld ?_ ?_
  rotate_left
  · rintro w' ⟨s0, s1, s2, s3⟩
    go_simp
    with_reducible rfl
  rotate_left
  · simp only [Act.put, List.setIfInBounds_toArray, List.set_cons_zero, List.set_cons_succ, i64_w, i32_w]
    rfl
  refine pure_ (i := 36) (N := some 40) (v := ?_) (a' := ?_) #[true, true, true, true, true, true, true, true, true, true, true, true, true, true, true, true, true, true, true, true, true, true, true, true, true, true, true, true, true, true, true, true, true, true, true, true, true, false, false, false, false] rfl rfl (by kernel_rfl) (fun _ _ _ h => h) (Or.inl ⟨by rfl, ?_⟩) ?_ ?_
  rotate_left
  · intro w'
    go_simp
    with_reducible rfl
  rotate_left
  · simp only [Act.put, List.setIfInBounds_toArray, List.set_cons_zero, List.set_cons_succ, i64_w, i32_w]
    rfl
  refine pure_ (i := 37) (N := some 41) (v := ?_) (a' := ?_) #[true, true, true, true, true, true, true, true, true, true, true, true, true, true, true, true, true, true, true, true, true, true, true, true, true, true, true, true, true, true, true, true, true, true, true, true, true, true, false, false, false] rfl rfl (by kernel_rfl) (fun _ _ _ h => h) (Or.inl ⟨by rfl, ?_⟩) ?_ ?_
  rotate_left
  · intro w'
    go_simp
    with_reducible rfl
  rotate_left
  · simp only [Act.put, List.setIfInBounds_toArray, List.set_cons_zero, List.set_cons_succ, i64_w, i32_w]
    rfl
  refine pure_ (i := 38) (N := some 42) (v := ?_) (a' := ?_) #[true, true, true, true, true, true, true, true, true, true, true, true, true, true, true, true, true, true, true, true, true, true, true, true, true, true, true, true, true, true, true, true, true, true, true, true, true, true, true, false, false] rfl rfl (by kernel_rfl) (fun _ _ _ h => h) (Or.inl ⟨by rfl, ?_⟩) ?_ ?_
  rotate_left
  · intro w'
    go_simp
    with_reducible rfl
  rotate_left
  · simp only [Act.put, List.setIfInBounds_toArray, List.set_cons_zero, List.set_cons_succ, i64_w, i32_w]
    rfl
  refine pure_ (i := 39) (N := some 43) (v := ?_) (a' := ?_) #[true, true, true, true, true, true, true, true, true, true, true, true, true, true, true, true, true, true, true, true, true, true, true, true, true, true, true, true, true, true, true, true, true, true, true, true, true, true, true, true, false] rfl rfl (by kernel_rfl) (fun _ _ _ h => h) (Or.inl ⟨by rfl, ?_⟩) ?_ ?_
  rotate_left
  · intro w'
    go_simp
    with_reducible rfl
  rotate_left
  · simp only [Act.put, List.setIfInBounds_toArray, List.set_cons_zero, List.set_cons_succ, i64_w, i32_w]
    rfl
  refine pure_ (i := 40) (N := some 3) (v := ?_) (a' := ?_) #[true, true, true, true, true, true, true, true, true, true, true, true, true, true, true, true, true, true, true, true, true, true, true, true, true, true, true, true, true, true, true, true, true, true, true, true, true, true, true, true, true] rfl rfl (by kernel_rfl) (fun _ _ _ h => h) (Or.inl ⟨by rfl, ?_⟩) ?_ ?_
  rotate_left
  · intro w'
    go_simp
    with_reducible rfl
  rotate_left
  · simp only [Act.put, List.setIfInBounds_toArray, List.set_cons_zero, List.set_cons_succ, i64_w, i32_w]
    rfl
  refine done_ (by kernel_rfl) ?_
  (try simp only [Exit.inBlock, Exit.then])
  go_wp2_with fail
  go_ret
  exact ⟨rfl, (Below.refl _ _).drew⟩
set_option maxHeartbeats 4000000 in
set_option maxRecDepth 100000 in
theorem chk4_calls (w : World) (g b g2 b2 : Nat) (hg : CallAt w g) (hb : w.cell? ⟨b, 0, none⟩ = some (.slice (some ⟨g, 0, none⟩) 1 1)) (hb2 : w.cell? ⟨b2, 0, none⟩ = some (.slice (some ⟨g2, 0, none⟩) 1 1)) (r : w.cell? ⟨g2, 0, none⟩ = some (.int .i64 0) ∧ w.cell? ⟨g2, 1, none⟩ = some (.int .i64 0) ∧ w.cell? ⟨g2, 2, none⟩ = some (.int .u8 0)) : Calls Try.prog 87 #[.int .i64 0, .pointer (some ⟨b, 0, none⟩), .pointer (some ⟨b2, 0, none⟩)] w fun e w' => e = .returned (.bool false) ∧ Below w.heap.size w w' := by
  unfold CallAt at hg
  have c3 : w.cell? ⟨g, 18, none⟩ = some (.int .i64 3) := (blk_cell hg 18).trans rfl
  have c5 : w.cell? ⟨g, 20, none⟩ = some (.int .i64 0) := (blk_cell hg 20).trans rfl
  have c6 : w.cell? ⟨g, 21, none⟩ = some (.int .i64 0) := (blk_cell hg 21).trans rfl
  have c7 : w.cell? ⟨g, 22, none⟩ = some (.int .u8 0) := (blk_cell hg 22).trans rfl
  obtain ⟨r0, r1, r2⟩ := r
  clear hg
  go_enter Try.func87, Try.ntmps87
  go_upto_region 1 with fail
  refine start_ (n := 19) (S := fun w' => w'.cell? ⟨b, 0, none⟩ = some (.slice (some ⟨g, 0, none⟩) 1 1) ∧ w'.cell? ⟨g, 18, none⟩ = some (.int .i64 3) ∧ w'.cell? ⟨g, 20, none⟩ = some (.int .i64 0) ∧ w'.cell? ⟨g, 21, none⟩ = some (.int .i64 0) ∧ w'.cell? ⟨g, 22, none⟩ = some (.int .u8 0) ∧ w'.cell? ⟨b2, 0, none⟩ = some (.slice (some ⟨g2, 0, none⟩) 1 1) ∧ w'.cell? ⟨g2, 0, none⟩ = some (.int .i64 0) ∧ w'.cell? ⟨g2, 1, none⟩ = some (.int .i64 0) ∧ w'.cell? ⟨g2, 2, none⟩ = some (.int .u8 0)) (ds := []) #[false, false, false, false, false, false, false, false, false, false, false, false, false, false, false, false, false, false, false] (by kernel_rfl) rfl rfl ⟨hb, c3, c5, c6, c7, hb2, r0, r1, r2⟩ (fun hHeld => ?_)
  refine pure_ (i := 1) (N := some 6) (v := ?_) (a' := ?_) #[false, true, false, false, false, false, false, false, false, false, false, false, false, false, false, false, false, false, false] rfl rfl (by kernel_rfl) (fun _ _ _ h => h) (Or.inl ⟨by rfl, ?_⟩) ?_ ?_
  rotate_left
  · intro w'
    go_simp
    with_reducible rfl
  rotate_left
  · simp only [Act.put, List.setIfInBounds_toArray, List.set_cons_zero, List.set_cons_succ, i64_w, i32_w]
    rfl
  refine take_ (i := 0) (N := some 5) (v := ?_) (a' := ?_) #[true, true, false, false, false, false, false, false, false, false, false, false, false, false, false, false, false, false, false] rfl rfl (by kernel_rfl) (fun _ _ _ h => h) (Or.inl ⟨by rfl, ?_⟩) hHeld ?_ ?_
  rotate_left
  · rintro w' ⟨s0, s1, s2, s3, s4, s5, s6, s7, s8⟩
    go_simp
    with_reducible rfl
  rotate_left
  · simp only [Act.put, List.setIfInBounds_toArray, List.set_cons_zero, List.set_cons_succ, i64_w, i32_w]
    rfl
  refine pure_ (i := 2) (N := some 7) (v := ?_) (a' := ?_) #[true, true, true, false, false, false, false, false, false, false, false, false, false, false, false, false, false, false, false] rfl rfl (by kernel_rfl) (fun _ _ _ h => h) (Or.inl ⟨by rfl, ?_⟩) ?_ ?_
  rotate_left
  · intro w'
    go_simp
    with_reducible rfl
  rotate_left
  · simp only [Act.put, List.setIfInBounds_toArray, List.set_cons_zero, List.set_cons_succ, i64_w, i32_w]
    rfl
  refine pure_ (i := 3) (N := some 8) (v := ?_) (a' := ?_) #[true, true, true, true, false, false, false, false, false, false, false, false, false, false, false, false, false, false, false] rfl rfl (by kernel_rfl) (fun _ _ _ h => h) (Or.inl ⟨by rfl, ?_⟩) ?_ ?_
  rotate_left
  · intro w'
    go_simp
    with_reducible rfl
  rotate_left
  · simp only [Act.put, List.setIfInBounds_toArray, List.set_cons_zero, List.set_cons_succ, i64_w, i32_w]
    rfl
  refine take_ (i := 4) (N := some 9) (v := ?_) (a' := ?_) #[true, true, true, true, true, false, false, false, false, false, false, false, false, false, false, false, false, false, false] rfl rfl (by kernel_rfl) (fun _ _ _ h => h) (Or.inl ⟨by rfl, ?_⟩) hHeld ?_ ?_
  rotate_left
  · rintro w' ⟨s0, s1, s2, s3, s4, s5, s6, s7, s8⟩
    go_simp
    with_reducible rfl
  rotate_left
  · simp only [Act.put, List.setIfInBounds_toArray, List.set_cons_zero, List.set_cons_succ, i64_w, i32_w]
    rfl
  refine pure_ (i := 5) (N := some 10) (v := ?_) (a' := ?_) #[true, true, true, true, true, true, false, false, false, false, false, false, false, false, false, false, false, false, false] rfl rfl (by kernel_rfl) (fun _ _ _ h => h) (Or.inl ⟨by rfl, ?_⟩) ?_ ?_
  rotate_left
  · intro w'
    go_simp
    with_reducible rfl
  rotate_left
  · simp only [Act.put, List.setIfInBounds_toArray, List.set_cons_zero, List.set_cons_succ, i64_w, i32_w]
    rfl
  refine pure_ (i := 6) (N := some 11) (v := ?_) (a' := ?_) #[true, true, true, true, true, true, true, false, false, false, false, false, false, false, false, false, false, false, false] rfl rfl (by kernel_rfl) (fun _ _ _ h => h) (Or.inl ⟨by rfl, ?_⟩) ?_ ?_
  rotate_left
  · intro w'
    go_simp
    with_reducible rfl
  rotate_left
  · simp only [Act.put, List.setIfInBounds_toArray, List.set_cons_zero, List.set_cons_succ, i64_w, i32_w]
    rfl
  refine pure_ (i := 8) (N := some 13) (v := ?_) (a' := ?_) #[true, true, true, true, true, true, true, false, true, false, false, false, false, false, false, false, false, false, false] rfl rfl (by kernel_rfl) (fun _ _ _ h => h) (Or.inl ⟨by rfl, ?_⟩) ?_ ?_
  rotate_left
  · intro w'
    go_simp
    with_reducible rfl
  rotate_left
  · simp only [Act.put, List.setIfInBounds_toArray, List.set_cons_zero, List.set_cons_succ, i64_w, i32_w]
    rfl
  refine pure_ (i := 13) (N := some 18) (v := ?_) (a' := ?_) #[true, true, true, true, true, true, true, false, true, false, false, false, false, true, false, false, false, false, false] rfl rfl (by kernel_rfl) (fun _ _ _ h => h) (Or.inl ⟨by rfl, ?_⟩) ?_ ?_
  rotate_left
  · intro w'
    go_simp
    with_reducible rfl
  rotate_left
  · simp only [Act.put, List.setIfInBounds_toArray, List.set_cons_zero, List.set_cons_succ, i64_w, i32_w]
    rfl
  refine take_ (i := 7) (N := some 12) (v := ?_) (a' := ?_) #[true, true, true, true, true, true, true, true, true, false, false, false, false, true, false, false, false, false, false] rfl rfl (by kernel_rfl) (fun _ _ _ h => h) (Or.inl ⟨by rfl, ?_⟩) hHeld ?_ ?_
  rotate_left
  · rintro w' ⟨s0, s1, s2, s3, s4, s5, s6, s7, s8⟩
    go_simp
    with_reducible rfl
  rotate_left
  · simp only [Act.put, List.setIfInBounds_toArray, List.set_cons_zero, List.set_cons_succ, i64_w, i32_w]
    rfl
  refine pure_ (i := 9) (N := some 14) (v := ?_) (a' := ?_) #[true, true, true, true, true, true, true, true, true, true, false, false, false, true, false, false, false, false, false] rfl rfl (by kernel_rfl) (fun _ _ _ h => h) (Or.inl ⟨by rfl, ?_⟩) ?_ ?_
  rotate_left
  · intro w'
    go_simp
    with_reducible rfl
  rotate_left
  · simp only [Act.put, List.setIfInBounds_toArray, List.set_cons_zero, List.set_cons_succ, i64_w, i32_w]
    rfl
  refine pure_ (i := 10) (N := some 15) (v := ?_) (a' := ?_) #[true, true, true, true, true, true, true, true, true, true, true, false, false, true, false, false, false, false, false] rfl rfl (by kernel_rfl) (fun _ _ _ h => h) (Or.inl ⟨by rfl, ?_⟩) ?_ ?_
  rotate_left
  · intro w'
    go_simp
    with_reducible rfl
  rotate_left
  · simp only [Act.put, List.setIfInBounds_toArray, List.set_cons_zero, List.set_cons_succ, i64_w, i32_w]
    rfl
  refine take_ (i := 11) (N := some 16) (v := ?_) (a' := ?_) #[true, true, true, true, true, true, true, true, true, true, true, true, false, true, false, false, false, false, false] rfl rfl (by kernel_rfl) (fun _ _ _ h => h) (Or.inl ⟨by rfl, ?_⟩) hHeld ?_ ?_
  rotate_left
  · rintro w' ⟨s0, s1, s2, s3, s4, s5, s6, s7, s8⟩
    go_simp
    with_reducible rfl
  rotate_left
  · simp only [Act.put, List.setIfInBounds_toArray, List.set_cons_zero, List.set_cons_succ, i64_w, i32_w]
    rfl
  refine take_ (i := 12) (N := some 17) (v := ?_) (a' := ?_) #[true, true, true, true, true, true, true, true, true, true, true, true, true, true, false, false, false, false, false] rfl rfl (by kernel_rfl) (fun _ _ _ h => h) (Or.inl ⟨by rfl, ?_⟩) hHeld ?_ ?_
  rotate_left
  · rintro w' ⟨s0, s1, s2, s3, s4, s5, s6, s7, s8⟩
    go_simp
    with_reducible rfl
  rotate_left
  · simp only [Act.put, List.setIfInBounds_toArray, List.set_cons_zero, List.set_cons_succ, i64_w, i32_w]
    rfl
  refine pure_ (i := 14) (N := some 19) (v := ?_) (a' := ?_) #[true, true, true, true, true, true, true, true, true, true, true, true, true, true, true, false, false, false, false] rfl rfl (by kernel_rfl) (fun _ _ _ h => h) (Or.inl ⟨by rfl, ?_⟩) ?_ ?_
  rotate_left
  · intro w'
    go_simp
    with_reducible rfl
  rotate_left
  · simp only [Act.put, List.setIfInBounds_toArray, List.set_cons_zero, List.set_cons_succ, i64_w, i32_w]
    rfl
  refine take_ (i := 15) (N := some 20) (v := ?_) (a' := ?_) #[true, true, true, true, true, true, true, true, true, true, true, true, true, true, true, true, false, false, false] rfl rfl (by kernel_rfl) (fun _ _ _ h => h) (Or.inl ⟨by rfl, ?_⟩) hHeld ?_ ?_
  rotate_left
  · rintro w' ⟨s0, s1, s2, s3, s4, s5, s6, s7, s8⟩
    go_simp
    with_reducible rfl
  rotate_left
  · simp only [Act.put, List.setIfInBounds_toArray, List.set_cons_zero, List.set_cons_succ, i64_w, i32_w]
    rfl
  refine pure_ (i := 16) (N := some 21) (v := ?_) (a' := ?_) #[true, true, true, true, true, true, true, true, true, true, true, true, true, true, true, true, true, false, false] rfl rfl (by kernel_rfl) (fun _ _ _ h => h) (Or.inl ⟨by rfl, ?_⟩) ?_ ?_
  rotate_left
  · intro w'
    go_simp
    with_reducible rfl
  rotate_left
  · simp only [Act.put, List.setIfInBounds_toArray, List.set_cons_zero, List.set_cons_succ, i64_w, i32_w]
    rfl
  refine pure_ (i := 17) (N := some 22) (v := ?_) (a' := ?_) #[true, true, true, true, true, true, true, true, true, true, true, true, true, true, true, true, true, true, false] rfl rfl (by kernel_rfl) (fun _ _ _ h => h) (Or.inl ⟨by rfl, ?_⟩) ?_ ?_
  rotate_left
  · intro w'
    go_simp
    with_reducible rfl
  rotate_left
  · simp only [Act.put, List.setIfInBounds_toArray, List.set_cons_zero, List.set_cons_succ, i64_w, i32_w]
    rfl
  refine pure_ (i := 18) (N := some 4) (v := ?_) (a' := ?_) #[true, true, true, true, true, true, true, true, true, true, true, true, true, true, true, true, true, true, true] rfl rfl (by kernel_rfl) (fun _ _ _ h => h) (Or.inl ⟨by rfl, ?_⟩) ?_ ?_
  rotate_left
  · intro w'
    go_simp
    with_reducible rfl
  rotate_left
  · simp only [Act.put, List.setIfInBounds_toArray, List.set_cons_zero, List.set_cons_succ, i64_w, i32_w]
    rfl
  refine done_ (by kernel_rfl) ?_
  (try simp only [Exit.inBlock, Exit.then])
  go_wp2_with fail
  go_ret
  exact ⟨rfl, (Below.refl _ _).drew⟩
end
end Go.Proofs.Ytalmemcidbmdgaa.PM


/- A story (layer 21): the document's example: places, Row, tell, Story, Check. -/
set_option linter.unusedVariables false
set_option linter.unusedSimpArgs false
namespace Go.Proofs.Ytalmemcidbmdgaa.PM
open Go.RowKit Go.Proofs.YtalmemcidbmdgaaW.PrintWords Go.Proofs.YtalmemcidbmdgaaW.PrintLast Go.Proofs.YtalmemcidbmdgaaW.PrintMore Go.Proofs.Ytalmemcidbmdgaa.PageG
attribute [local go_sem] max2_int min2_int max_two min_two max_three min_three max_four min_four   -- for this text's walks alone
/-- A whole struct into the block that was made last. -/
theorem wpList_store_new {P : Program} {ops : Array Oper} {rest : List Oper} {o : Oper} {a : Act} {w : World} {Q : Exit → Act → World → Prop} (hgd : o.guard = none) (hd : o.dst = none) (ty : TypeId) (x v : Operand) (ho : o.op = .store ty x v)
    (t : TypeId) (c c' : Array Value) (hx : a.eval x = .pointer (some ⟨w.heap.size, 0, none⟩)) (hv : a.eval v = .agg c') (hi : (P.info? ty).map (·.size) = some c'.size) (hs : c.size = c'.size) (h1 : c'.all (·.oneCell') = true)
    (h : wpList P ops Q rest a (w.alloc (.cells c' t))) : wpList P ops Q (o :: rest) a (w.alloc (.cells c t)) := by
  refine wpList_plain hgd fun K hK => ?_
  have hr : (storeVar ty ⟨w.heap.size, 0, none⟩ (.agg c')).run P (w.alloc (.cells c t)) = .ok () (w.alloc (.cells c' t)) := by
    rw [run_storeVar_row _ _ t ty c c' (heap_alloc_last w _) hi hs h1, World.setRow_alloc_new]
  have hrun : (execOp a.eval o).run P (w.alloc (.cells c t)) = .ok .skip (w.alloc (.cells c' t)) := by
    unfold execOp
    simp [ho, hx, hv, Instr.storeAt, Instr.sureAddr, Sem.run_bind, Sem.run_pure, Result.andThen, hr]
  unfold Oper.wp
  rw [hrun]
  show K (a.put o.dst undef) _
  rw [hd]
  exact hK _ _ h
section
variable {w w' : World}
set_option maxHeartbeats 4000000 in
set_option maxRecDepth 100000 in
theorem places1_calls (w : World) (g : Nat) (hg : CallAt w g) : Calls Try.prog 121 #[.slice (some ⟨g, 0, none⟩) 1 1, .func (.func 122) #[] #[]] w fun e w' => ∃ g' c, e = .returned (.slice (some ⟨g', 0, none⟩) 1 c) ∧ w'.cell? ⟨g', 0, none⟩ = some (.int .i64 0) ∧ Below w.heap.size w w' := by
  have HG := Aside0.mk hg
  unfold CallAt at hg
  clear hg
  have hen := enters_ (P := Try.prog) Try.func122 (by rfl) (by kernel_rfl)
  have HEN := Aside0.mk hen
  clear hen
  go_enter Try.func121, Try.ntmps121
  go_wp2_with fail
  refine wp_loop_rounds 2 ?_
  rw [rounds_succ]
  go_upto_region 5 with (first | (refine wpList_load_row rfl 69 _ rfl g rfl 69 #[.int .i64 0, .int .i64 6, .int .i64 0, .int .i64 0, .bool false, .int .u64 0, .int .u8 0, .int .u64 0, .int .i64 0, .bool false, .bool false, .bool false, .bool false, .bool false, .bool false, .int .i64 0, .int .u64 0, .int .i64 0, .int .i64 3, .int .i64 3, .int .i64 0, .int .i64 0, .int .u8 0, .int .i64 0] (0, 0) _ HG.out Try.underlying69 rfl (by kernel_rfl) ?_) | (refine wpList_store_new rfl rfl 69 _ _ rfl 69 #[.int .i64 0, .int .i64 0, .int .i64 0, .int .i64 0, .bool false, .int .u64 0, .int .u8 0, .int .u64 0, .int .i64 0, .bool false, .bool false, .bool false, .bool false, .bool false, .bool false, .int .i64 0, .int .u64 0, .int .i64 0, .int .i64 0, .int .i64 0, .int .i64 0, .int .i64 0, .int .u8 0, .int .i64 0] #[.int .i64 0, .int .i64 6, .int .i64 0, .int .i64 0, .bool false, .int .u64 0, .int .u8 0, .int .u64 0, .int .i64 0, .bool false, .bool false, .bool false, .bool false, .bool false, .bool false, .int .i64 0, .int .u64 0, .int .i64 0, .int .i64 3, .int .i64 3, .int .i64 0, .int .i64 0, .int .u8 0, .int .i64 0] rfl rfl (by kernel_rfl) rfl (by kernel_rfl) ?_))
  go_upto_region 6 with (refine wpList_load_row rfl 69 _ rfl _ rfl 69 #[.int .i64 0, .int .i64 6, .int .i64 0, .int .i64 0, .bool false, .int .u64 0, .int .u8 0, .int .u64 0, .int .i64 0, .bool false, .bool false, .bool false, .bool false, .bool false, .bool false, .int .i64 0, .int .u64 0, .int .i64 0, .int .i64 3, .int .i64 3, .int .i64 0, .int .i64 0, .int .u8 0, .int .i64 0] (0, 0) _ (heap_alloc_last w _) Try.underlying69 rfl (by kernel_rfl) ?_)
  refine (row1_calls _).mono ?_
  rintro e w1 ⟨rfl, hb⟩
  have hal := (Below.refl _ w).alloc (Nat.le_refl _) (.cells #[.int .i64 0, .int .i64 6, .int .i64 0, .int .i64 0, .bool false, .int .u64 0, .int .u8 0, .int .u64 0, .int .i64 0, .bool false, .bool false, .bool false, .bool false, .bool false, .bool false, .int .i64 0, .int .u64 0, .int .i64 0, .int .i64 3, .int .i64 3, .int .i64 0, .int .i64 0, .int .u8 0, .int .i64 0] 69)
  have HB := Aside0.mk (hal.trans (hb.mono hal.size))
  clear hb hal HG HEN
  go_wp2_with fail
  generalize hcc : (Question.appendCap 1 0 3).cut (w1.tape w1.drawn (Question.appendCap 1 0 3)) = cc
  have hbx : Below w.heap.size w (((w1.alloc (.cells #[.int .i64 0] 3)).alloc (.cells (#[.int .i64 0] ++ Builtin.zeroCells #[.int .i64 0] (cc - 1)) 3)).drew) := ((HB.out.alloc HB.out.size _).alloc (by have := HB.out.size; simp; omega) _).drew
  have hcell : (((w1.alloc (.cells #[.int .i64 0] 3)).alloc (.cells (#[.int .i64 0] ++ Builtin.zeroCells #[.int .i64 0] (cc - 1)) 3)).drew).cell? ⟨w1.heap.size + 1, 0, none⟩ = some (.int .i64 0) := by
    have h := blk_new (w1.alloc (.cells #[.int .i64 0] 3)) (.cells (#[.int .i64 0] ++ Builtin.zeroCells #[.int .i64 0] (cc - 1)) 3)
    rw [World.size_alloc] at h
    have h2 : (#[Value.int .i64 0] ++ Builtin.zeroCells #[.int .i64 0] (cc - 1))[0]? = some (.int .i64 0) := by rw [Array.getElem?_append_left (by simp)]; rfl
    exact (blk_cell h 0).trans h2
  generalize ((w1.alloc (.cells #[.int .i64 0] 3)).alloc (.cells (#[.int .i64 0] ++ Builtin.zeroCells #[.int .i64 0] (cc - 1)) 3)).drew = w2 at *
  generalize w1.heap.size + 1 = G at *
  clear hcc
  rw [rounds_succ]
  go_wp2_with fail
  go_ret
  exact ⟨_, _, rfl, hcell, hbx⟩
end
end Go.Proofs.Ytalmemcidbmdgaa.PM


/- A story (layer 21): the document's example: Row, tell, Story. -/
set_option linter.unusedVariables false
set_option linter.unusedSimpArgs false
namespace Go.Proofs.Ytalmemcidbmdgaa.PM
open Go.RowKit Go.Proofs.YtalmemcidbmdgaaW.PrintWords Go.Proofs.YtalmemcidbmdgaaW.PrintLast Go.Proofs.YtalmemcidbmdgaaW.PrintMore Go.Proofs.Ytalmemcidbmdgaa.PageG
attribute [local go_sem] max2_int min2_int max_two min_two max_three min_three max_four min_four   -- for this text's walks alone
def stO : OpS := ⟨6, 0, 0, false, 0, 0, 0, 0, ⟨false, false, false, false, false, false⟩, 0, 0⟩
theorem sto : OkO stO := ⟨⟨by decide, by decide⟩, ⟨by decide, by decide⟩, ⟨by decide, by decide⟩, ⟨by decide, by decide⟩, ⟨by decide, by decide⟩, ⟨by decide, by decide⟩, ⟨by decide, by decide⟩⟩
theorem st1 : doR lvS0 stO = ((0, 0, 0), lvS0) := by kernel_rfl
theorem mk_reply (w : World) : (Instr.makeSlice 126 (.int .i64 1) (.int .i64 1)).run Try.prog w = .ok (.slice (some ⟨w.heap.size, 0, none⟩) 1 1) (w.alloc (.cells #[.int .i64 0, .int .i64 0, .int .u8 0] 42)) := by
  have h : (Try.prog.info? 42).map (fun i => (i.zero, i.size, i.bytes)) = some (some (.agg #[.int .i64 0, .int .i64 0, .int .u8 0]), 3, 24) := by kernel_rfl
  cases hq : Try.prog.info? 42 with
  | none => rw [hq] at h; cases h
  | some i =>
    rw [hq] at h
    simp only [Option.map_some, Option.some.injEq, Prod.mk.injEq] at h
    obtain ⟨h1, h2, h3⟩ := h
    have hr := run_makeSlice (P := Try.prog) (w := w) 126 42 i (.agg #[.int .i64 0, .int .i64 0, .int .u8 0]) Try.underlying126 hq h1 .i64 .i64 1 1 (by omega) (by omega) (by rw [h2]; decide) (by rw [h3]; decide) (by decide)
    rw [h2] at hr
    have e : madeCells (Value.agg #[.int .i64 0, .int .i64 0, .int .u8 0]).cells 3 = #[.int .i64 0, .int .i64 0, .int .u8 0] := by kernel_rfl
    rw [show Int.toNat 1 = 1 from rfl, show 1 * 3 = 3 from rfl, e] at hr
    exact hr
section
variable {w w' : World}
set_option maxHeartbeats 4000000 in
set_option maxRecDepth 100000 in
theorem rowx_calls (w : World) (g : Nat) (hg : CallAt w g) : Calls Try.prog 118 #[.slice (some ⟨g, 0, none⟩) 1 1] w fun e w' => ∃ g' c, e = .returned (.slice (some ⟨g', 0, none⟩) 1 c) ∧ w'.cell? ⟨g', 0, none⟩ = some (.int .i64 0) ∧ Below w.heap.size w w' := by
  have HG := Aside0.mk hg
  clear hg
  go_enter Try.func118, Try.ntmps118
  go_wp2_with fail
  have hal := (Below.refl _ w).alloc (Nat.le_refl _) (.cells #[.slice (some ⟨g, 0, none⟩) 1 1] 95)
  refine (places1_calls _ g (HG.out.below hal)).mono ?_
  rintro e w1 ⟨g', c, rfl, hc, hb⟩
  have HB := Aside0.mk (hal.trans (hb.mono hal.size))
  have HC := Aside0.mk hc
  clear hal hb hc
  go_wp2_with fail
  refine (sort1_calls _ _ _ _).mono ?_
  rintro e w2 ⟨rfl, rfl⟩
  go_wp2_with fail
  go_ret
  exact ⟨_, _, rfl, HC.out, HB.out⟩
set_option maxHeartbeats 4000000 in
set_option maxRecDepth 100000 in
theorem tell1_calls (w : World) (g : Nat) (hg : CallAt w g) : Calls Try.prog 107 #[.slice (some ⟨g, 0, none⟩) 1 1, .int .i64 1] w fun e w' => ∃ g2 p, e = .returned (.tuple #[.slice (some ⟨g2, 0, none⟩) 1 1, .pointer p]) ∧ w'.heap[g2]? = some (.cells #[.int .i64 0, .int .i64 0, .int .u8 0] 42 (0, 0)) ∧ Below w.heap.size w w' := by
  have HG := Aside0.mk hg
  clear hg
  have hmk := mk_reply w
  go_enter Try.func107, Try.ntmps107
  go_wp2_with fail
  clear hmk
  have hal := (Below.refl _ w).alloc (Nat.le_refl _) (.cells #[.int .i64 0, .int .i64 0, .int .u8 0] 42)
  have hz := blk_new w (.cells #[.int .i64 0, .int .i64 0, .int .u8 0] 42)
  refine (new_calls _ 1 1 (by decide)).mono ?_
  rintro e w1 ⟨B, pm, bm, rfl, hm, hb, hge⟩
  have HM := Aside0.mk (show Mo w1 B pm bm lvS0 from hm)
  have HB := Aside0.mk (hal.trans (hb.mono hal.size))
  have HG1 := Aside0.mk ((HG.out.below hal).below hb)
  have HZ := Aside0.mk (blk_below hz hb)
  have HGE := Aside0.mk (show ∀ k ∈ [B, pm, bm], w.heap.size < k from fun k hk => by have := hge k hk; simp at this; omega)
  clear hal hz hm hb hge HG
  go_wp2_with fail
  refine (rowx_calls _ g HG1.out).mono ?_
  rintro e w2 ⟨g', c, rfl, hc, hb⟩
  have HM2 := Aside0.mk (HM.out.below hb)
  have HB2 := Aside0.mk (HB.out.trans (hb.mono HB.out.size))
  have HG2 := Aside0.mk (HG1.out.below hb)
  have HZ2 := Aside0.mk (blk_below HZ.out hb)
  clear hb HM HB HG1 HZ
  go_wp2_with fail
  refine wp_loop_rounds 2 ?_
  rw [rounds_succ]
  go_upto_region 8 with (first | (refine wpList_load_row rfl 69 _ rfl g rfl 69 #[.int .i64 0, .int .i64 6, .int .i64 0, .int .i64 0, .bool false, .int .u64 0, .int .u8 0, .int .u64 0, .int .i64 0, .bool false, .bool false, .bool false, .bool false, .bool false, .bool false, .int .i64 0, .int .u64 0, .int .i64 0, .int .i64 3, .int .i64 3, .int .i64 0, .int .i64 0, .int .u8 0, .int .i64 0] (0, 0) _ HG2.out Try.underlying69 rfl (by kernel_rfl) ?_) | (refine wpList_store_new rfl rfl 69 _ _ rfl 69 #[.int .i64 0, .int .i64 0, .int .i64 0, .int .i64 0, .bool false, .int .u64 0, .int .u8 0, .int .u64 0, .int .i64 0, .bool false, .bool false, .bool false, .bool false, .bool false, .bool false, .int .i64 0, .int .u64 0, .int .i64 0, .int .i64 0, .int .i64 0, .int .i64 0, .int .i64 0, .int .u8 0, .int .i64 0] #[.int .i64 0, .int .i64 6, .int .i64 0, .int .i64 0, .bool false, .int .u64 0, .int .u8 0, .int .u64 0, .int .i64 0, .bool false, .bool false, .bool false, .bool false, .bool false, .bool false, .int .i64 0, .int .u64 0, .int .i64 0, .int .i64 3, .int .i64 3, .int .i64 0, .int .i64 0, .int .u8 0, .int .i64 0] rfl rfl (by kernel_rfl) rfl (by kernel_rfl) ?_))
  have hal := (Below.refl _ w2).alloc (Nat.le_refl _) (.cells #[.int .i64 0, .int .i64 6, .int .i64 0, .int .i64 0, .bool false, .int .u64 0, .int .u8 0, .int .u64 0, .int .i64 0, .bool false, .bool false, .bool false, .bool false, .bool false, .bool false, .int .i64 0, .int .u64 0, .int .i64 0, .int .i64 3, .int .i64 3, .int .i64 0, .int .i64 0, .int .u8 0, .int .i64 0] 69)
  have hn := blk_new w2 (.cells #[.int .i64 0, .int .i64 6, .int .i64 0, .int .i64 0, .bool false, .int .u64 0, .int .u8 0, .int .u64 0, .int .i64 0, .bool false, .bool false, .bool false, .bool false, .bool false, .bool false, .int .i64 0, .int .u64 0, .int .i64 0, .int .i64 3, .int .i64 3, .int .i64 0, .int .i64 0, .int .u8 0, .int .i64 0] 69)
  have HM3 := Aside0.mk (HM2.out.below hal)
  have HB3 := Aside0.mk (HB2.out.alloc HB2.out.size (.cells #[.int .i64 0, .int .i64 6, .int .i64 0, .int .i64 0, .bool false, .int .u64 0, .int .u8 0, .int .u64 0, .int .i64 0, .bool false, .bool false, .bool false, .bool false, .bool false, .bool false, .int .i64 0, .int .u64 0, .int .i64 0, .int .i64 3, .int .i64 3, .int .i64 0, .int .i64 0, .int .u8 0, .int .i64 0] 69))
  have HZ3 := Aside0.mk (blk_below HZ2.out hal)
  generalize w2.alloc (.cells #[.int .i64 0, .int .i64 6, .int .i64 0, .int .i64 0, .bool false, .int .u64 0, .int .u8 0, .int .u64 0, .int .i64 0, .bool false, .bool false, .bool false, .bool false, .bool false, .bool false, .int .i64 0, .int .u64 0, .int .i64 0, .int .i64 3, .int .i64 3, .int .i64 0, .int .i64 0, .int .u8 0, .int .i64 0] 69) = w3 at *
  generalize w2.heap.size = D at *
  have c1 : w3.cell? ⟨D, 1, none⟩ = some (.int .i64 6) := (blk_cell hn 1).trans rfl
  have c2 : w3.cell? ⟨D, 2, none⟩ = some (.int .i64 0) := (blk_cell hn 2).trans rfl
  have c3 : w3.cell? ⟨D, 3, none⟩ = some (.int .i64 0) := (blk_cell hn 3).trans rfl
  have c4 : w3.cell? ⟨D, 4, none⟩ = some (.bool false) := (blk_cell hn 4).trans rfl
  have c5 : w3.cell? ⟨D, 5, none⟩ = some (.int .u64 0) := (blk_cell hn 5).trans rfl
  have c6 : w3.cell? ⟨D, 6, none⟩ = some (.int .u8 0) := (blk_cell hn 6).trans rfl
  have c7 : w3.cell? ⟨D, 7, none⟩ = some (.int .u64 0) := (blk_cell hn 7).trans rfl
  have c8 : w3.cell? ⟨D, 8, none⟩ = some (.int .i64 0) := (blk_cell hn 8).trans rfl
  have c9 : w3.cell? ⟨D, 9, none⟩ = some (.bool false) := (blk_cell hn 9).trans rfl
  have c10 : w3.cell? ⟨D, 10, none⟩ = some (.bool false) := (blk_cell hn 10).trans rfl
  have c11 : w3.cell? ⟨D, 11, none⟩ = some (.bool false) := (blk_cell hn 11).trans rfl
  have c12 : w3.cell? ⟨D, 12, none⟩ = some (.bool false) := (blk_cell hn 12).trans rfl
  have c13 : w3.cell? ⟨D, 13, none⟩ = some (.bool false) := (blk_cell hn 13).trans rfl
  have c14 : w3.cell? ⟨D, 14, none⟩ = some (.bool false) := (blk_cell hn 14).trans rfl
  have c15 : w3.cell? ⟨D, 15, none⟩ = some (.int .i64 0) := (blk_cell hn 15).trans rfl
  have c16 : w3.cell? ⟨D, 16, none⟩ = some (.int .u64 0) := (blk_cell hn 16).trans rfl
  have c20 : w3.cell? ⟨D, 20, none⟩ = some (.int .i64 0) := (blk_cell hn 20).trans rfl
  have c21 : w3.cell? ⟨D, 21, none⟩ = some (.int .i64 0) := (blk_cell hn 21).trans rfl
  have c22 : w3.cell? ⟨D, 22, none⟩ = some (.int .u8 0) := (blk_cell hn 22).trans rfl
  clear hn hal hc HM2 HB2 HG2 HZ2
  go_wp2_with fail
  refine (story_Room.calls 10 6 0 0 false 0 0 0 0 false false false false false false 0 0 0 0 0 false w3 rfl).mono ?_
  rintro e w4 ⟨rfl, hb⟩
  have HM4 := Aside0.mk (HM3.out.below hb)
  have HB4 := Aside0.mk (HB3.out.trans (hb.mono HB3.out.size))
  have HZ4 := Aside0.mk (blk_below HZ3.out hb)
  replace c1 := cell_up hb c1
  replace c2 := cell_up hb c2
  replace c3 := cell_up hb c3
  replace c4 := cell_up hb c4
  replace c5 := cell_up hb c5
  replace c6 := cell_up hb c6
  replace c7 := cell_up hb c7
  replace c8 := cell_up hb c8
  replace c9 := cell_up hb c9
  replace c10 := cell_up hb c10
  replace c11 := cell_up hb c11
  replace c12 := cell_up hb c12
  replace c13 := cell_up hb c13
  replace c14 := cell_up hb c14
  replace c15 := cell_up hb c15
  replace c16 := cell_up hb c16
  clear c20 c21 c22 hb HM3 HB3 HZ3
  go_upto_region 11 with fail
  generalize hcc : (Question.appendCap 1 0 36).cut (w4.tape w4.drawn (Question.appendCap 1 0 36)) = cc
  have hbx : Below w4.heap.size w4 (((w4.alloc (.cells #[.int .i64 6, .int .i64 0, .int .i64 0, .bool false, .int .u64 0, .int .u8 0, .int .u64 0, .int .i64 0, .bool false, .bool false, .bool false, .bool false, .bool false, .bool false, .int .i64 0, .int .u64 0] 36)).alloc (.cells (#[.int .i64 6, .int .i64 0, .int .i64 0, .bool false, .int .u64 0, .int .u8 0, .int .u64 0, .int .i64 0, .bool false, .bool false, .bool false, .bool false, .bool false, .bool false, .int .i64 0, .int .u64 0] ++ Builtin.zeroCells #[.int .i64 0, .int .i64 0, .int .i64 0, .bool false, .int .u64 0, .int .u8 0, .int .u64 0, .int .i64 0, .bool false, .bool false, .bool false, .bool false, .bool false, .bool false, .int .i64 0, .int .u64 0] (cc - 1)) 36)).drew) := (((Below.refl _ w4).alloc (Nat.le_refl _) _).alloc (by simp) _).drew
  generalize ((w4.alloc (.cells #[.int .i64 6, .int .i64 0, .int .i64 0, .bool false, .int .u64 0, .int .u8 0, .int .u64 0, .int .i64 0, .bool false, .bool false, .bool false, .bool false, .bool false, .bool false, .int .i64 0, .int .u64 0] 36)).alloc (.cells (#[.int .i64 6, .int .i64 0, .int .i64 0, .bool false, .int .u64 0, .int .u8 0, .int .u64 0, .int .i64 0, .bool false, .bool false, .bool false, .bool false, .bool false, .bool false, .int .i64 0, .int .u64 0] ++ Builtin.zeroCells #[.int .i64 0, .int .i64 0, .int .i64 0, .bool false, .int .u64 0, .int .u8 0, .int .u64 0, .int .i64 0, .bool false, .bool false, .bool false, .bool false, .bool false, .bool false, .int .i64 0, .int .u64 0] (cc - 1)) 36)).drew = w5 at *
  clear hcc
  have HM5 := Aside0.mk (HM4.out.below hbx)
  have HB5 := Aside0.mk (below_step HB4.out hbx)
  have HZ5 := Aside0.mk (blk_below HZ4.out hbx)
  replace c1 := cell_up hbx c1
  replace c2 := cell_up hbx c2
  replace c3 := cell_up hbx c3
  replace c4 := cell_up hbx c4
  replace c5 := cell_up hbx c5
  replace c6 := cell_up hbx c6
  replace c7 := cell_up hbx c7
  replace c8 := cell_up hbx c8
  replace c9 := cell_up hbx c9
  replace c10 := cell_up hbx c10
  replace c11 := cell_up hbx c11
  replace c12 := cell_up hbx c12
  replace c13 := cell_up hbx c13
  replace c14 := cell_up hbx c14
  replace c15 := cell_up hbx c15
  replace c16 := cell_up hbx c16
  clear hbx HM4 HB4 HZ4
  go_wp2_with fail
  refine (lv_do HM5.out lvw0 (by omega) stO sto st1).mono ?_
  rintro e w6 ⟨rfl, hm, hv⟩
  have hnz : w.heap.size ∉ [B, pm, bm] := fun h => Nat.lt_irrefl _ (HGE.out _ h)
  have hz6 : w6.heap[w.heap.size]? = some (.cells #[.int .i64 0, .int .i64 0, .int .u8 0] 42 (0, 0)) := (hv.block _ (blk_lt HZ5.out) hnz).trans HZ5.out
  have HB6 := Aside0.mk (HB5.out.trans (hv.below HB5.out.size (fun k hk => Nat.le_of_lt (HGE.out k hk))))
  obtain ⟨z0, z1, z2⟩ := cells3 hz6
  have y0 := blk_frozen hz6 0
  have y1 := blk_frozen hz6 1
  have y2 := blk_frozen hz6 2
  have HZ6 := Aside0.mk hz6
  clear hv hm hz6 hnz HZ5 HB5 HM5
  clear c1 c2 c3 c4 c5 c6 c7 c8 c9 c10 c11 c12 c13 c14 c15 c16
  go_wp2_with fail
  rw [set3 HZ6.out]
  have HB7 := Aside0.mk (below_sb HB6.out (Nat.le_refl _) (.cells #[.int .i64 0, .int .i64 0, .int .u8 0] 42 (0, 0)))
  have HZ7 := Aside0.mk (sb_same HZ6.out (.cells #[.int .i64 0, .int .i64 0, .int .u8 0] 42 (0, 0)))
  generalize ChangeMaps.setBlock w6 w.heap.size (.cells #[.int .i64 0, .int .i64 0, .int .u8 0] 42 (0, 0)) = w7 at *
  rw [rounds_succ]
  go_wp2_with fail
  go_ret2
  exact ⟨_, _, rfl, HZ7.out, HB7.out⟩
set_option maxHeartbeats 4000000 in
set_option maxRecDepth 100000 in
theorem story1_calls (w : World) (g : Nat) (hg : CallAt w g) : Calls Try.prog 81 #[.slice (some ⟨g, 0, none⟩) 1 1, .int .i64 1] w fun e w' => ∃ g2, e = .returned (.slice (some ⟨g2, 0, none⟩) 1 1) ∧ w'.heap[g2]? = some (.cells #[.int .i64 0, .int .i64 0, .int .u8 0] 42 (0, 0)) ∧ Below w.heap.size w w' := by
  have HG := Aside0.mk hg
  clear hg
  go_enter Try.func81, Try.ntmps81
  go_wp2_with fail
  refine (tell1_calls w g HG.out).mono ?_
  rintro e w1 ⟨g2, p, rfl, hz, hb⟩
  have HZ := Aside0.mk hz
  have HB := Aside0.mk hb
  clear hz hb
  go_wp2_with fail
  go_ret
  exact ⟨_, rfl, HZ.out, HB.out⟩
end
end Go.Proofs.Ytalmemcidbmdgaa.PM



/- A story (layer 21): the document's example: Check, lives. -/
set_option linter.unusedVariables false
set_option linter.unusedSimpArgs false
namespace Go.Proofs.Ytalmemcidbmdgaa.PM
open Go.RowKit Go.Proofs.YtalmemcidbmdgaaW.PrintWords Go.Proofs.YtalmemcidbmdgaaW.PrintLast Go.Proofs.YtalmemcidbmdgaaW.PrintMore Go.Proofs.Ytalmemcidbmdgaa.PageG
attribute [local go_sem] max2_int min2_int max_two min_two max_three min_three max_four min_four   -- for this text's walks alone
/-- What Check walks over. -/
structure Cx (w W : World) (g b b2 g2 C : Nat) : Prop where
  call : CallAt W g
  hbb : W.heap[b]? = some (.cells #[.slice (some ⟨g, 0, none⟩) 1 1] 95 (0, 0))
  hb2 : W.heap[b2]? = some (.cells #[.slice (some ⟨g2, 0, none⟩) 1 1] 126 (0, 0))
  z : W.heap[g2]? = some (.cells #[.int .i64 0, .int .i64 0, .int .u8 0] 42 (0, 0))
  c : W.heap[C]? = some (.cells #[.int .i64 10, .func (.func 82) #[] #[.pointer (some ⟨b, 0, none⟩)], .int .i64 9, .func (.func 83) #[] #[.pointer (some ⟨b, 0, none⟩)], .int .i64 11, .func (.func 86) #[] #[.pointer (some ⟨b, 0, none⟩)], .int .i64 2, .func (.func 87) #[] #[.pointer (some ⟨b, 0, none⟩), .pointer (some ⟨b2, 0, none⟩)]] 129 (0, 0))
  lo : Below w.heap.size w W
theorem Cx.below {w W W' : World} {g b b2 g2 C : Nat} (h : Cx w W g b b2 g2 C) (hb : Below W.heap.size W W') : Cx w W' g b b2 g2 C :=
  ⟨h.call.below hb, blk_below h.hbb hb, blk_below h.hb2 hb, blk_below h.z hb, blk_below h.c hb, h.lo.trans (hb.mono h.lo.size)⟩
section
variable {w w' : World}
set_option maxHeartbeats 4000000 in
set_option maxRecDepth 100000 in
theorem check1_calls (w : World) (g : Nat) (hg : CallAt w g) : Calls Try.prog 53 #[.slice (some ⟨g, 0, none⟩) 1 1, .int .i64 1] w fun e w' => e = .returned (.tuple #[.int .i64 (-1), .int .i64 0]) ∧ Below w.heap.size w w' := by
  have HG := Aside0.mk hg
  clear hg
  go_enter Try.func53, Try.ntmps53
  go_wp2_with fail
  have hal := (Below.refl _ w).alloc (Nat.le_refl _) (.cells #[.slice (some ⟨g, 0, none⟩) 1 1] 95)
  have hbx := blk_new w (.cells #[.slice (some ⟨g, 0, none⟩) 1 1] 95)
  refine (story1_calls _ g (HG.out.below hal)).mono ?_
  rintro e w1 ⟨g2, rfl, hz, hb⟩
  have HB1 := Aside0.mk (hal.trans (hb.mono hal.size))
  have HG1 := Aside0.mk ((HG.out.below hal).below hb)
  have HBX1 := Aside0.mk (blk_below hbx hb)
  have HZ1 := Aside0.mk hz
  clear hal hb hbx hz HG
  go_upto_region 3 with fail
  have hal := ((Below.refl _ w1).alloc (Nat.le_refl _) (.cells #[.slice (some ⟨g2, 0, none⟩) 1 1] 126)).alloc (by simp) (.cells #[.int .i64 10, .func (.func 82) #[] #[.pointer (some ⟨w.heap.size, 0, none⟩)], .int .i64 9, .func (.func 83) #[] #[.pointer (some ⟨w.heap.size, 0, none⟩)], .int .i64 11, .func (.func 86) #[] #[.pointer (some ⟨w.heap.size, 0, none⟩)], .int .i64 2, .func (.func 87) #[] #[.pointer (some ⟨w.heap.size, 0, none⟩), .pointer (some ⟨w1.heap.size, 0, none⟩)]] 129)
  have hn := blk_new (w1.alloc (.cells #[.slice (some ⟨g2, 0, none⟩) 1 1] 126)) (.cells #[.int .i64 10, .func (.func 82) #[] #[.pointer (some ⟨w.heap.size, 0, none⟩)], .int .i64 9, .func (.func 83) #[] #[.pointer (some ⟨w.heap.size, 0, none⟩)], .int .i64 11, .func (.func 86) #[] #[.pointer (some ⟨w.heap.size, 0, none⟩)], .int .i64 2, .func (.func 87) #[] #[.pointer (some ⟨w.heap.size, 0, none⟩), .pointer (some ⟨w1.heap.size, 0, none⟩)]] 129)
  have hn2 := blk_alloc (blk_new w1 (.cells #[.slice (some ⟨g2, 0, none⟩) 1 1] 126)) (.cells #[.int .i64 10, .func (.func 82) #[] #[.pointer (some ⟨w.heap.size, 0, none⟩)], .int .i64 9, .func (.func 83) #[] #[.pointer (some ⟨w.heap.size, 0, none⟩)], .int .i64 11, .func (.func 86) #[] #[.pointer (some ⟨w.heap.size, 0, none⟩)], .int .i64 2, .func (.func 87) #[] #[.pointer (some ⟨w.heap.size, 0, none⟩), .pointer (some ⟨w1.heap.size, 0, none⟩)]] 129)
  rw [World.size_alloc] at hn
  have HX0 := Aside0.mk (show Cx w _ g w.heap.size w1.heap.size g2 (w1.heap.size + 1) from ⟨HG1.out.below hal, blk_below HBX1.out hal, hn2, blk_below HZ1.out hal, hn, HB1.out.trans (hal.mono HB1.out.size)⟩)
  clear hal hn hn2 HG1 HBX1 HZ1 HB1
  generalize (w1.alloc (.cells #[.slice (some ⟨g2, 0, none⟩) 1 1] 126)).alloc (.cells #[.int .i64 10, .func (.func 82) #[] #[.pointer (some ⟨w.heap.size, 0, none⟩)], .int .i64 9, .func (.func 83) #[] #[.pointer (some ⟨w.heap.size, 0, none⟩)], .int .i64 11, .func (.func 86) #[] #[.pointer (some ⟨w.heap.size, 0, none⟩)], .int .i64 2, .func (.func 87) #[] #[.pointer (some ⟨w.heap.size, 0, none⟩), .pointer (some ⟨w1.heap.size, 0, none⟩)]] 129) = w10 at *
  generalize hbq : w.heap.size = b at *
  generalize w1.heap.size + 1 = C at *
  generalize w1.heap.size = b2 at *
  go_wp2_with fail
  refine wp_loop_rounds 5 ?_
  rw [rounds_succ]
  have e0 : w10.cell? ⟨C, 0, none⟩ = some (.int .i64 10) := (blk_cell HX0.out.c 0).trans rfl
  have e1 : w10.cell? ⟨C, 1, none⟩ = some (.func (.func 82) #[] #[.pointer (some ⟨b, 0, none⟩)]) := (blk_cell HX0.out.c 1).trans rfl
  have e2 : w10.cell? ⟨b, 0, none⟩ = some (.slice (some ⟨g, 0, none⟩) 1 1) := (blk_cell HX0.out.hbb 0).trans rfl
  have e3 : C < w10.heap.size := blk_lt HX0.out.c
  have e4 : b < w10.heap.size := blk_lt HX0.out.hbb
  have e5 : b ≠ w10.heap.size := Nat.ne_of_lt e4
  go_wp2_with fail
  refine wp_loop_rounds 2 ?_
  rw [rounds_succ]
  go_wp2_with fail
  have HX := HX0.out.below ((Below.refl _ w10).alloc (Nat.le_refl _) (.cells #[.int .i64 10, .func (.func 82) #[] #[.pointer (some ⟨b, 0, none⟩)]] 129))
  refine (chk1_calls _ g b HX.call ((blk_cell HX.hbb 0).trans rfl)).mono ?_
  rintro e w12 ⟨rfl, hb⟩
  have HX1 := Aside0.mk (HX.below hb)
  clear HX hb HX0 e0 e1 e2 e3 e4 e5
  go_wp2_with fail
  rw [rounds_succ]
  go_wp2_with fail
  rw [rounds_succ]
  have e0 : w12.cell? ⟨C, 2, none⟩ = some (.int .i64 9) := (blk_cell HX1.out.c 2).trans rfl
  have e1 : w12.cell? ⟨C, 3, none⟩ = some (.func (.func 83) #[] #[.pointer (some ⟨b, 0, none⟩)]) := (blk_cell HX1.out.c 3).trans rfl
  have e2 : w12.cell? ⟨b, 0, none⟩ = some (.slice (some ⟨g, 0, none⟩) 1 1) := (blk_cell HX1.out.hbb 0).trans rfl
  have e3 : C < w12.heap.size := blk_lt HX1.out.c
  have e4 : b < w12.heap.size := blk_lt HX1.out.hbb
  have e5 : b ≠ w12.heap.size := Nat.ne_of_lt e4
  go_wp2_with fail
  refine wp_loop_rounds 2 ?_
  rw [rounds_succ]
  go_wp2_with fail
  have HX := HX1.out.below ((Below.refl _ w12).alloc (Nat.le_refl _) (.cells #[.int .i64 9, .func (.func 83) #[] #[.pointer (some ⟨b, 0, none⟩)]] 129))
  refine (chk2_calls _ g b HX.call ((blk_cell HX.hbb 0).trans rfl)).mono ?_
  rintro e w14 ⟨rfl, hb⟩
  have HX2 := Aside0.mk (HX.below hb)
  clear HX hb HX1 e0 e1 e2 e3 e4 e5
  go_wp2_with fail
  rw [rounds_succ]
  go_wp2_with fail
  rw [rounds_succ]
  have e0 : w14.cell? ⟨C, 4, none⟩ = some (.int .i64 11) := (blk_cell HX2.out.c 4).trans rfl
  have e1 : w14.cell? ⟨C, 5, none⟩ = some (.func (.func 86) #[] #[.pointer (some ⟨b, 0, none⟩)]) := (blk_cell HX2.out.c 5).trans rfl
  have e2 : w14.cell? ⟨b, 0, none⟩ = some (.slice (some ⟨g, 0, none⟩) 1 1) := (blk_cell HX2.out.hbb 0).trans rfl
  have e3 : C < w14.heap.size := blk_lt HX2.out.c
  have e4 : b < w14.heap.size := blk_lt HX2.out.hbb
  have e5 : b ≠ w14.heap.size := Nat.ne_of_lt e4
  go_wp2_with fail
  refine wp_loop_rounds 2 ?_
  rw [rounds_succ]
  go_wp2_with fail
  have HX := HX2.out.below ((Below.refl _ w14).alloc (Nat.le_refl _) (.cells #[.int .i64 11, .func (.func 86) #[] #[.pointer (some ⟨b, 0, none⟩)]] 129))
  refine (chk3_calls _ g b HX.call ((blk_cell HX.hbb 0).trans rfl)).mono ?_
  rintro e w16 ⟨rfl, hb⟩
  have HX3 := Aside0.mk (HX.below hb)
  clear HX hb HX2 e0 e1 e2 e3 e4 e5
  go_wp2_with fail
  rw [rounds_succ]
  go_wp2_with fail
  rw [rounds_succ]
  have e0 : w16.cell? ⟨C, 6, none⟩ = some (.int .i64 2) := (blk_cell HX3.out.c 6).trans rfl
  have e1 : w16.cell? ⟨C, 7, none⟩ = some (.func (.func 87) #[] #[.pointer (some ⟨b, 0, none⟩), .pointer (some ⟨b2, 0, none⟩)]) := (blk_cell HX3.out.c 7).trans rfl
  have e2 : w16.cell? ⟨b, 0, none⟩ = some (.slice (some ⟨g, 0, none⟩) 1 1) := (blk_cell HX3.out.hbb 0).trans rfl
  have e3 : C < w16.heap.size := blk_lt HX3.out.c
  have e4 : b < w16.heap.size := blk_lt HX3.out.hbb
  have e5 : b ≠ w16.heap.size := Nat.ne_of_lt e4
  go_wp2_with fail
  refine wp_loop_rounds 2 ?_
  rw [rounds_succ]
  go_wp2_with fail
  have HX := HX3.out.below ((Below.refl _ w16).alloc (Nat.le_refl _) (.cells #[.int .i64 2, .func (.func 87) #[] #[.pointer (some ⟨b, 0, none⟩), .pointer (some ⟨b2, 0, none⟩)]] 129))
  refine (chk4_calls _ g b g2 b2 HX.call ((blk_cell HX.hbb 0).trans rfl) ((blk_cell HX.hb2 0).trans rfl) (cells3 HX.z)).mono ?_
  rintro e w18 ⟨rfl, hb⟩
  have HX4 := Aside0.mk (HX.below hb)
  clear HX hb HX3 e0 e1 e2 e3 e4 e5
  go_wp2_with fail
  rw [rounds_succ]
  go_wp2_with fail
  rw [rounds_succ]
  go_wp2_with fail
  go_ret2
  exact ⟨rfl, hbq ▸ HX4.out.lo⟩
end
end Go.Proofs.Ytalmemcidbmdgaa.PM



/- A story (layer 21): the document's example. -/
set_option linter.unusedVariables false
set_option linter.unusedSimpArgs false
namespace Go.Proofs.Ytalmemcidbmdgaa.PM
open Go.RowKit Go.Proofs.YtalmemcidbmdgaaW.PrintWords Go.Proofs.YtalmemcidbmdgaaW.PrintLast Go.Proofs.YtalmemcidbmdgaaW.PrintMore Go.Proofs.Ytalmemcidbmdgaa.PageG
attribute [local go_sem] max2_int min2_int max_two min_two max_three min_three max_four min_four   -- for this text's walks alone
set_option maxHeartbeats 4000000 in
set_option maxRecDepth 100000 in
theorem lives21_calls (w : World) : Calls Try.prog 27 #[] w fun e w' => e = .returned (.bool true) ∧ Below w.heap.size w w' := by
  go_enter Try.func27, Try.ntmps27
  go_wp2_with fail
  have hal := (Below.refl _ w).alloc (Nat.le_refl _) (.cells #[.int .i64 0, .int .i64 6, .int .i64 0, .int .i64 0, .bool false, .int .u64 0, .int .u8 0, .int .u64 0, .int .i64 0, .bool false, .bool false, .bool false, .bool false, .bool false, .bool false, .int .i64 0, .int .u64 0, .int .i64 0, .int .i64 3, .int .i64 3, .int .i64 0, .int .i64 0, .int .u8 0, .int .i64 0] 69)
  refine (check1_calls _ w.heap.size (blk_new w (.cells #[.int .i64 0, .int .i64 6, .int .i64 0, .int .i64 0, .bool false, .int .u64 0, .int .u8 0, .int .u64 0, .int .i64 0, .bool false, .bool false, .bool false, .bool false, .bool false, .bool false, .int .i64 0, .int .u64 0, .int .i64 0, .int .i64 3, .int .i64 3, .int .i64 0, .int .i64 0, .int .u8 0, .int .i64 0] 69))).mono ?_
  rintro e w1 ⟨rfl, hb⟩
  have HB := Aside0.mk (hal.trans (hb.mono hal.size))
  clear hal hb
  go_wp2_with fail
  go_ret
  exact ⟨rfl, HB.out⟩
end Go.Proofs.Ytalmemcidbmdgaa.PM



