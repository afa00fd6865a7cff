import Derived.Test.YtalmemcidbmdgaaZSb4
import Derived.OwnWalk
import Derived.Test.YtalmemcidbmdgaaZSb3
/- A model (layer 16): Pages: the walk. -/
set_option linter.unusedVariables false
set_option linter.unusedSimpArgs false
namespace Go.Proofs.Ytalmemcidbmdgaa.PM
open Go.RowKit Go.Proofs.YtalmemcidbmdgaaW.PrintWords Go.Proofs.YtalmemcidbmdgaaW.PrintLast Go.Proofs.YtalmemcidbmdgaaW.PrintMore Go.Proofs.Ytalmemcidbmdgaa.PageG
attribute [local go_sem] max2_int min2_int max_two min_two max_three min_three max_four min_four   -- for this text's walks alone
def sel (sp : Int) (L : List Ent) : List Pg := (L.filter (fun x => x.f0 == sp)).map (·.f1)
theorem sel_snoc (sp : Int) (l : List Ent) (x : Ent) : sel sp (l ++ [x]) = sel sp l ++ if x.f0 == sp then [x.f1] else [] := by
  unfold sel
  rw [List.filter_append]
  cases h : x.f0 == sp <;> simp [h]
theorem sel_len (sp : Int) (l : List Ent) : (sel sp l).length ≤ l.length := by
  unfold sel
  rw [List.length_map]
  exact List.length_filter_le _ _
theorem sel_perm {l m : List Ent} (h : l.Perm m) (sp : Int) : (sel sp l).Perm (sel sp m) := (h.filter _).map _
def PagesP (w : World) (s : MS) (sp : Int) (e : Ending) (w' : World) : Prop := ∃ A c l, e = .returned (.slice A l.length c) ∧ l.length ≤ c ∧ l.Perm (sel sp s.L) ∧ l.Pairwise (fun p q => p.f0 ≤ q.f0) ∧ Kd.C k50 w' A l.length l ∧ Below w.heap.size w w' ∧ (∀ ad, A = some ad → w.heap.size ≤ ad.block)
section
variable {w w' : World} {B pm bm : Nat} {s : MS}
theorem wns_grown {w W W' : World} {B pm bm r0 : Nat} {s : MS} {done : List Ent} {v : Value} {xs : List Pg} {ok : Nat → Prop} (h : WnS w W B pm bm s r0 done) (hlt : ∀ k ∈ [B, pm, bm], k < w.heap.size) (hR : Kd.R k50 50 W w.heap.size ok v xs) (hok : ∀ k, ok k → k ≠ r0)
    (hg : W.grownBy W' v.ownBlock) (hb : Below w.heap.size w W') : WnS w W' B pm bm s r0 done := by
  have hx := (Kd.R_bound hR).1
  have hB : ∀ k ∈ [B, pm, bm], W'.heap[k]? = W.heap[k]? := fun k hk => hg.block k (h.mo.lt k hk) (fun e => by
    have h1 := (hx k e.symm).2.1
    have h2 := hlt k hk
    omega)
  have hr : W'.heap[r0]? = W.heap[r0]? := hg.block r0 h.rg.lt (fun e => hok r0 (hx r0 e.symm).1 rfl)
  exact ⟨h.mo.move hB, h.rg.move (hB pm (by simp)) hr, hb, h.r0g⟩
set_option maxHeartbeats 8000000 in
set_option maxRecDepth 100000 in
theorem pages_calls (h : Mo w B pm bm s) (hf : s.L.length ≤ 100000) (sp : Int) :
    Calls Try.prog 15 #[.pointer (some ⟨B, 0, none⟩), .int .i64 sp] w (PagesP w s sp) := by
  obtain ⟨o, hrg, hs⟩ := WnS.start h
  have HLT := Aside0.mk h.lt
  have c1 := h.cells.2.1
  have HS := Aside0.mk hs
  clear hs h
  go_enter Try.func15, Try.ntmps15
  go_wp2_with fail
  clear hrg c1
  obtain ⟨r0, hr0⟩ : ∃ r0, w.heap.size = r0 := ⟨_, rfl⟩
  have HR0 := Aside0.mk hr0
  rw [hr0] at HS ⊢
  clear hr0
  generalize w.alloc o = w1 at *
  go_loopg [5] s.L.length (fun k nv wr => ∃ done : List Ent, done.length + k = s.L.length ∧ Aside0 (WnS w wr B pm bm s r0 done ∧ ∀ x ∈ done, x ∈ s.L) ∧ Aside0 (Kd.R k50 50 wr w.heap.size (fun k => k ≠ r0) nv (sel sp done)))
  case atStart => exact ⟨[], by simp, ⟨HS.out, by simp⟩, ⟨Kd.R_nil _ _ _ _ _⟩⟩
  case round =>
    clear HS
    obtain ⟨done, hdk, HS, HR⟩ := hrel
    have hsl := sel_len sp done
    obtain ⟨A5, c5, hv5⟩ := Kd.R_slice HR.out
    subst hv5
    rcases HS.out.1.next HS.out.2 with ⟨hp, hrun⟩ | ⟨x, W', hx, hrun, hn, hlt, hfr, hen⟩
    · have HP := Aside0.mk hp
      clear hp
      have hCC := Kd.R_reads' HR.out
      have HCC := Aside0.mk hCC
      have hbw := HS.out.1.bl
      have HBW := Aside0.mk hbw
      have hx := (Kd.R_bound HR.out).1
      have HX := Aside0.mk hx
      obtain ⟨inner, hown, -⟩ := HR.out.2
      rcases hown.2 with ⟨hv, h0⟩ | ⟨g, cap, cur, hv, hg, hcur, hnc, -⟩
      · injection hv with hA hn hc
        subst hA
        have HN0 := Aside0.mk hn
        have HC0 := Aside0.mk hc
        clear hx hbw hCC hn hc hown h0 HR
        rw [HN0.out, HC0.out]
        go_wp2_with fail
        refine (sort_nil _ wr).mono ?_
        rintro e w2 ⟨rfl, rfl⟩
        go_wp2_with fail
        go_ret
        have he : sel sp done = [] := List.eq_nil_of_length_eq_zero HN0.out
        refine ⟨none, 0, [], rfl, by simp, ?_, List.Pairwise.nil, ⟨rfl, by simp, fun h => by simp at h⟩, HBW.out, fun ad h => by cases h⟩
        have := sel_perm HP.out sp
        rw [he] at this
        exact this
      · injection hv with hA hn hc
        subst hA hc
        have HCUR := Aside0.mk hcur
        have HNC := Aside0.mk hnc
        have HG := Aside0.mk hg
        clear hx hbw hCC hn hown hcur hnc hg
        have hsl2 : (sel sp done).length ≤ 100000 := by omega
        go_wp2_with fail
        refine (sort_calls wr g c5 cur (sel sp done) HCUR.out HCC.out.2.2 hsl2).mono ?_
        rintro e w2 ⟨l', rfl, hp2, hs2, hc2, hg2⟩
        have hlen := hp2.length_eq
        have hperm := hp2.trans (sel_perm HP.out sp)
        have hfin : PagesP w s sp (.returned (.slice (some ⟨g, 0, none⟩) (sel sp done).length c5)) w2 := by
          rw [← hlen]
          exact ⟨_, c5, l', rfl, by rw [hlen]; exact HCC.out.2.1, hperm, hs2, hc2, HBW.out.grown hg2 HBW.out.size (fun j hj => by injection hj with hj; subst hj; exact HG.out), fun ad h => by injection h with h; subst h; exact HG.out⟩
        have HFIN := Aside0.mk hfin
        clear hfin hlen hperm hp2 hs2 hc2 hg2
        go_wp2_with fail
        go_ret
        exact HFIN.out
    · have hr0l : r0 < W'.heap.size := hn.rg.lt
      have HRW := Aside0.mk (Kd.R_move HR.out (fun k hk => hfr.1 k hk))
      have hwk : Below W'.heap.size W' ((W'.alloc (.cells #[.int .i64 x.f0, .int .u64 x.f1.f0, .int .i64 x.f1.f1] 84)).alloc (.cells #[.int .u64 x.f1.f0, .int .i64 x.f1.f1, .int .u64 x.f1.f2, .bool x.f1.f3.f0, .bool x.f1.f3.f1, .bool x.f1.f3.f2, .bool x.f1.f3.f3, .bool x.f1.f3.f4, .bool x.f1.f3.f5, .bool x.f1.f4, .bool x.f1.f5] 50)) := ((Below.refl _ _).alloc (Nat.le_refl _) _).alloc (by simp) _
      have hmem : ∀ y ∈ done ++ [x], y ∈ s.L := fun y hy => by
        rw [List.mem_append, List.mem_singleton] at hy
        exact hy.elim (HS.out.2 y) (fun e => e ▸ hx)
      have HN := Aside0.mk (And.intro (hn.below hwk) hmem)
      have HR2 := Aside0.mk (Kd.R_below HRW.out hwk)
      have hs2 : r0 < ((W'.alloc (.cells #[.int .i64 x.f0, .int .u64 x.f1.f0, .int .i64 x.f1.f1] 84)).alloc (.cells #[.int .u64 x.f1.f0, .int .i64 x.f1.f1, .int .u64 x.f1.f2, .bool x.f1.f3.f0, .bool x.f1.f3.f1, .bool x.f1.f3.f2, .bool x.f1.f3.f3, .bool x.f1.f3.f4, .bool x.f1.f3.f5, .bool x.f1.f4, .bool x.f1.f5] 50)).heap.size := by simp; omega
      have HS2 := Aside0.mk hs2
      have hsn := sel_snoc sp done x
      have HSN := Aside0.mk hsn
      clear hn hfr hwk hx hmem HRW hs2 hsn
      cases hb : (x.f0 == sp) with
      | false =>
        have HBB := Aside0.mk hb
        go_wp2_with fail
        go_roundg (gk - 1)
        case measure => omega
        case rel => exact ⟨done ++ [x], by simp; omega, HN, ⟨by rw [HSN.out, HBB.out]; simpa using HR2.out⟩⟩
      | true =>
        have HBB := Aside0.mk hb
        have hk7 := blk_new (W'.alloc (.cells #[.int .i64 x.f0, .int .u64 x.f1.f0, .int .i64 x.f1.f1] 84)) (.cells #[.int .u64 x.f1.f0, .int .i64 x.f1.f1, .int .u64 x.f1.f2, .bool x.f1.f3.f0, .bool x.f1.f3.f1, .bool x.f1.f3.f2, .bool x.f1.f3.f3, .bool x.f1.f3.f4, .bool x.f1.f3.f5, .bool x.f1.f4, .bool x.f1.f5] 50)
        rw [World.size_alloc] at hk7
        have HK7 := Aside0.mk hk7
        clear hk7
        go_upto_region 6 with fail
        generalize (W'.alloc (.cells #[.int .i64 x.f0, .int .u64 x.f1.f0, .int .i64 x.f1.f1] 84)).alloc (.cells #[.int .u64 x.f1.f0, .int .i64 x.f1.f1, .int .u64 x.f1.f2, .bool x.f1.f3.f0, .bool x.f1.f3.f1, .bool x.f1.f3.f2, .bool x.f1.f3.f3, .bool x.f1.f3.f4, .bool x.f1.f3.f5, .bool x.f1.f4, .bool x.f1.f5] 50) = W4 at *
        obtain ⟨q0, q1, q2, q3, q4, q5, q6, q7, q8, q9, q10⟩ := cells11 HK7.out
        go_wp2_with (first | ((with_reducible refine gate_builtin (b := .append) (xs := #[.tmp 22, .tmp 24]) rfl ?_); at_builtin; refine Kd.R_append k50 (w0 := w) w.heap.size rfl (.tmp 22) (.tmp 24) 46 50 (.agg #[.int .u64 0, .int .i64 0, .int .u64 0, .bool false, .bool false, .bool false, .bool false, .bool false, .bool false, .bool false, .bool false]) 32 rfl Try.underlying46 info50 rfl (by decide) (by omega) (.slice A5 (sel sp done).length c5) (sel sp done) x.f1 [.int .u64 x.f1.f0, .int .i64 x.f1.f1, .int .u64 x.f1.f2, .bool x.f1.f3.f0, .bool x.f1.f3.f1, .bool x.f1.f3.f2, .bool x.f1.f3.f3, .bool x.f1.f3.f4, .bool x.f1.f3.f5, .bool x.f1.f4, .bool x.f1.f5] (fun k => k ≠ r0) (fun _ => False) rfl rfl ?aP (fun _ hk => hk.elim) ?aF ?aO ?aB ?aS ?aL ?_; (case aP => exact k50_mkM _ _ _ x.f1); (case aB => exact HN.out.1.bl); (case aF => exact (fun k hk => Ne.symm (Nat.ne_of_lt (Nat.lt_of_lt_of_le HS2.out hk)))); (case aO => exact HR2.out); (case aS => exact HN.out.1.bl.size); (case aL => omega); intro v5 w5 ho5 hb5 hg5 hat5; have HO5 := Aside0.mk ho5; have HB5 := Aside0.mk hb5; have HG5 := Aside0.mk hg5; clear ho5 hb5 hg5 hat5))
        obtain ⟨A6, c6, hv6⟩ := Kd.R_slice HO5.out
        subst hv6
        have hst := wns_grown HN.out.1 HLT.out HR2.out (fun k hk => hk) HG5.out HB5.out
        have HN5 := Aside0.mk (And.intro hst HN.out.2)
        clear hst q0 q1 q2 q3 q4 q5 q6 q7 q8 q9 q10
        go_wp2_with fail
        go_roundg (gk - 1)
        case measure => omega
        case rel => exact ⟨done ++ [x], by simp; omega, HN5, ⟨by rw [HSN.out, HBB.out]; exact HO5.out⟩⟩
end
end Go.Proofs.Ytalmemcidbmdgaa.PM

/- A model (layer 16): maps.DeleteFunc over the bytes, and drop: the walks. -/
namespace Go.Proofs.Ytalmemcidbmdgaa.ML
open Go Go.Maps Go.ChangeMaps Go.MapKept
section
variable {P : Program} {T K E : TypeId} {w w' : World} {b r : Nat} {l d : En} {k v z : Value} {kl : Lit}
/-- delete(m, k) of the one that came last, while the range is under way. -/
theorem Rg.drop (h : Rg P K w b r l (d ++ [(k, v)])) (KK : Keyed P K) (ht : P.underlying T = some (.map K E)) (hkey : keyOf P K k = some kl) (ty : TypeId) :
    ∃ o l1 l2, l = l1 ++ (k, v) :: l2 ∧ (Builtin.delete_ #[T, K] ty #[.map (some b), k]).run P w = .ok (.tuple #[]) (setBlock w b o) ∧ Rg P K (setBlock w b o) b r (l1 ++ l2) d := by
  have hne := h.ne
  have hnl := h.at.nodup
  have hmem := h.le.2.2 (k, v) (by simp)
  obtain ⟨es, clock, since, seen, c0, hb, hs, hk, he, hr, hold, hsc, hsk, hd⟩ := h
  have hn : (es.toList.map fun e => e.key).Nodup := hs.2.2
  rcases KK.find w hkey es.toList hk with ⟨_, h2⟩ | ⟨j, e0, h1, h2, h3⟩
  · exfalso
    rw [← he] at hmem
    obtain ⟨x, hx, he⟩ := List.mem_map.1 hmem
    exact h2 x hx (congrArg Prod.fst he)
  · have hlt : j < es.toList.length := (List.getElem?_eq_some_iff.1 h2).1
    have hlt' : j < es.size := by simpa using hlt
    have hsub : (es.eraseIdxIfInBounds j).toList = es.toList.eraseIdx j := by
      unfold Array.eraseIdxIfInBounds
      rw [dif_pos hlt']
      simp
    have hspl := ens_split h2
    rw [h3] at hspl
    have hval : e0.val = v := by
      refine mem_one (l := l) hnl (k := k) ?_ hmem
      rw [← he, hspl]
      simp
    rw [hval] at hspl
    have hes : es.toList = es.toList.take j ++ e0 :: es.toList.drop (j + 1) := by
      have he2 := (List.getElem?_eq_some_iff.1 h2).2
      rw [← he2, ← List.drop_eq_getElem_cons hlt, List.take_append_drop]
    refine ⟨.map (es.eraseIdxIfInBounds j) clock, _, _, he.symm.trans hspl, ?_, ⟨es.eraseIdxIfInBounds j, clock, since, seen, c0, heap_setBlock_same hb _, stamped_erase hs j, fun x hx => ?_, ?_, ?_, fun x hx => ?_, hsc, hsk, ?_⟩⟩
    · simp [Builtin.delete_, run_underlying ht, Go.MapKept.run_getObj_map hb, KK.check w _ hkey, h1, Go.MapKept.run_setObj_map _ hb, Result.andThen, setBlock]
    · rw [hsub] at hx
      exact hk x ((List.eraseIdx_sublist _ _).subset hx)
    · unfold ens
      rw [hsub, List.eraseIdx_eq_take_drop_succ]
      simp
    · exact ((heap_set (o' := .map (es.eraseIdxIfInBounds j) clock) hb).2 r hne).trans hr
    · rw [hsub] at hx
      exact hold x ((List.eraseIdx_sublist _ _).subset hx)
    · rw [hsub, List.eraseIdx_eq_take_drop_succ]
      by_cases hse : seen.contains e0.born = true
      · rw [hes] at hd
        simp only [List.filter_append, List.filter_cons, hse, if_true, List.map_append, List.map_cons, h3, hval] at hd ⊢
        have h4 : (d ++ [(k, v)]).Perm ((((es.toList.take j).filter fun e => seen.contains e.born).map (fun e => (e.key, e.val)) ++ ((es.toList.drop (j + 1)).filter fun e => seen.contains e.born).map (fun e => (e.key, e.val))) ++ [(k, v)]) := by
          refine hd.trans ?_
          refine List.perm_middle.trans ?_
          exact (List.perm_append_comm (l₁ := [(k, v)]))
        exact (List.perm_append_right_iff _).1 h4
      · exfalso
        have hm : (k, v) ∈ ((es.toList.filter fun e => seen.contains e.born).map fun e => (e.key, e.val)) := hd.mem_iff.1 (by simp)
        obtain ⟨x, hx, hxe⟩ := List.mem_map.1 hm
        obtain ⟨hx1, hx2⟩ := List.mem_filter.1 hx
        have hxk : x.key = k := congrArg Prod.fst hxe
        have : x = e0 := by
          have hx1' := hx1
          rw [hes] at hx1 hn
          simp only [List.map_append, List.map_cons] at hn
          rw [List.nodup_append] at hn
          obtain ⟨_, n2, n3⟩ := hn
          rw [List.nodup_cons] at n2
          rw [List.mem_append, List.mem_cons] at hx1
          rcases hx1 with hx1 | rfl | hx1
          · exact absurd (hxk.trans h3.symm) (n3 _ (List.mem_map.2 ⟨x, hx1, rfl⟩) _ (by simp))
          · rfl
          · exact absurd (by rw [h3, ← hxk]; exact List.mem_map.2 ⟨x, hx1, rfl⟩) n2.1
        exact hse (this ▸ hx2)
end
end Go.Proofs.Ytalmemcidbmdgaa.ML
set_option linter.unusedVariables false
set_option linter.unusedSimpArgs false
namespace Go.Proofs.Ytalmemcidbmdgaa.PM
open Go.RowKit Go.Proofs.YtalmemcidbmdgaaW.PrintWords Go.Proofs.YtalmemcidbmdgaaW.PrintLast Go.Proofs.YtalmemcidbmdgaaW.PrintMore Go.Proofs.Ytalmemcidbmdgaa.PageG
attribute [local go_sem] max2_int min2_int max_two min_two max_three min_three max_four min_four   -- for this text's walks alone
/-- maps.DeleteFunc over the bytes under way: those of one region go. -/
structure DfS (w W : World) (bm : Nat) (l : ML.En) (R : Int) (r0 : Nat) (lc dl : ML.En) : Prop where
  rg : ML.Rg Try.prog 91 W bm r0 lc dl
  mv : Mv [bm] w W
  r0g : w.heap.size ≤ r0
  sub : ∀ p ∈ lc, p ∈ l
  all : ∀ p ∈ l, p ∈ lc ∨ ∃ o v, p = (spv R o, v)
section
variable {w w' W W' : World} {B pm bm r0 : Nat} {s : MS} {l lc dl : ML.En} {R : Int}
theorem DfS.below (h : DfS w W bm l R r0 lc dl) (hb : Below W.heap.size W W') : DfS w W' bm l R r0 lc dl :=
  ⟨h.rg.move (hb.block _ h.rg.at.lt) (hb.block _ h.rg.lt), h.mv.trans (S' := []) (Mv.of_below hb) (fun _ hk => by simp at hk), h.r0g, h.sub, h.all⟩
theorem DfS.start (hl : ML.At Try.prog 91 w bm l) (R : Int) : ∃ o, (Instr.range 73 (.map (some bm))).run Try.prog w = .ok (.pointer (some ⟨w.heap.size, 0, none⟩)) (w.alloc o) ∧ DfS w (w.alloc o) bm l R w.heap.size l [] := by
  obtain ⟨o, h1, h2⟩ := hl.ranges undB
  exact ⟨o, h1, h2, Mv.of_below ((Below.refl _ w).alloc (Nat.le_refl _) _), Nat.le_refl _, fun p hp => hp, fun p hp => .inl hp⟩
theorem DfS.next (h : DfS w W bm l R r0 lc dl) (hf : ∀ p ∈ l, ∃ r o v, p = (spv r o, .int .u8 v) ∧ W64 r ∧ U64 o ∧ 0 ≤ v ∧ v < 256) :
    (dl.Perm lc ∧ (Instr.next (.pointer (some ⟨r0, 0, none⟩)) false 0).run Try.prog W = .ok (.tuple #[.bool false]) W) ∨
    ∃ r o v W', W64 r ∧ U64 o ∧ (Instr.next (.pointer (some ⟨r0, 0, none⟩)) false 0).run Try.prog W = .ok (.tuple #[.bool true, .agg #[.int .i64 r, .int .u64 o], .int .u8 v]) W' ∧
      DfS w W' bm l R r0 lc (dl ++ [(spv r o, .int .u8 v)]) ∧ dl.length < lc.length ∧
      (Instr.entry (.pointer (some ⟨r0, 0, none⟩))).run Try.prog W' = .ok (.tuple #[.agg #[.int .i64 r, .int .u64 o], .int .u8 v]) W' := by
  rcases h.rg.next 0 with h1 | ⟨k, v, w1, o, hm, hnk, hw1, hrun, hrg, hlt, hen⟩
  · exact .inl h1
  · obtain ⟨r, of, u, e, h1, h2, _, _⟩ := hf _ (h.sub _ hm)
    obtain ⟨rfl, rfl⟩ := Prod.mk.inj e
    refine .inr ⟨r, of, u, _, h1, h2, hrun, ⟨hrg, ?_, h.r0g, h.sub, h.all⟩, hlt, hen⟩
    refine Mv.setBlock ?_ (.inr h.r0g) o
    rcases hw1 with rfl | rfl
    · exact h.mv
    · exact h.mv.trans (S' := []) (Mv.of_below (Below.refl _ _).drew) (fun _ hk => by simp at hk)
theorem DfS.drop {o v : Int} (h : DfS w W bm l R r0 lc (dl ++ [(spv R o, .int .u8 v)])) (h1 : W64 R) (h2 : U64 o) (ty : TypeId) :
    ∃ ob lc', (Builtin.delete_ #[73, 91] ty #[.map (some bm), .agg #[.int .i64 R, .int .u64 o]]).run Try.prog W = .ok (.tuple #[]) (ChangeMaps.setBlock W bm ob) ∧
      DfS w (ChangeMaps.setBlock W bm ob) bm l R r0 lc' dl ∧ lc'.length + 1 = lc.length := by
  obtain ⟨kl, hkl⟩ := key_s h1 h2
  obtain ⟨ob, l1, l2, e, hrun, hrg⟩ := h.rg.drop keyedS undB hkl ty
  refine ⟨ob, l1 ++ l2, hrun, ⟨hrg, h.mv.setBlock (.inl (by simp)) ob, h.r0g, fun p hp => h.sub p (by rw [e]; simp at hp ⊢; rcases hp with hp | hp <;> simp [hp]), fun p hp => ?_⟩, by rw [e]; simp; omega⟩
  rcases h.all p hp with hp | hp
  · rw [e, List.mem_append, List.mem_cons] at hp
    rcases hp with hp | rfl | hp
    · exact .inl (by simp [hp])
    · exact .inr ⟨o, _, rfl⟩
    · exact .inl (by simp [hp])
  · exact .inr hp
theorem DfS.end {by_ : List Bt} (h : DfS w W bm l R r0 lc dl) (hp : dl.Perm lc) (hn : ∀ p ∈ dl, ∀ o v, p ≠ (spv R o, v)) (hr : BRel l by_) : BM W bm (cutB by_ R) := by
  refine ⟨lc, h.rg.at, fun p hq => hr.form p (h.sub p hq), fun r o v hq => ?_, fun r o hq => ?_⟩
  · have hne : r ≠ R := fun e => hn _ (hp.mem_iff.2 hq) o (.int .u8 v) (by rw [e])
    rw [getB_cut, if_neg hne]
    exact hr.has _ _ _ (h.sub _ hq)
  · rw [getB_cut]
    split
    · rfl
    · rename_i hne
      refine hr.hasnt _ _ (fun p hpl => ?_)
      rcases h.all p hpl with h1 | ⟨o', v, rfl⟩
      · exact hq p h1
      · exact fun e => hne (spv_inj e).1.symm
theorem Mo.cut (h : Mo w B pm bm s) (hm : Mv [bm] w W) {by2 : List Bt} (hb : BM W bm by2) : Mo W B pm bm { s with by_ := by2 } :=
  ⟨(hm.block B (h.lt B (by simp)) (by simpa using h.neB.2)).trans h.hb, h.hp.move (hm.block pm (h.lt pm (by simp)) (by simpa using h.ne)), hb, h.ne⟩
set_option maxHeartbeats 4000000 in
set_option maxRecDepth 100000 in
theorem drop1_calls (w : World) (r o v R : Int) (g : Nat) (hg : w.cell? ⟨g, 0, none⟩ = some (.int .i64 R)) :
    Calls Try.prog 95 #[.agg #[.int .i64 r, .int .u64 o], .int .u8 v, .pointer (some ⟨g, 0, none⟩)] w fun e w' => e = .returned (.bool (r == R)) ∧ Below w.heap.size w w' := by
  have hgl : g < w.heap.size := World.block_lt_of_cell? _ _ hg
  have hgn := Nat.ne_of_lt hgl
  go_enter Try.func95, Try.ntmps95
  go_wp2_with fail
  go_ret
  exact ⟨by first | rfl | (congr 2; exact Int.decEq_eq_beq _ _), by first | exact (Below.refl _ w).alloc (Nat.le_refl _) _ | exact ((Below.refl _ w).alloc (Nat.le_refl _) _).drew⟩
set_option maxHeartbeats 8000000 in
set_option maxRecDepth 100000 in
theorem delf_calls (h : Mo w B pm bm s) (R : Int) (g : Nat) (hg : w.cell? ⟨g, 0, none⟩ = some (.int .i64 R)) (hgb : g ≠ bm) :
    Calls Try.prog 94 #[.map (some bm), .func (.func 95) #[] #[.pointer (some ⟨g, 0, none⟩)]] w
      (fun e w' => e = .returned (.tuple #[]) ∧ Mo w' B pm bm { s with by_ := cutB s.by_ R } ∧ Mv [bm] w w') := by
  obtain ⟨l, hl, hrel0⟩ := h.hm
  obtain ⟨o, hrg, hs⟩ := DfS.start hl R
  have HS := Aside0.mk hs
  have HM := Aside0.mk h
  have HL := Aside0.mk hrel0
  have HG := Aside0.mk hg
  clear hs h hl hrel0 hg
  go_enter Try.func94, Try.ntmps94
  go_wp2_with fail
  clear hrg
  obtain ⟨r0, hr0⟩ : ∃ r0, w.heap.size = r0 := ⟨_, rfl⟩
  rw [hr0] at HS ⊢
  generalize w.alloc o = w1 at *
  go_loopg [] l.length (fun k wr => ∃ lc dl, dl.length + k = lc.length ∧ Aside0 (DfS w wr bm l R r0 lc dl ∧ ∀ p ∈ dl, ∀ o v, p ≠ (spv R o, v)))
  case atStart => exact ⟨l, [], by simp, ⟨HS.out, by simp⟩⟩
  case round =>
    clear HS
    obtain ⟨lc, dl, hdk, HS⟩ := hrel
    rcases HS.out.1.next HL.out.form with ⟨hp, hrun⟩ | ⟨r, of, v, W', h1, h2, hrun, hn, hlt, hen⟩
    · have HP := Aside0.mk hp
      clear hp
      go_wp2_with fail
      go_end0
      exact ⟨rfl, HM.out.cut HS.out.1.mv (HS.out.1.end HP.out HS.out.2 HL.out), HS.out.1.mv⟩
    · have HN := Aside0.mk (hn.below ((Below.refl _ W').alloc (Nat.le_refl _) (.cells #[.int .i64 r, .int .u64 of] 91)))
      have HW := Aside0.mk (And.intro h1 h2)
      clear hn h1 h2
      have hgc := HN.out.mv.cell HG.out (by simpa using hgb)
      have HGC := Aside0.mk hgc
      clear hgc
      go_wp2_with fail
      refine (drop1_calls _ r of v R g HGC.out).mono ?_
      rintro e w2 ⟨rfl, hb2⟩
      have HN2 := Aside0.mk (HN.out.below hb2)
      have hsp : (W'.alloc (.cells #[.int .i64 r, .int .u64 of] 91)).heap.size = W'.heap.size + 1 := by simp
      have h40 : w2.cell? ⟨W'.heap.size, 0, none⟩ = some (.int .i64 r) := (hb2.cell (p := ⟨W'.heap.size, 0, none⟩) (by rw [hsp]; exact Nat.lt_succ_self _)).trans ((blk_cell (blk_new W' (.cells #[.int .i64 r, .int .u64 of] 91)) 0).trans rfl)
      have h41 : w2.cell? ⟨W'.heap.size, 1, none⟩ = some (.int .u64 of) := (hb2.cell (p := ⟨W'.heap.size, 1, none⟩) (by rw [hsp]; exact Nat.lt_succ_self _)).trans ((blk_cell (blk_new W' (.cells #[.int .i64 r, .int .u64 of] 91)) 1).trans rfl)
      clear hb2 hsp HGC
      cases hrR : (r == R) with
      | true =>
        obtain rfl : r = R := beq_iff_eq.1 hrR
        obtain ⟨ob, lc', hdel, hd', hlc⟩ := HN2.out.drop HW.out.1 HW.out.2 0
        have HD := Aside0.mk hd'
        clear hd'
        go_wp2_with fail
        go_roundg (gk - 1)
        case measure => omega
        case rel => exact ⟨lc', dl, by omega, HD.out, HS.out.2⟩
      | false =>
        have hne : r ≠ R := beq_eq_false_iff_ne.1 hrR
        have HNE := Aside0.mk hne
        clear hne
        go_wp2_with fail
        go_roundg (gk - 1)
        case measure => omega
        case rel => exact ⟨lc, _, by simp; omega, HN2.out, fun p hp o v => by
          rw [List.mem_append, List.mem_singleton] at hp
          rcases hp with hp | rfl
          · exact HS.out.2 p hp o v
          · exact fun e => HNE.out (spv_inj (congrArg Prod.fst e)).1⟩
end
end Go.Proofs.Ytalmemcidbmdgaa.PM

/- A model (layer 16): drop: the walk. -/
set_option linter.unusedVariables false
set_option linter.unusedSimpArgs false
namespace Go.Proofs.Ytalmemcidbmdgaa.PM
open Go.RowKit Go.Proofs.YtalmemcidbmdgaaW.PrintWords Go.Proofs.YtalmemcidbmdgaaW.PrintLast Go.Proofs.YtalmemcidbmdgaaW.PrintMore Go.Proofs.Ytalmemcidbmdgaa.PageG
attribute [local go_sem] max2_int min2_int max_two min_two max_three min_three max_four min_four   -- for this text's walks alone
theorem del_ {P : Program} {ops : Array Oper} {Q : Exit → Act → World → Prop} {oi : Oper} {a : Act} {w w1 : World} {K : Act → World → Prop} {m k : Operand} {T KT : TypeId} {vm vk : Value} (hw : Region.wanted oi (yielded ops a.tmps) = true) (hN : oi.dst = none)
    (hop : oi.op = Op.call { callee := Callee.builtin Builtin.delete, args := #[m, k], argTypes := #[T, KT] }) (hm : a.eval m = vm) (hk : a.eval k = vk)
    (hrun : (Builtin.delete_ #[T, KT] oi.type #[vm, vk]).run P w = .ok (.tuple #[]) w1)
    (h : K a w1) : if Region.wanted oi (yielded ops a.tmps) = true then Oper.wp P oi a w K Q else K (a.put none undef) w := by
  rw [if_pos hw]
  unfold Oper.wp
  simp [execOp, hop, resolve, invoke, builtin, hm, hk, hrun, Result.andThen]
  show K (a.put oi.dst _) w1
  rw [hN]
  exact h
theorem WfL.sub {L M : List Ent} (h : WfL L) (hs : M.Sublist L) : WfL M := ⟨fun x hx => h.ok x (hs.subset hx), h.apart.sublist hs⟩
theorem WfL.erase {L : List Ent} (h : WfL L) (i : Nat) : WfL (L.eraseIdx i) := h.sub (List.eraseIdx_sublist _ _)
/-- A page goes; with the last page on a region its bytes. -/
def dropS (s : MS) (i : Nat) (x : Ent) : MS := { s with L := s.L.eraseIdx i, by_ := if winN (s.L.eraseIdx i) x.f1.f2 = 0 then cutB s.by_ x.f1.f2 else s.by_ }
section
variable {w w' W W' : World} {B pm bm : Nat} {s : MS}
def DropP (w : World) (B pm bm : Nat) (s : MS) (e : Ending) (w' : World) : Prop := e = .returned (.tuple #[]) ∧ Mo w' B pm bm s ∧ Mv [B, pm, bm] w w'
set_option maxHeartbeats 8000000 in
set_option maxRecDepth 100000 in
theorem drop_calls (h : Mo w B pm bm s) (hw : WfL s.L) (hf : s.L.length ≤ 100000) {i : Nat} {x : Ent} (hi : s.L[i]? = some x) :
    Calls Try.prog 73 #[.pointer (some ⟨B, 0, none⟩), .agg #[.int .i64 x.f0, .int .u64 x.f1.f0, .int .i64 x.f1.f1]] w (DropP w B pm bm (dropS s i x)) := by
  have hok := hw.ok x (List.mem_of_getElem? hi)
  have hpa0 := hok.pa0
  have hpa1 := hok.pa1
  have HM := Aside0.mk h
  have HW := Aside0.mk hw
  have HI := Aside0.mk hi
  have HLT := Aside0.mk h.lt
  clear h hw hi hok
  obtain ⟨D, hD⟩ : ∃ D, w.heap.size = D := ⟨_, rfl⟩
  go_enter Try.func73, Try.ntmps73
  go_upto_region 1 with fail
  have hk := blk_new w (.cells #[.int .i64 x.f0, .int .u64 x.f1.f0, .int .i64 x.f1.f1] 84)
  rw [hD] at hk
  have hb : Below w.heap.size w (w.alloc (.cells #[.int .i64 x.f0, .int .u64 x.f1.f0, .int .i64 x.f1.f1] 84)) := (Below.refl _ w).alloc (Nat.le_refl _) _
  have hsz : (w.alloc (.cells #[.int .i64 x.f0, .int .u64 x.f1.f0, .int .i64 x.f1.f1] 84)).heap.size = D + 1 := by simp [hD]
  generalize w.alloc (.cells #[.int .i64 x.f0, .int .u64 x.f1.f0, .int .i64 x.f1.f1] 84) = w1 at *
  have HH := Aside0.mk (show ∀ W, Below w1.heap.size w1 W → (W.cell? ⟨B, 1, none⟩ = some (.map (some pm)) ∧ W.cell? ⟨D, 0, none⟩ = some (.int .i64 x.f0) ∧ W.cell? ⟨D, 1, none⟩ = some (.int .u64 x.f1.f0) ∧ W.cell? ⟨D, 2, none⟩ = some (.int .i64 x.f1.f1) ∧ (Instr.lookup 72 (.map (some pm)) (kyv x.f0 x.f1.f0 x.f1.f1) false).run Try.prog W = .ok (pgv x.f1) W ∧ Aside0 (Below w1.heap.size w1 W)) from fun W hbW => by
    have hm := (HM.out.below hb).below hbW
    obtain ⟨k0, k1, k2⟩ := cells3 (blk_below hk hbW)
    exact ⟨hm.cells.2.1, k0, k1, k2, (hm.look_yes HW.out (List.mem_of_getElem? HI.out)).2, ⟨hbW⟩⟩)
  have hS0 := HH.out w1 (Below.refl _ _)
  unfold kyv pgv at HH hS0
  have hfd : ∀ W : World, (Instr.field 50 (.agg #[.int .u64 x.f1.f0, .int .i64 x.f1.f1, .int .u64 x.f1.f2, .bool x.f1.f3.f0, .bool x.f1.f3.f1, .bool x.f1.f3.f2, .bool x.f1.f3.f3, .bool x.f1.f3.f4, .bool x.f1.f3.f5, .bool x.f1.f4, .bool x.f1.f5]) 2).run Try.prog W = .ok (.int .u64 x.f1.f2) W := fun W => by kernel_rfl
  go_region_held3 (fun W => W.cell? ⟨B, 1, none⟩ = some (.map (some pm)) ∧ W.cell? ⟨D, 0, none⟩ = some (.int .i64 x.f0) ∧ W.cell? ⟨D, 1, none⟩ = some (.int .u64 x.f1.f0) ∧ W.cell? ⟨D, 2, none⟩ = some (.int .i64 x.f1.f1) ∧ (Instr.lookup 72 (.map (some pm)) (.agg #[.int .i64 x.f0, .int .u64 x.f1.f0, .int .i64 x.f1.f1]) false).run Try.prog W = .ok (.agg #[.int .u64 x.f1.f0, .int .i64 x.f1.f1, .int .u64 x.f1.f2, .bool x.f1.f3.f0, .bool x.f1.f3.f1, .bool x.f1.f3.f2, .bool x.f1.f3.f3, .bool x.f1.f3.f4, .bool x.f1.f3.f5, .bool x.f1.f4, .bool x.f1.f5]) W ∧ Aside0 (Below w1.heap.size w1 W))
    ((refine HH.out _ ?_; first | exact (Below.refl _ _).drew | exact (Below.refl _ _).drew.alloc (Nat.le_refl _) _ | trace_state)) (go_at_call 1)
  all_goals
    rename_i hS
    clear hS hS0 hfd HH
    have hwr : IntKind.i64.wrap x.f1.f2 = x.f1.f2 := by unfold IntKind.wrap; simp [IntKind.bits]; omega
    rw [hwr]
    clear hwr
    have hk2 := blk_alloc hk (.cells #[.int .i64 x.f1.f2] 3)
    have hb2 : Below w.heap.size w (w1.alloc (.cells #[.int .i64 x.f1.f2] 3)).drew := (hb.alloc hb.size _).drew
    have hg := blk_new w1 (.cells #[.int .i64 x.f1.f2] 3)
    rw [hsz] at hg
    have hk3 : (w1.alloc (.cells #[.int .i64 x.f1.f2] 3)).drew.heap[D]? = some (.cells #[.int .i64 x.f0, .int .u64 x.f1.f0, .int .i64 x.f1.f1] 84 (0, 0)) := hk2
    have hg3 : (w1.alloc (.cells #[.int .i64 x.f1.f2] 3)).drew.heap[D + 1]? = some (.cells #[.int .i64 x.f1.f2] 3 (0, 0)) := hg
    clear hk hb hg hk2 hsz
    generalize (w1.alloc (.cells #[.int .i64 x.f1.f2] 3)).drew = w2 at *
    clear w1
    (try simp only [Exit.inBlock, Exit.then])
    go_upto_region 2 with fail
    have hm2 := HM.out.below hb2
    obtain ⟨k0, k1, k2⟩ := cells3 hk3
    have m1 := hm2.cells.2.1
    obtain ⟨o, hrun, hmo⟩ := (hm2.below (Below.refl _ w2).drew).del_page HW.out HI.out 0
    have HMO := Aside0.mk hmo
    have HB := Aside0.mk hb2
    have HG3 := Aside0.mk hg3
    unfold kyv at hrun
    clear hm2 hmo hb2 hk3 hg3
    refine start_ (n := 6) (S := fun w' => w'.cell? ⟨B, 1, none⟩ = some (.map (some pm)) ∧ w'.cell? ⟨D, 0, none⟩ = some (.int .i64 x.f0) ∧ w'.cell? ⟨D, 1, none⟩ = some (.int .u64 x.f1.f0) ∧ w'.cell? ⟨D, 2, none⟩ = some (.int .i64 x.f1.f1)) (ds := [5]) #[false, false, false, false, false, false] (by kernel_rfl) rfl rfl ⟨m1, k0, k1, k2⟩ (fun hHeld => ?_)
    refine pure_ (i := 0) (N := some 13) (v := ?_) (a' := ?_) #[true, false, false, false, false, false] rfl rfl (by kernel_rfl) (fun _ _ _ h => h) (Or.inl ⟨by rfl, ?_⟩) ?_ ?_
    rotate_left
    · intro w'
      go_simp
      with_reducible rfl
    rotate_left
    · simp only [Act.put, List.setIfInBounds_toArray, List.set_cons_zero, List.set_cons_succ, i64_w, i32_w]
      rfl
    refine pure_ (i := 1) (N := some 14) (v := ?_) (a' := ?_) #[true, true, false, false, false, false] rfl rfl (by kernel_rfl) (fun _ _ _ h => h) (Or.inl ⟨by rfl, ?_⟩) ?_ ?_
    rotate_left
    · intro w'
      go_simp
      with_reducible rfl
    rotate_left
    · simp only [Act.put, List.setIfInBounds_toArray, List.set_cons_zero, List.set_cons_succ, i64_w, i32_w]
      rfl
    refine pure_ (i := 2) (N := some 15) (v := ?_) (a' := ?_) #[true, true, true, false, false, false] rfl rfl (by kernel_rfl) (fun _ _ _ h => h) (Or.inl ⟨by rfl, ?_⟩) ?_ ?_
    rotate_left
    · intro w'
      go_simp
      with_reducible rfl
    rotate_left
    · simp only [Act.put, List.setIfInBounds_toArray, List.set_cons_zero, List.set_cons_succ, i64_w, i32_w]
      rfl
    refine take_ (i := 3) (N := some 16) (v := ?_) (a' := ?_) #[true, true, true, true, false, false] rfl rfl (by kernel_rfl) (fun _ _ _ h => h) (Or.inl ⟨by rfl, ?_⟩) hHeld ?_ ?_
    rotate_left
    · rintro w' ⟨s0, s1, s2, s3⟩
      go_simp
      with_reducible rfl
    rotate_left
    · simp only [Act.put, List.setIfInBounds_toArray, List.set_cons_zero, List.set_cons_succ, i64_w, i32_w]
      rfl
    refine take_ (i := 4) (N := some 17) (v := ?_) (a' := ?_) #[true, true, true, true, true, false] rfl rfl (by kernel_rfl) (fun _ _ _ h => h) (Or.inl ⟨by rfl, ?_⟩) hHeld ?_ ?_
    rotate_left
    · rintro w' ⟨s0, s1, s2, s3⟩
      go_simp
      with_reducible rfl
    rotate_left
    · simp only [Act.put, List.setIfInBounds_toArray, List.set_cons_zero, List.set_cons_succ, i64_w, i32_w]
      rfl
    refine last_ (i := 5) (N := none) #[true, true, true, true, true, true] rfl rfl (by kernel_rfl) (by decide) (fun K hK => ?_)
    refine del_ (by rfl) rfl rfl rfl rfl hrun ?_
    refine hK.out _ _ ?_
    clear hK K
    refine done_ (by kernel_rfl) ?_
    (try simp only [Exit.inBlock, Exit.then])
    have hlt := (HLT.out pm (by simp))
    have hgl : D + 1 < w2.heap.size := blk_lt HG3.out
    have hne : D + 1 ≠ pm := by omega
    have hnb : D + 1 ≠ bm := by have := HLT.out bm (by simp); omega
    have hg4 : (ChangeMaps.setBlock w2.drew pm o).heap[D + 1]? = some (.cells #[.int .i64 x.f1.f2] 3 (0, 0)) := (sb_other o hne).trans HG3.out
    have hMv : Mv [B, pm, bm] w (ChangeMaps.setBlock w2.drew pm o) := (Mv.of_below HB.out.drew).setBlock (.inl (by simp)) o
    have hl2 : (s.L.eraseIdx i).length ≤ 100000 := Nat.le_trans (List.length_eraseIdx_le ..) hf
    have hwn := windows_calls HMO.out (HW.out.erase i) hl2 x.f1.f2
    have HWN := Aside0.mk hwn
    have HV := Aside0.mk hMv
    have HG4 := Aside0.mk hg4
    have hg5 : (ChangeMaps.setBlock w2.drew pm o).cell? ⟨D + 1, 0, none⟩ = some (.int .i64 x.f1.f2) := (blk_cell hg4 0).trans rfl
    clear k0 k1 k2 m1 hrun hlt hgl hne hwn hMv hg4 HB HG3 hl2
    generalize ChangeMaps.setBlock w2.drew pm o = w3 at *
    go_wp2_with fail
    clear hg5 hHeld
    refine HWN.out.mono ?_
    rintro e w4 ⟨rfl, hb4⟩
    clear HWN
    have HM4 := Aside0.mk (HMO.out.below hb4)
    have HV4 := Aside0.mk (HV.out.trans (S' := []) (Mv.of_below hb4) (fun _ hk => by simp at hk))
    have hg6 := blk_below HG4.out hb4
    have hg7 : w4.cell? ⟨D + 1, 0, none⟩ = some (.int .i64 x.f1.f2) := (blk_cell hg6 0).trans rfl
    clear hb4 hg6 HG4 HMO HV
    have hds : dropS s i x = { s with L := s.L.eraseIdx i, by_ := if winN (s.L.eraseIdx i) x.f1.f2 = 0 then cutB s.by_ x.f1.f2 else s.by_ } := rfl
    have HDS := Aside0.mk hds
    clear hds
    generalize dropS s i x = sd at *
    generalize winN (s.L.eraseIdx i) x.f1.f2 = nw at *
    by_cases hz : nw = 0
    · subst hz
      rw [if_pos rfl] at HDS
      have m2 := HM4.out.cells.2.2.1
      have hde := delf_calls HM4.out x.f1.f2 (D + 1) hg7 hnb
      have HDE := Aside0.mk hde
      clear hde hg7
      go_wp2_with fail
      refine HDE.out.mono ?_
      rintro e w5 ⟨rfl, hm5, hv5⟩
      have HM5 := Aside0.mk hm5
      have HV5 := Aside0.mk (HV4.out.trans hv5 (fun k hk => .inl (by simp at hk; simp [hk])))
      clear hm5 hv5 m2
      go_wp2_with fail
      go_end0
      exact ⟨rfl, HDS.out ▸ HM5.out, HV5.out⟩
    · rw [if_neg hz] at HDS
      have hz2 : ((nw : Int) == 0) = false := beq_eq_false_iff_ne.2 (by omega)
      have HZ := Aside0.mk hz
      clear hz hg7
      go_wp2_with fail
      go_end0
      exact ⟨rfl, HDS.out ▸ HM4.out, HV4.out⟩
end
end Go.Proofs.Ytalmemcidbmdgaa.PM


/- A model (layer 16): grow: the walk. -/
set_option linter.unusedVariables false
set_option linter.unusedSimpArgs false
namespace Go.Proofs.Ytalmemcidbmdgaa.PM
open Go.RowKit Go.Proofs.YtalmemcidbmdgaaW.PrintWords Go.Proofs.YtalmemcidbmdgaaW.PrintLast Go.Proofs.YtalmemcidbmdgaaW.PrintMore Go.Proofs.Ytalmemcidbmdgaa.PageG
attribute [local go_sem] max2_int min2_int max_two min_two max_three min_three max_four min_four   -- for this text's walks alone
structure OpS where
  kind : Int
  sp : Int
  ak : Int
  ap : Bool
  av : Int
  byte : Int
  va : Int
  size : Int
  at_ : Atr
  other : Int
  too : Int
theorem c_lit {W : World} {g : Nat} {t : TypeId} {xs : List Int} (h : W.heap[g]? = some (.cells (xs.map (Value.int .i64)).toArray t (0, 0))) (hl : xs.length ≤ 1000) : Kd.C (Kd.int .i64) W (some ⟨g, 0, none⟩) xs.length xs := by
  refine ⟨rfl, by omega, fun _ => ⟨_, rfl, fun j p hj => ⟨[.int .i64 p], rfl, rfl, fun i u hu => ?_⟩⟩⟩
  have hi : i = 0 := by
    have := (List.getElem?_eq_some_iff.1 hu).1
    simpa using this
  subst hi
  simp at hu
  subst hu
  have e : (Addr.add ⟨g, 0, none⟩ (j * (Kd.int .i64).sz + 0) : Addr) = ⟨g, j, none⟩ := by
    have hz : (Kd.int .i64).sz = 1 := rfl
    by_cases hj0 : j = 0
    · subst hj0; simp [Addr.add, hz]
    · simp [Addr.add, hz, hj0]
  rw [e]
  exact (blk_cell h j).trans (by simp [hj])
def growE (s : MS) (o : OpS) : Int := if isAll s.n [o.sp] = true ∧ 0 ≤ o.size ∧ o.size < 4 then 0 else 1
section
variable {w w' : World} {B pm bm : Nat} {s : MS}
set_option maxHeartbeats 8000000 in
set_option maxRecDepth 100000 in
theorem grow_calls (h : Mo w B pm bm s) (o : OpS) :
    Calls Try.prog 44 #[.pointer (some ⟨B, 0, none⟩), Value.agg #[.int .i64 o.kind, .int .i64 o.sp, .int .i64 o.ak, .bool o.ap, .int .u64 o.av, .int .u8 o.byte, .int .u64 o.va, .int .i64 o.size, .bool o.at_.f0, .bool o.at_.f1, .bool o.at_.f2, .bool o.at_.f3, .bool o.at_.f4, .bool o.at_.f5, .int .i64 o.other, .int .u64 o.too]] w fun e w' => e = .returned (.agg #[.int .i64 (growE s o), .int .i64 0, .int .u8 0]) ∧ Below w.heap.size w w' := by
  have HM := Aside0.mk h
  clear h
  obtain ⟨D, hD⟩ : ∃ D, w.heap.size = D := ⟨_, rfl⟩
  go_enter Try.func44, Try.ntmps44
  go_wp2_with fail
  have hk := blk_alloc (blk_alloc (blk_new w (.cells #[.int .i64 o.kind, .int .i64 o.sp, .int .i64 o.ak, .bool o.ap, .int .u64 o.av, .int .u8 o.byte, .int .u64 o.va, .int .i64 o.size, .bool o.at_.f0, .bool o.at_.f1, .bool o.at_.f2, .bool o.at_.f3, .bool o.at_.f4, .bool o.at_.f5, .int .i64 o.other, .int .u64 o.too] 36)) (.cells #[.int .i64 0, .int .i64 0, .int .u8 0] 42)) (.cells #[.int .i64 o.sp] 3)
  have hz := blk_alloc (blk_new (w.alloc (.cells #[.int .i64 o.kind, .int .i64 o.sp, .int .i64 o.ak, .bool o.ap, .int .u64 o.av, .int .u8 o.byte, .int .u64 o.va, .int .i64 o.size, .bool o.at_.f0, .bool o.at_.f1, .bool o.at_.f2, .bool o.at_.f3, .bool o.at_.f4, .bool o.at_.f5, .int .i64 o.other, .int .u64 o.too] 36)) (.cells #[.int .i64 0, .int .i64 0, .int .u8 0] 42)) (.cells #[.int .i64 o.sp] 3)
  have hl := blk_new ((w.alloc (.cells #[.int .i64 o.kind, .int .i64 o.sp, .int .i64 o.ak, .bool o.ap, .int .u64 o.av, .int .u8 o.byte, .int .u64 o.va, .int .i64 o.size, .bool o.at_.f0, .bool o.at_.f1, .bool o.at_.f2, .bool o.at_.f3, .bool o.at_.f4, .bool o.at_.f5, .int .i64 o.other, .int .u64 o.too] 36)).alloc (.cells #[.int .i64 0, .int .i64 0, .int .u8 0] 42)) (.cells #[.int .i64 o.sp] 3)
  have hb : Below w.heap.size w (((w.alloc (.cells #[.int .i64 o.kind, .int .i64 o.sp, .int .i64 o.ak, .bool o.ap, .int .u64 o.av, .int .u8 o.byte, .int .u64 o.va, .int .i64 o.size, .bool o.at_.f0, .bool o.at_.f1, .bool o.at_.f2, .bool o.at_.f3, .bool o.at_.f4, .bool o.at_.f5, .int .i64 o.other, .int .u64 o.too] 36)).alloc (.cells #[.int .i64 0, .int .i64 0, .int .u8 0] 42)).alloc (.cells #[.int .i64 o.sp] 3)) := (((Below.refl _ w).alloc (Nat.le_refl _) _).alloc (by simp) _).alloc (by simp; omega) _
  have hs1 : (w.alloc (.cells #[.int .i64 o.kind, .int .i64 o.sp, .int .i64 o.ak, .bool o.ap, .int .u64 o.av, .int .u8 o.byte, .int .u64 o.va, .int .i64 o.size, .bool o.at_.f0, .bool o.at_.f1, .bool o.at_.f2, .bool o.at_.f3, .bool o.at_.f4, .bool o.at_.f5, .int .i64 o.other, .int .u64 o.too] 36)).heap.size = D + 1 := by simp [hD]
  have hs2 : ((w.alloc (.cells #[.int .i64 o.kind, .int .i64 o.sp, .int .i64 o.ak, .bool o.ap, .int .u64 o.av, .int .u8 o.byte, .int .u64 o.va, .int .i64 o.size, .bool o.at_.f0, .bool o.at_.f1, .bool o.at_.f2, .bool o.at_.f3, .bool o.at_.f4, .bool o.at_.f5, .int .i64 o.other, .int .u64 o.too] 36)).alloc (.cells #[.int .i64 0, .int .i64 0, .int .u8 0] 42)).heap.size = D + 1 + 1 := by simp [hD]
  rw [hD] at hk
  rw [hs1] at hz
  rw [hs2] at hl
  generalize ((w.alloc (.cells #[.int .i64 o.kind, .int .i64 o.sp, .int .i64 o.ak, .bool o.ap, .int .u64 o.av, .int .u8 o.byte, .int .u64 o.va, .int .i64 o.size, .bool o.at_.f0, .bool o.at_.f1, .bool o.at_.f2, .bool o.at_.f3, .bool o.at_.f4, .bool o.at_.f5, .int .i64 o.other, .int .u64 o.too] 36)).alloc (.cells #[.int .i64 0, .int .i64 0, .int .u8 0] 42)).alloc (.cells #[.int .i64 o.sp] 3) = w1 at *
  clear hs1 hs2
  refine (is_calls (HM.out.below hb) [o.sp] (some ⟨D + 1 + 1, 0, none⟩) 1 (c_lit (xs := [o.sp]) hl (by simp)) (by simp)).mono ?_
  rintro e w2 ⟨rfl, rfl⟩
  have HE : Aside0 (growE s o = if isAll s.n [o.sp] = true ∧ 0 ≤ o.size ∧ o.size < 4 then 0 else 1) := ⟨rfl⟩
  have h7 := (blk_cell hk 7).trans rfl
  have HZ := Aside0.mk hz
  have HB := Aside0.mk hb
  clear hk hz hl hb
  cases hi : isAll s.n [o.sp] with
  | false =>
    rw [hi] at HE
    go_wp2_with fail
    refine (model_told.calls 1 _ _ _ w1 rfl).mono ?_
    rintro e w2 ⟨rfl, hb2⟩
    have hz2 := blk_below HZ.out hb2
    have HB2 := Aside0.mk (below_step HB.out hb2)
    obtain ⟨z0, z1, z2⟩ := cells3 hz2
    have y0 := blk_frozen hz2 0
    have y1 := blk_frozen hz2 1
    have y2 := blk_frozen hz2 2
    clear hb2
    go_wp2_with fail
    try rw [set3 hz2]
    refine bodyPost_ret (results_cell_row rfl _ _ (D + 1) 42 _ (0, 0) _ rfl (sb_same hz2 _) Try.underlying42 rfl (by kernel_rfl)) rfl ?_
    exact ⟨by rw [HE.out]; rfl, below_sb HB2.out (by omega) _⟩
  | true =>
    rw [hi] at HE
    by_cases h0 : o.size < 0
    · have hd0 : decide (o.size < 0) = true := decide_eq_true h0
      go_wp2_with fail
      refine (model_told.calls 1 _ _ _ w1 rfl).mono ?_
      rintro e w2 ⟨rfl, hb2⟩
      have hz2 := blk_below HZ.out hb2
      have HB2 := Aside0.mk (below_step HB.out hb2)
      obtain ⟨z0, z1, z2⟩ := cells3 hz2
      have y0 := blk_frozen hz2 0
      have y1 := blk_frozen hz2 1
      have y2 := blk_frozen hz2 2
      clear hb2
      go_wp2_with fail
      try rw [set3 hz2]
      refine bodyPost_ret (results_cell_row rfl _ _ (D + 1) 42 _ (0, 0) _ rfl (sb_same hz2 _) Try.underlying42 rfl (by kernel_rfl)) rfl ?_
      exact ⟨by rw [HE.out]; rw [if_neg (by omega)], below_sb HB2.out (by omega) _⟩
    · by_cases h4 : 4 ≤ o.size
      · have hd0 : decide (o.size < 0) = false := decide_eq_false h0
        have hd4 : decide (4 ≤ o.size) = true := decide_eq_true h4
        go_wp2_with fail
        refine (model_told.calls 1 _ _ _ w1 rfl).mono ?_
        rintro e w2 ⟨rfl, hb2⟩
        have hz2 := blk_below HZ.out hb2
        have HB2 := Aside0.mk (below_step HB.out hb2)
        obtain ⟨z0, z1, z2⟩ := cells3 hz2
        have y0 := blk_frozen hz2 0
        have y1 := blk_frozen hz2 1
        have y2 := blk_frozen hz2 2
        clear hb2
        go_wp2_with fail
        try rw [set3 hz2]
        refine bodyPost_ret (results_cell_row rfl _ _ (D + 1) 42 _ (0, 0) _ rfl (sb_same hz2 _) Try.underlying42 rfl (by kernel_rfl)) rfl ?_
        exact ⟨by rw [HE.out]; rw [if_neg (by omega)], below_sb HB2.out (by omega) _⟩
      · have hd0 : decide (o.size < 0) = false := decide_eq_false h0
        have hd4 : decide (4 ≤ o.size) = false := decide_eq_false h4
        obtain ⟨z0, z1, z2⟩ := cells3 HZ.out
        have y0 := blk_frozen HZ.out 0
        have y1 := blk_frozen HZ.out 1
        have y2 := blk_frozen HZ.out 2
        go_wp2_with fail
        try rw [set3 HZ.out]
        refine bodyPost_ret (results_cell_row rfl _ _ (D + 1) 42 _ (0, 0) _ rfl (sb_same HZ.out _) Try.underlying42 rfl (by kernel_rfl)) rfl ?_
        exact ⟨by rw [HE.out, if_pos ⟨by trivial, by omega, by omega⟩], below_sb HB.out (by omega) _⟩
end
end Go.Proofs.Ytalmemcidbmdgaa.PM


/- A model (layer 16): change, unmap, protect, clear: the walks. -/
set_option linter.unusedVariables false
set_option linter.unusedSimpArgs false
namespace Go.Proofs.Ytalmemcidbmdgaa.PM
open Go.RowKit Go.Proofs.YtalmemcidbmdgaaW.PrintWords Go.Proofs.YtalmemcidbmdgaaW.PrintLast Go.Proofs.YtalmemcidbmdgaaW.PrintMore Go.Proofs.Ytalmemcidbmdgaa.PageG
attribute [local go_sem] max2_int min2_int max_two min_two max_three min_three max_four min_four   -- for this text's walks alone
section
variable {w w' : World} {B pm bm : Nat} {s : MS}
/-- The closures of change: what they do with a page that is there. -/
def Does (w : World) (B pm bm : Nat) (s s2 : MS) (fv : FuncId) (caps : Array Value) (x : Ent) : Prop :=
  ∀ W, Below w.heap.size w W → Mo W B pm bm s → Calls Try.prog fv (#[.agg #[.int .i64 x.f0, .int .u64 x.f1.f0, .int .i64 x.f1.f1], .agg #[.int .u64 x.f1.f0, .int .i64 x.f1.f1, .int .u64 x.f1.f2, .bool x.f1.f3.f0, .bool x.f1.f3.f1, .bool x.f1.f3.f2, .bool x.f1.f3.f3, .bool x.f1.f3.f4, .bool x.f1.f3.f5, .bool x.f1.f4, .bool x.f1.f5]] ++ caps) W (fun e W' => e = .returned (.tuple #[]) ∧ Mo W' B pm bm s2 ∧ Mv [B, pm, bm] W W')
set_option maxHeartbeats 8000000 in
set_option maxRecDepth 100000 in
theorem change_no (h : Mo w B pm bm s) (o : OpS) (fv : FuncId) (caps : Array Value) (hi : isAll s.n [o.sp] = false) :
    Calls Try.prog 71 #[.pointer (some ⟨B, 0, none⟩), Value.agg #[.int .i64 o.kind, .int .i64 o.sp, .int .i64 o.ak, .bool o.ap, .int .u64 o.av, .int .u8 o.byte, .int .u64 o.va, .int .i64 o.size, .bool o.at_.f0, .bool o.at_.f1, .bool o.at_.f2, .bool o.at_.f3, .bool o.at_.f4, .bool o.at_.f5, .int .i64 o.other, .int .u64 o.too], .func (.func fv) #[] caps] w fun e w' => e = .returned (.agg #[.int .i64 1, .int .i64 0, .int .u8 0]) ∧ Below w.heap.size w w' := by
  have HM := Aside0.mk h
  clear h
  obtain ⟨D, hD⟩ : ∃ D, w.heap.size = D := ⟨_, rfl⟩
  go_enter Try.func71, Try.ntmps71
  go_wp2_with fail
  have hk := blk_alloc (blk_alloc (blk_new w (.cells #[.int .i64 o.kind, .int .i64 o.sp, .int .i64 o.ak, .bool o.ap, .int .u64 o.av, .int .u8 o.byte, .int .u64 o.va, .int .i64 o.size, .bool o.at_.f0, .bool o.at_.f1, .bool o.at_.f2, .bool o.at_.f3, .bool o.at_.f4, .bool o.at_.f5, .int .i64 o.other, .int .u64 o.too] 36)) (.cells #[.int .i64 0, .int .i64 0, .int .u8 0] 42)) (.cells #[.int .i64 o.sp] 3)
  have hz := blk_alloc (blk_new (w.alloc (.cells #[.int .i64 o.kind, .int .i64 o.sp, .int .i64 o.ak, .bool o.ap, .int .u64 o.av, .int .u8 o.byte, .int .u64 o.va, .int .i64 o.size, .bool o.at_.f0, .bool o.at_.f1, .bool o.at_.f2, .bool o.at_.f3, .bool o.at_.f4, .bool o.at_.f5, .int .i64 o.other, .int .u64 o.too] 36)) (.cells #[.int .i64 0, .int .i64 0, .int .u8 0] 42)) (.cells #[.int .i64 o.sp] 3)
  have hl := blk_new ((w.alloc (.cells #[.int .i64 o.kind, .int .i64 o.sp, .int .i64 o.ak, .bool o.ap, .int .u64 o.av, .int .u8 o.byte, .int .u64 o.va, .int .i64 o.size, .bool o.at_.f0, .bool o.at_.f1, .bool o.at_.f2, .bool o.at_.f3, .bool o.at_.f4, .bool o.at_.f5, .int .i64 o.other, .int .u64 o.too] 36)).alloc (.cells #[.int .i64 0, .int .i64 0, .int .u8 0] 42)) (.cells #[.int .i64 o.sp] 3)
  have hb : Below w.heap.size w (((w.alloc (.cells #[.int .i64 o.kind, .int .i64 o.sp, .int .i64 o.ak, .bool o.ap, .int .u64 o.av, .int .u8 o.byte, .int .u64 o.va, .int .i64 o.size, .bool o.at_.f0, .bool o.at_.f1, .bool o.at_.f2, .bool o.at_.f3, .bool o.at_.f4, .bool o.at_.f5, .int .i64 o.other, .int .u64 o.too] 36)).alloc (.cells #[.int .i64 0, .int .i64 0, .int .u8 0] 42)).alloc (.cells #[.int .i64 o.sp] 3)) := (((Below.refl _ w).alloc (Nat.le_refl _) _).alloc (by simp) _).alloc (by simp; omega) _
  have hs1 : (w.alloc (.cells #[.int .i64 o.kind, .int .i64 o.sp, .int .i64 o.ak, .bool o.ap, .int .u64 o.av, .int .u8 o.byte, .int .u64 o.va, .int .i64 o.size, .bool o.at_.f0, .bool o.at_.f1, .bool o.at_.f2, .bool o.at_.f3, .bool o.at_.f4, .bool o.at_.f5, .int .i64 o.other, .int .u64 o.too] 36)).heap.size = D + 1 := by simp [hD]
  have hs2 : ((w.alloc (.cells #[.int .i64 o.kind, .int .i64 o.sp, .int .i64 o.ak, .bool o.ap, .int .u64 o.av, .int .u8 o.byte, .int .u64 o.va, .int .i64 o.size, .bool o.at_.f0, .bool o.at_.f1, .bool o.at_.f2, .bool o.at_.f3, .bool o.at_.f4, .bool o.at_.f5, .int .i64 o.other, .int .u64 o.too] 36)).alloc (.cells #[.int .i64 0, .int .i64 0, .int .u8 0] 42)).heap.size = D + 1 + 1 := by simp [hD]
  rw [hD] at hk
  rw [hs1] at hz
  rw [hs2] at hl
  generalize ((w.alloc (.cells #[.int .i64 o.kind, .int .i64 o.sp, .int .i64 o.ak, .bool o.ap, .int .u64 o.av, .int .u8 o.byte, .int .u64 o.va, .int .i64 o.size, .bool o.at_.f0, .bool o.at_.f1, .bool o.at_.f2, .bool o.at_.f3, .bool o.at_.f4, .bool o.at_.f5, .int .i64 o.other, .int .u64 o.too] 36)).alloc (.cells #[.int .i64 0, .int .i64 0, .int .u8 0] 42)).alloc (.cells #[.int .i64 o.sp] 3) = w1 at *
  clear hs1 hs2
  refine (is_calls (HM.out.below hb) [o.sp] (some ⟨D + 1 + 1, 0, none⟩) 1 (c_lit (xs := [o.sp]) hl (by simp)) (by simp)).mono ?_
  rintro e w2 ⟨rfl, rfl⟩
  rw [hi]
  have HZ := Aside0.mk hz
  have HB := Aside0.mk hb
  clear hk hz hl hb
  go_wp2_with fail
  refine (model_told.calls 1 _ _ _ w1 rfl).mono ?_
  rintro e w2 ⟨rfl, hb2⟩
  have hz2 := blk_below HZ.out hb2
  have HB2 := Aside0.mk (below_step HB.out hb2)
  obtain ⟨z0, z1, z2⟩ := cells3 hz2
  have y0 := blk_frozen hz2 0
  have y1 := blk_frozen hz2 1
  have y2 := blk_frozen hz2 2
  clear hb2
  go_wp2_with fail
  rw [set3 hz2]
  refine bodyPost_ret (results_cell_row rfl _ _ (D + 1) 42 _ (0, 0) _ rfl (sb_same hz2 _) Try.underlying42 rfl (by kernel_rfl)) rfl ?_
  exact ⟨rfl, below_sb HB2.out (by omega) _⟩
set_option maxHeartbeats 8000000 in
set_option maxRecDepth 100000 in
theorem change_none (h : Mo w B pm bm s) (o : OpS) (fv : FuncId) (caps : Array Value) (hi : isAll s.n [o.sp] = true) (hsp : W64 o.sp) (va : Nat) (hva : va < 2 ^ 64) (hov : o.va = (va : Int)) (hn : ∀ i, i < 4 → NoAt s o.sp va i) :
    Calls Try.prog 71 #[.pointer (some ⟨B, 0, none⟩), Value.agg #[.int .i64 o.kind, .int .i64 o.sp, .int .i64 o.ak, .bool o.ap, .int .u64 o.av, .int .u8 o.byte, .int .u64 o.va, .int .i64 o.size, .bool o.at_.f0, .bool o.at_.f1, .bool o.at_.f2, .bool o.at_.f3, .bool o.at_.f4, .bool o.at_.f5, .int .i64 o.other, .int .u64 o.too], .func (.func fv) #[] caps] w fun e w' => e = .returned (.agg #[.int .i64 10, .int .i64 0, .int .u8 0]) ∧ Below w.heap.size w w' := by
  have HM := Aside0.mk h
  have HN := Aside0.mk hn
  have HOV := Aside0.mk hov
  clear h hn hov
  obtain ⟨D, hD⟩ : ∃ D, w.heap.size = D := ⟨_, rfl⟩
  go_enter Try.func71, Try.ntmps71
  go_wp2_with fail
  have hk := blk_alloc (blk_alloc (blk_new w (.cells #[.int .i64 o.kind, .int .i64 o.sp, .int .i64 o.ak, .bool o.ap, .int .u64 o.av, .int .u8 o.byte, .int .u64 o.va, .int .i64 o.size, .bool o.at_.f0, .bool o.at_.f1, .bool o.at_.f2, .bool o.at_.f3, .bool o.at_.f4, .bool o.at_.f5, .int .i64 o.other, .int .u64 o.too] 36)) (.cells #[.int .i64 0, .int .i64 0, .int .u8 0] 42)) (.cells #[.int .i64 o.sp] 3)
  have hz := blk_alloc (blk_new (w.alloc (.cells #[.int .i64 o.kind, .int .i64 o.sp, .int .i64 o.ak, .bool o.ap, .int .u64 o.av, .int .u8 o.byte, .int .u64 o.va, .int .i64 o.size, .bool o.at_.f0, .bool o.at_.f1, .bool o.at_.f2, .bool o.at_.f3, .bool o.at_.f4, .bool o.at_.f5, .int .i64 o.other, .int .u64 o.too] 36)) (.cells #[.int .i64 0, .int .i64 0, .int .u8 0] 42)) (.cells #[.int .i64 o.sp] 3)
  have hl := blk_new ((w.alloc (.cells #[.int .i64 o.kind, .int .i64 o.sp, .int .i64 o.ak, .bool o.ap, .int .u64 o.av, .int .u8 o.byte, .int .u64 o.va, .int .i64 o.size, .bool o.at_.f0, .bool o.at_.f1, .bool o.at_.f2, .bool o.at_.f3, .bool o.at_.f4, .bool o.at_.f5, .int .i64 o.other, .int .u64 o.too] 36)).alloc (.cells #[.int .i64 0, .int .i64 0, .int .u8 0] 42)) (.cells #[.int .i64 o.sp] 3)
  have hb : Below w.heap.size w (((w.alloc (.cells #[.int .i64 o.kind, .int .i64 o.sp, .int .i64 o.ak, .bool o.ap, .int .u64 o.av, .int .u8 o.byte, .int .u64 o.va, .int .i64 o.size, .bool o.at_.f0, .bool o.at_.f1, .bool o.at_.f2, .bool o.at_.f3, .bool o.at_.f4, .bool o.at_.f5, .int .i64 o.other, .int .u64 o.too] 36)).alloc (.cells #[.int .i64 0, .int .i64 0, .int .u8 0] 42)).alloc (.cells #[.int .i64 o.sp] 3)) := (((Below.refl _ w).alloc (Nat.le_refl _) _).alloc (by simp) _).alloc (by simp; omega) _
  have hs1 : (w.alloc (.cells #[.int .i64 o.kind, .int .i64 o.sp, .int .i64 o.ak, .bool o.ap, .int .u64 o.av, .int .u8 o.byte, .int .u64 o.va, .int .i64 o.size, .bool o.at_.f0, .bool o.at_.f1, .bool o.at_.f2, .bool o.at_.f3, .bool o.at_.f4, .bool o.at_.f5, .int .i64 o.other, .int .u64 o.too] 36)).heap.size = D + 1 := by simp [hD]
  have hs2 : ((w.alloc (.cells #[.int .i64 o.kind, .int .i64 o.sp, .int .i64 o.ak, .bool o.ap, .int .u64 o.av, .int .u8 o.byte, .int .u64 o.va, .int .i64 o.size, .bool o.at_.f0, .bool o.at_.f1, .bool o.at_.f2, .bool o.at_.f3, .bool o.at_.f4, .bool o.at_.f5, .int .i64 o.other, .int .u64 o.too] 36)).alloc (.cells #[.int .i64 0, .int .i64 0, .int .u8 0] 42)).heap.size = D + 1 + 1 := by simp [hD]
  rw [hD] at hk
  rw [hs1] at hz
  rw [hs2] at hl
  generalize ((w.alloc (.cells #[.int .i64 o.kind, .int .i64 o.sp, .int .i64 o.ak, .bool o.ap, .int .u64 o.av, .int .u8 o.byte, .int .u64 o.va, .int .i64 o.size, .bool o.at_.f0, .bool o.at_.f1, .bool o.at_.f2, .bool o.at_.f3, .bool o.at_.f4, .bool o.at_.f5, .int .i64 o.other, .int .u64 o.too] 36)).alloc (.cells #[.int .i64 0, .int .i64 0, .int .u8 0] 42)).alloc (.cells #[.int .i64 o.sp] 3) = w1 at *
  clear hs1 hs2
  refine (is_calls (HM.out.below hb) [o.sp] (some ⟨D + 1 + 1, 0, none⟩) 1 (c_lit (xs := [o.sp]) hl (by simp)) (by simp)).mono ?_
  rintro e w2 ⟨rfl, rfl⟩
  rw [hi]
  have HZ := Aside0.mk hz
  have HB := Aside0.mk hb
  have h1 := (blk_cell hk 1).trans rfl
  have h6 := (blk_cell hk 6).trans rfl
  rw [HOV.out] at h6
  clear hk hz hl hb
  go_wp2_with fail
  refine (at_no (HM.out.below HB.out) o.sp hsp va hva HN.out).mono ?_
  rintro e w2 ⟨rfl, hb2⟩
  have hz2 := blk_below HZ.out hb2
  have HB2 := Aside0.mk (below_step HB.out hb2)
  have hw2s : D + 1 < w2.heap.size := blk_lt hz2
  have hz3 := blk_alloc (blk_alloc hz2 (.cells #[.int .u64 0, .int .i64 0, .int .u64 0, .bool false, .bool false, .bool false, .bool false, .bool false, .bool false, .bool false, .bool false] 50)) (.cells #[.int .i64 0, .int .u64 0, .int .i64 0] 84)
  have hb3 := below_step HB2.out (((Below.refl _ w2).alloc (Nat.le_refl _) (.cells #[.int .u64 0, .int .i64 0, .int .u64 0, .bool false, .bool false, .bool false, .bool false, .bool false, .bool false, .bool false, .bool false] 50)).alloc (by simp) (.cells #[.int .i64 0, .int .u64 0, .int .i64 0] 84))
  unfold pgv kyv z0
  clear hb2 h1 h6 hz2 HB HZ
  have HZ := Aside0.mk hz3
  have HB := Aside0.mk hb3
  clear hz3 hb3
  go_wp2_with fail
  generalize (w2.alloc (.cells #[.int .u64 0, .int .i64 0, .int .u64 0, .bool false, .bool false, .bool false, .bool false, .bool false, .bool false, .bool false, .bool false] 50)).alloc (.cells #[.int .i64 0, .int .u64 0, .int .i64 0] 84) = w3 at *
  refine (model_told.calls 10 _ _ _ w3 rfl).mono ?_
  rintro e w2 ⟨rfl, hb2⟩
  have hz2 := blk_below HZ.out hb2
  have HB2 := Aside0.mk (below_step HB.out hb2)
  obtain ⟨z0, z1, z2⟩ := cells3 hz2
  have y0 := blk_frozen hz2 0
  have y1 := blk_frozen hz2 1
  have y2 := blk_frozen hz2 2
  clear hb2
  go_wp2_with fail
  rw [set3 hz2]
  refine bodyPost_ret (results_cell_row rfl _ _ (D + 1) 42 _ (0, 0) _ rfl (sb_same hz2 _) Try.underlying42 rfl (by kernel_rfl)) rfl ?_
  exact ⟨rfl, below_sb HB2.out (by omega) _⟩
/-- A reply of no error, and the model of s. -/
def OkP2 (w : World) (B pm bm : Nat) (s : MS) (e : Ending) (w' : World) : Prop := e = .returned (.agg #[.int .i64 0, .int .i64 0, .int .u8 0]) ∧ Mo w' B pm bm s ∧ Mv [B, pm, bm] w w'
set_option maxHeartbeats 8000000 in
set_option maxRecDepth 100000 in
theorem change_yes {s2 : MS} (h : Mo w B pm bm s) (hw : WfL s.L) (o : OpS) (fv : FuncId) (caps : Array Value) (hi : isAll s.n [o.sp] = true) (hsp : W64 o.sp) (va : Nat) (hva : va < 2 ^ 64) (hov : o.va = (va : Int))
    (x : Ent) (hx : x ∈ s.L) (hh : hit o.sp va x = true) (hd : Does w B pm bm s s2 fv caps x) (hcf : ∀ (args : Array Value) (W : World), (callFunc fv args).run Try.prog W = .ok (.enter fv args) W) :
    Calls Try.prog 71 #[.pointer (some ⟨B, 0, none⟩), Value.agg #[.int .i64 o.kind, .int .i64 o.sp, .int .i64 o.ak, .bool o.ap, .int .u64 o.av, .int .u8 o.byte, .int .u64 o.va, .int .i64 o.size, .bool o.at_.f0, .bool o.at_.f1, .bool o.at_.f2, .bool o.at_.f3, .bool o.at_.f4, .bool o.at_.f5, .int .i64 o.other, .int .u64 o.too], .func (.func fv) #[] caps] w (OkP2 w B pm bm s2) := by
  have HM := Aside0.mk h
  have HLT := Aside0.mk h.lt
  have HW := Aside0.mk hw
  have HX := Aside0.mk hx
  have HH := Aside0.mk hh
  have HD := Aside0.mk hd
  have HOV := Aside0.mk hov
  clear h hov hw hx hh hd
  obtain ⟨D, hD⟩ : ∃ D, w.heap.size = D := ⟨_, rfl⟩
  go_enter Try.func71, Try.ntmps71
  go_wp2_with fail
  have hk := blk_alloc (blk_alloc (blk_new w (.cells #[.int .i64 o.kind, .int .i64 o.sp, .int .i64 o.ak, .bool o.ap, .int .u64 o.av, .int .u8 o.byte, .int .u64 o.va, .int .i64 o.size, .bool o.at_.f0, .bool o.at_.f1, .bool o.at_.f2, .bool o.at_.f3, .bool o.at_.f4, .bool o.at_.f5, .int .i64 o.other, .int .u64 o.too] 36)) (.cells #[.int .i64 0, .int .i64 0, .int .u8 0] 42)) (.cells #[.int .i64 o.sp] 3)
  have hz := blk_alloc (blk_new (w.alloc (.cells #[.int .i64 o.kind, .int .i64 o.sp, .int .i64 o.ak, .bool o.ap, .int .u64 o.av, .int .u8 o.byte, .int .u64 o.va, .int .i64 o.size, .bool o.at_.f0, .bool o.at_.f1, .bool o.at_.f2, .bool o.at_.f3, .bool o.at_.f4, .bool o.at_.f5, .int .i64 o.other, .int .u64 o.too] 36)) (.cells #[.int .i64 0, .int .i64 0, .int .u8 0] 42)) (.cells #[.int .i64 o.sp] 3)
  have hl := blk_new ((w.alloc (.cells #[.int .i64 o.kind, .int .i64 o.sp, .int .i64 o.ak, .bool o.ap, .int .u64 o.av, .int .u8 o.byte, .int .u64 o.va, .int .i64 o.size, .bool o.at_.f0, .bool o.at_.f1, .bool o.at_.f2, .bool o.at_.f3, .bool o.at_.f4, .bool o.at_.f5, .int .i64 o.other, .int .u64 o.too] 36)).alloc (.cells #[.int .i64 0, .int .i64 0, .int .u8 0] 42)) (.cells #[.int .i64 o.sp] 3)
  have hb : Below w.heap.size w (((w.alloc (.cells #[.int .i64 o.kind, .int .i64 o.sp, .int .i64 o.ak, .bool o.ap, .int .u64 o.av, .int .u8 o.byte, .int .u64 o.va, .int .i64 o.size, .bool o.at_.f0, .bool o.at_.f1, .bool o.at_.f2, .bool o.at_.f3, .bool o.at_.f4, .bool o.at_.f5, .int .i64 o.other, .int .u64 o.too] 36)).alloc (.cells #[.int .i64 0, .int .i64 0, .int .u8 0] 42)).alloc (.cells #[.int .i64 o.sp] 3)) := (((Below.refl _ w).alloc (Nat.le_refl _) _).alloc (by simp) _).alloc (by simp; omega) _
  have hs1 : (w.alloc (.cells #[.int .i64 o.kind, .int .i64 o.sp, .int .i64 o.ak, .bool o.ap, .int .u64 o.av, .int .u8 o.byte, .int .u64 o.va, .int .i64 o.size, .bool o.at_.f0, .bool o.at_.f1, .bool o.at_.f2, .bool o.at_.f3, .bool o.at_.f4, .bool o.at_.f5, .int .i64 o.other, .int .u64 o.too] 36)).heap.size = D + 1 := by simp [hD]
  have hs2 : ((w.alloc (.cells #[.int .i64 o.kind, .int .i64 o.sp, .int .i64 o.ak, .bool o.ap, .int .u64 o.av, .int .u8 o.byte, .int .u64 o.va, .int .i64 o.size, .bool o.at_.f0, .bool o.at_.f1, .bool o.at_.f2, .bool o.at_.f3, .bool o.at_.f4, .bool o.at_.f5, .int .i64 o.other, .int .u64 o.too] 36)).alloc (.cells #[.int .i64 0, .int .i64 0, .int .u8 0] 42)).heap.size = D + 1 + 1 := by simp [hD]
  rw [hD] at hk
  rw [hs1] at hz
  rw [hs2] at hl
  generalize ((w.alloc (.cells #[.int .i64 o.kind, .int .i64 o.sp, .int .i64 o.ak, .bool o.ap, .int .u64 o.av, .int .u8 o.byte, .int .u64 o.va, .int .i64 o.size, .bool o.at_.f0, .bool o.at_.f1, .bool o.at_.f2, .bool o.at_.f3, .bool o.at_.f4, .bool o.at_.f5, .int .i64 o.other, .int .u64 o.too] 36)).alloc (.cells #[.int .i64 0, .int .i64 0, .int .u8 0] 42)).alloc (.cells #[.int .i64 o.sp] 3) = w1 at *
  clear hs1 hs2
  refine (is_calls (HM.out.below hb) [o.sp] (some ⟨D + 1 + 1, 0, none⟩) 1 (c_lit (xs := [o.sp]) hl (by simp)) (by simp)).mono ?_
  rintro e w2 ⟨rfl, rfl⟩
  rw [hi]
  have HZ := Aside0.mk hz
  have HB := Aside0.mk hb
  have h1 := (blk_cell hk 1).trans rfl
  have h6 := (blk_cell hk 6).trans rfl
  rw [HOV.out] at h6
  clear hk hz hl hb
  go_wp2_with fail
  refine (at_yes (HM.out.below HB.out) HW.out o.sp hsp va hva x HX.out HH.out).mono ?_
  rintro e w2 ⟨rfl, hb2⟩
  have hz2 := blk_below HZ.out hb2
  have HB2 := Aside0.mk (below_step HB.out hb2)
  have hw2s : D + 1 < w2.heap.size := blk_lt hz2
  have hz3 := blk_alloc (blk_alloc hz2 (.cells #[.int .u64 x.f1.f0, .int .i64 x.f1.f1, .int .u64 x.f1.f2, .bool x.f1.f3.f0, .bool x.f1.f3.f1, .bool x.f1.f3.f2, .bool x.f1.f3.f3, .bool x.f1.f3.f4, .bool x.f1.f3.f5, .bool x.f1.f4, .bool x.f1.f5] 50)) (.cells #[.int .i64 x.f0, .int .u64 x.f1.f0, .int .i64 x.f1.f1] 84)
  have hb3 := below_step HB2.out (((Below.refl _ w2).alloc (Nat.le_refl _) (.cells #[.int .u64 x.f1.f0, .int .i64 x.f1.f1, .int .u64 x.f1.f2, .bool x.f1.f3.f0, .bool x.f1.f3.f1, .bool x.f1.f3.f2, .bool x.f1.f3.f3, .bool x.f1.f3.f4, .bool x.f1.f3.f5, .bool x.f1.f4, .bool x.f1.f5] 50)).alloc (by simp) (.cells #[.int .i64 x.f0, .int .u64 x.f1.f0, .int .i64 x.f1.f1] 84))
  have hp3 := blk_alloc (blk_new w2 (.cells #[.int .u64 x.f1.f0, .int .i64 x.f1.f1, .int .u64 x.f1.f2, .bool x.f1.f3.f0, .bool x.f1.f3.f1, .bool x.f1.f3.f2, .bool x.f1.f3.f3, .bool x.f1.f3.f4, .bool x.f1.f3.f5, .bool x.f1.f4, .bool x.f1.f5] 50)) (.cells #[.int .i64 x.f0, .int .u64 x.f1.f0, .int .i64 x.f1.f1] 84)
  have hk3 := blk_new (w2.alloc (.cells #[.int .u64 x.f1.f0, .int .i64 x.f1.f1, .int .u64 x.f1.f2, .bool x.f1.f3.f0, .bool x.f1.f3.f1, .bool x.f1.f3.f2, .bool x.f1.f3.f3, .bool x.f1.f3.f4, .bool x.f1.f3.f5, .bool x.f1.f4, .bool x.f1.f5] 50)) (.cells #[.int .i64 x.f0, .int .u64 x.f1.f0, .int .i64 x.f1.f1] 84)
  rw [World.size_alloc] at hk3
  unfold pgv kyv
  clear hb2 h1 h6 hz2 HB HZ
  have HZ := Aside0.mk hz3
  have HB := Aside0.mk hb3
  have HP3 := Aside0.mk hp3
  have HK3 := Aside0.mk hk3
  clear hz3 hb3 hp3 hk3
  go_upto_region 6 with fail
  generalize (w2.alloc (.cells #[.int .u64 x.f1.f0, .int .i64 x.f1.f1, .int .u64 x.f1.f2, .bool x.f1.f3.f0, .bool x.f1.f3.f1, .bool x.f1.f3.f2, .bool x.f1.f3.f3, .bool x.f1.f3.f4, .bool x.f1.f3.f5, .bool x.f1.f4, .bool x.f1.f5] 50)).alloc (.cells #[.int .i64 x.f0, .int .u64 x.f1.f0, .int .i64 x.f1.f1] 84) = w3 at *
  obtain ⟨p0, p1, p2, p3, p4, p5, p6, p7, p8, p9, p10⟩ := cells11 HP3.out
  obtain ⟨k0, k1, k2⟩ := cells3 HK3.out
  go_wp2_with fail
  refine (HD.out w3 HB.out (HM.out.below HB.out)).mono ?_
  rintro e w4 ⟨rfl, hm4, hv4⟩
  have HM4 := Aside0.mk hm4
  have HV4 := Aside0.mk hv4
  have hne : D + 1 ∉ [B, pm, bm] := fun hm => by have := HLT.out _ hm; omega
  have hz4 : w4.heap[D + 1]? = some (.cells #[.int .i64 0, .int .i64 0, .int .u8 0] 42 (0, 0)) := (hv4.block _ (blk_lt HZ.out) hne).trans HZ.out
  obtain ⟨z0, z1, z2⟩ := cells3 hz4
  have y0 := blk_frozen hz4 0
  have y1 := blk_frozen hz4 1
  have y2 := blk_frozen hz4 2
  have HNE := Aside0.mk hne
  clear hm4 hv4 p0 p1 p2 p3 p4 p5 p6 p7 p8 p9 p10 k0 k1 k2 hne
  go_wp2_with fail
  rw [set3 hz4]
  refine bodyPost_ret (results_cell_row rfl _ _ (D + 1) 42 _ (0, 0) _ rfl (sb_same hz4 _) Try.underlying42 rfl (by kernel_rfl)) rfl ?_
  have hv := ((Mv.of_below HB.out).then (HV4.out.trans (S' := []) (Mv.refl [] _) (fun _ hk => by simp at hk)) : Mv [B, pm, bm] w w4)
  exact ⟨rfl, HM4.out.move (fun k hk => sb_other _ (fun e => HNE.out (e ▸ hk))), hv.setBlock (.inr (by omega)) _⟩
end
end Go.Proofs.Ytalmemcidbmdgaa.PM


/- A model (layer 16): put: the walk. -/
set_option linter.unusedVariables false
set_option linter.unusedSimpArgs false
namespace Go.Proofs.Ytalmemcidbmdgaa.PM
open Go.RowKit Go.Proofs.YtalmemcidbmdgaaW.PrintWords Go.Proofs.YtalmemcidbmdgaaW.PrintLast Go.Proofs.YtalmemcidbmdgaaW.PrintMore Go.Proofs.Ytalmemcidbmdgaa.PageG
attribute [local go_sem] max2_int min2_int max_two min_two max_three min_three max_four min_four   -- for this text's walks alone
open Go.Proofs.Ytalmemcidbmdgaa.FieldG Go.Proofs.Ytalmemcidbmdgaa.BitsN
def holeB (va : Nat) : Bool := !(decide (get va 43 21 = 0)) && (get va 43 21 != 2097151)
theorem hole_f (va : Nat) (hv : va < 2 ^ 64) : page_Hole.f va = some (holeB va) := by
  have hg := get_yes (P := 43) (S := 21) va hv (by omega) (by omega)
  unfold page_Hole.f holeB
  rw [show (43 : Int) = ((43 : Nat) : Int) from rfl, show (21 : Int) = ((21 : Nat) : Int) from rfl, hg]
  generalize get va 43 21 = g
  simp only [Option.bind_some]
  by_cases h0 : g = 0
  · subst h0; rfl
  · rw [if_neg (by omega)]
    simp only [h0, decide_false, Bool.not_false, Bool.true_and]
    congr 1
    by_cases h1 : g = 2097151
    · subst h1; rfl
    · rw [show (g != 2097151) = true by simp [h1]]
      simp only [bne_iff_ne, ne_eq]
      omega
def startsB (va sz : Int) : Bool := if 0 ≤ sz ∧ sz < 4 then decide (va.toNat % 2 ^ (13 + 3 * sz.toNat) = 0) else false
theorem starts_f (va : Nat) (hv : va < 2 ^ 64) (sz : Int) : page_Starts.f va sz = some (startsB va sz) := by
  unfold page_Starts.f startsB
  rw [pmay]
  by_cases h : 0 ≤ sz ∧ sz < 4
  · rw [if_pos h]
    simp only [Option.bind_some, h, and_self, decide_true, if_true]
    obtain ⟨n, rfl⟩ : ∃ n : Nat, sz = n := ⟨sz.toNat, by omega⟩
    rw [off_p va n hv (by omega)]
    simp only [Option.bind_some, Int.toNat_natCast]
    congr 1
    by_cases h0 : va % 2 ^ (13 + 3 * n) = 0
    · exact (beq_iff_eq.2 (by rw [h0]; rfl)).trans (decide_eq_true h0).symm
    · exact (beq_eq_false_iff_ne.2 (by omega)).trans (decide_eq_false h0).symm
  · rw [if_neg h]
    simp only [Option.bind_some, h, decide_false]
    rfl
theorem bs_of_mod {va s : Nat} (h : va % 2 ^ (13 + 3 * s) = 0) : bs va s = va := by
  unfold bs
  have := Nat.div_add_mod va (2 ^ (13 + 3 * s))
  rw [h, Nat.mul_comm] at this
  omega
/-- put: what it tells, the model behind it. -/
def putS (s : MS) (sp : Int) (p : Pg) : Int × MS :=
  if holeB p.f0.toNat = true then (3, s) else if startsB p.f0 p.f1 = false then (4, s) else if (sel sp s.L).any (meetB p) = true then (9, s) else (0, { s with L := s.L ++ [⟨sp, p⟩] })
structure OkQ (sp : Int) (p : Pg) : Prop where
  sp0 : 0 ≤ sp
  sp1 : sp < 64
  va : p.f0 = (p.f0.toNat : Int)
  va1 : p.f0.toNat < 2 ^ 64
  pa0 : 0 ≤ p.f2
  pa1 : p.f2 < 1000000
theorem OkQ.e {sp : Int} {p : Pg} (h : OkQ sp p) (hs : startsB p.f0 p.f1 = true) : OkE ⟨sp, p⟩ := by
  unfold startsB at hs
  split at hs
  · rename_i hz
    have hm := of_decide_eq_true hs
    exact ⟨h.sp0, h.sp1, h.va, h.va1, by show p.f1 = ((p.f1.toNat : Nat) : Int); omega, by show p.f1.toNat < 4; omega, bs_of_mod hm, h.pa0, h.pa1⟩
  · cases hs
theorem put_new {s : MS} {sp : Int} {p : Pg} (hm : (sel sp s.L).any (meetB p) = false) : ∀ y ∈ s.L, ¬ (y.f0 = sp ∧ y.f1.f0 = p.f0 ∧ y.f1.f1 = p.f1) := by
  intro y hy ⟨h1, h2, h3⟩
  rw [List.any_eq_false] at hm
  refine hm y.f1 ?_ ?_
  · unfold sel
    exact List.mem_map.2 ⟨y, List.mem_filter.2 ⟨hy, by simp [h1]⟩, rfl⟩
  · unfold meetB
    rw [h2, h3]
    simp
end Go.Proofs.Ytalmemcidbmdgaa.PM


/- A model (layer 16): put: the walk. -/
set_option linter.unusedVariables false
set_option linter.unusedSimpArgs false
namespace Go.Proofs.Ytalmemcidbmdgaa.PM
open Go.RowKit Go.Proofs.YtalmemcidbmdgaaW.PrintWords Go.Proofs.YtalmemcidbmdgaaW.PrintLast Go.Proofs.YtalmemcidbmdgaaW.PrintMore Go.Proofs.Ytalmemcidbmdgaa.PageG
attribute [local go_sem] max2_int min2_int max_two min_two max_three min_three max_four min_four   -- for this text's walks alone
section
variable {w w' : World} {B pm bm : Nat} {s : MS}
def PutP (w : World) (B pm bm : Nat) (r : Int × MS) (e : Ending) (w' : World) : Prop := e = .returned (.int .i64 r.1) ∧ Mo w' B pm bm r.2 ∧ Mv [B, pm, bm] w w'
theorem PutP.same {r : Int × MS} {n : Int} (h : Mo w B pm bm s) (hb : Below w.heap.size w w') (hr : r = (n, s)) : PutP w B pm bm r (.returned (.int .i64 n)) w' := by
  subst hr
  exact ⟨rfl, h.below hb, Mv.of_below hb⟩
set_option maxHeartbeats 8000000 in
set_option maxRecDepth 100000 in
theorem put_calls (h : Mo w B pm bm s) (hw : WfL s.L) (hf : s.L.length ≤ 100000) (sp : Int) (p : Pg) (hq : OkQ sp p) :
    Calls Try.prog 70 #[.pointer (some ⟨B, 0, none⟩), .int .i64 sp, .agg #[.int .u64 p.f0, .int .i64 p.f1, .int .u64 p.f2, .bool p.f3.f0, .bool p.f3.f1, .bool p.f3.f2, .bool p.f3.f3, .bool p.f3.f4, .bool p.f3.f5, .bool p.f4, .bool p.f5]] w (PutP w B pm bm (putS s sp p)) := by
  have HM := Aside0.mk h
  have HW := Aside0.mk hw
  have HQ := Aside0.mk hq
  have HHO := Aside0.mk (show page_Hole.f p.f0 = some (holeB p.f0.toNat) by have := hole_f p.f0.toNat hq.va1; rwa [← hq.va] at this)
  have HST := Aside0.mk (show page_Starts.f p.f0 p.f1 = some (startsB p.f0 p.f1) by have := starts_f p.f0.toNat hq.va1 p.f1; rwa [← hq.va] at this)
  have HR := Aside0.mk (show putS s sp p = if holeB p.f0.toNat = true then (3, s) else if startsB p.f0 p.f1 = false then (4, s) else if (sel sp s.L).any (meetB p) = true then (9, s) else (0, { s with L := s.L ++ [⟨sp, p⟩] }) from rfl)
  clear h hw hq
  generalize putS s sp p = res at *
  obtain ⟨D, hD⟩ : ∃ D, w.heap.size = D := ⟨_, rfl⟩
  go_enter Try.func70, Try.ntmps70
  go_upto_region 2 with fail
  have hk := blk_new w (.cells #[.int .u64 p.f0, .int .i64 p.f1, .int .u64 p.f2, .bool p.f3.f0, .bool p.f3.f1, .bool p.f3.f2, .bool p.f3.f3, .bool p.f3.f4, .bool p.f3.f5, .bool p.f4, .bool p.f5] 50)
  have hb : Below w.heap.size w (w.alloc (.cells #[.int .u64 p.f0, .int .i64 p.f1, .int .u64 p.f2, .bool p.f3.f0, .bool p.f3.f1, .bool p.f3.f2, .bool p.f3.f3, .bool p.f3.f4, .bool p.f3.f5, .bool p.f4, .bool p.f5] 50)) := (Below.refl _ w).alloc (Nat.le_refl _) _
  rw [hD] at hk
  generalize w.alloc (.cells #[.int .u64 p.f0, .int .i64 p.f1, .int .u64 p.f2, .bool p.f3.f0, .bool p.f3.f1, .bool p.f3.f2, .bool p.f3.f3, .bool p.f3.f4, .bool p.f3.f5, .bool p.f4, .bool p.f5] 50) = w1 at *
  obtain ⟨p0, p1, -⟩ := cells11 hk
  have HK := Aside0.mk hk
  have HB := Aside0.mk hb
  clear hk hb
  generalize hho : holeB p.f0.toNat = ho at *
  go_wp2_with fail
  refine (page_Hole.calls p.f0 ho w1 HHO.out).mono ?_
  rintro e w2 ⟨rfl, hd⟩
  have hk2 := blk_below HK.out hd.below
  have HB2 := Aside0.mk (below_step HB.out hd.below)
  clear hd p0 p1 HB HK
  obtain ⟨p0, p1, -⟩ := cells11 hk2
  have HK2 := Aside0.mk hk2
  clear hk2
  cases ho with
  | true =>
    rw [if_pos rfl] at HR
    go_wp2_with fail
    go_ret
    exact PutP.same HM.out HB2.out HR.out
  | false =>
    rw [if_neg (by simp)] at HR
    generalize hst : startsB p.f0 p.f1 = st at *
    go_wp2_with fail
    refine (page_Starts.calls p.f0 p.f1 st w2 HST.out).mono ?_
    rintro e w3 ⟨rfl, hd⟩
    have hk3 := blk_below HK2.out hd.below
    have HB3 := Aside0.mk (below_step HB2.out hd.below)
    clear hd p0 p1 HB2 HK2
    have HK3 := Aside0.mk hk3
    clear hk3
    cases st with
    | false =>
      rw [if_pos rfl] at HR
      go_wp2_with fail
      go_ret
      exact PutP.same HM.out HB3.out HR.out
    | true =>
      rw [if_neg (by simp)] at HR
      have hoe := HQ.out.e hst
      have HOE := Aside0.mk hoe
      clear hoe
      go_wp2_with fail
      refine (pages_calls (HM.out.below HB3.out) hf sp).mono ?_
      rintro e w4 ⟨A, c, l, rfl, hlc, hperm, -, hC, hb4, -⟩
      have hk4 := blk_below HK3.out hb4
      have HB4 := Aside0.mk (below_step HB3.out hb4)
      have hll : l.length ≤ 100000 := by
        have h1 := hperm.length_eq
        have h2 := sel_len sp s.L
        omega
      have hok : ∀ q ∈ l, OkP q := fun q hq => by
        obtain ⟨y, hy, rfl⟩ := List.mem_map.1 (hperm.mem_iff.1 hq)
        exact (HW.out.ok y (List.mem_filter.1 hy).1).p
      have HCC := Aside0.mk (contains_calls w4 p HOE.out.p D hk4 A c l hC hll hok)
      have HANY := Aside0.mk (show l.any (meetB p) = (sel sp s.L).any (meetB p) from hperm.any_eq)
      have HK4 := Aside0.mk hk4
      clear hk4 hb4 hlc hperm hC hll hok HB3 HK3
      go_wp2_with fail
      refine HCC.out.mono ?_
      rintro e w5 ⟨rfl, hb5⟩
      rw [HANY.out]
      have HK5 := Aside0.mk (blk_below HK4.out hb5)
      have HB5 := Aside0.mk (below_step HB4.out hb5)
      clear hb5 HB4 HK4 HCC HANY
      generalize han : (sel sp s.L).any (meetB p) = an at *
      cases an with
      | true =>
        rw [if_pos rfl] at HR
        go_wp2_with fail
        go_ret
        exact PutP.same HM.out HB5.out HR.out
      | false =>
        rw [if_neg (by simp)] at HR
        have HNEW := Aside0.mk (put_new (p := p) han)
        clear han
        go_upto_region 8 with fail
        obtain ⟨o, hrun, hmo⟩ := ((HM.out.below HB5.out).below (Below.refl _ w5).drew).new_page ⟨sp, p⟩ HOE.out HNEW.out
        have HMO := Aside0.mk hmo
        unfold kyv pgv at hrun
        clear hmo
        have m1 := (HM.out.below HB5.out).cells.2.1
        obtain ⟨p0, p1, p2, p3, p4, p5, p6, p7, p8, p9, p10⟩ := cells11 HK5.out
        refine start_ (n := 12) (S := fun w' => w'.cell? ⟨B, 1, none⟩ = some (.map (some pm)) ∧ w'.cell? ⟨D, 0, none⟩ = some (.int .u64 p.f0) ∧ w'.cell? ⟨D, 1, none⟩ = some (.int .i64 p.f1) ∧ w'.cell? ⟨D, 2, none⟩ = some (.int .u64 p.f2) ∧ w'.cell? ⟨D, 3, none⟩ = some (.bool p.f3.f0) ∧ w'.cell? ⟨D, 4, none⟩ = some (.bool p.f3.f1) ∧ w'.cell? ⟨D, 5, none⟩ = some (.bool p.f3.f2) ∧ w'.cell? ⟨D, 6, none⟩ = some (.bool p.f3.f3) ∧ w'.cell? ⟨D, 7, none⟩ = some (.bool p.f3.f4) ∧ w'.cell? ⟨D, 8, none⟩ = some (.bool p.f3.f5) ∧ w'.cell? ⟨D, 9, none⟩ = some (.bool p.f4) ∧ w'.cell? ⟨D, 10, none⟩ = some (.bool p.f5)) (ds := [11]) #[false, false, false, false, false, false, false, false, false, false, false, false] (by kernel_rfl) rfl rfl ⟨m1, p0, p1, p2, p3, p4, p5, p6, p7, p8, p9, p10⟩ (fun hHeld => ?_)
        refine pure_ (i := 0) (N := some 26) (v := ?_) (a' := ?_) #[true, false, false, false, false, false, false, false, false, false, false, false] rfl rfl (by kernel_rfl) (fun _ _ _ h => h) (Or.inl ⟨by rfl, ?_⟩) ?_ ?_
        rotate_left
        · intro w'
          go_simp
          with_reducible rfl
        rotate_left
        · simp only [Act.put, List.setIfInBounds_toArray, List.set_cons_zero, List.set_cons_succ, i64_w, i32_w]
          rfl
        refine pure_ (i := 1) (N := some 27) (v := ?_) (a' := ?_) #[true, true, false, false, false, false, false, false, false, false, false, false] rfl rfl (by kernel_rfl) (fun _ _ _ h => h) (Or.inl ⟨by rfl, ?_⟩) ?_ ?_
        rotate_left
        · intro w'
          go_simp
          with_reducible rfl
        rotate_left
        · simp only [Act.put, List.setIfInBounds_toArray, List.set_cons_zero, List.set_cons_succ, i64_w, i32_w]
          rfl
        refine pure_ (i := 2) (N := some 28) (v := ?_) (a' := ?_) #[true, true, true, false, false, false, false, false, false, false, false, false] rfl rfl (by kernel_rfl) (fun _ _ _ h => h) (Or.inl ⟨by rfl, ?_⟩) ?_ ?_
        rotate_left
        · intro w'
          go_simp
          with_reducible rfl
        rotate_left
        · simp only [Act.put, List.setIfInBounds_toArray, List.set_cons_zero, List.set_cons_succ, i64_w, i32_w]
          rfl
        refine pure_ (i := 4) (N := some 30) (v := ?_) (a' := ?_) #[true, true, true, false, true, false, false, false, false, false, false, false] rfl rfl (by kernel_rfl) (fun _ _ _ h => h) (Or.inl ⟨by rfl, ?_⟩) ?_ ?_
        rotate_left
        · intro w'
          go_simp
          with_reducible rfl
        rotate_left
        · simp only [Act.put, List.setIfInBounds_toArray, List.set_cons_zero, List.set_cons_succ, i64_w, i32_w]
          rfl
        refine pure_ (i := 5) (N := some 31) (v := ?_) (a' := ?_) #[true, true, true, false, true, true, false, false, false, false, false, false] rfl rfl (by kernel_rfl) (fun _ _ _ h => h) (Or.inl ⟨by rfl, ?_⟩) ?_ ?_
        rotate_left
        · intro w'
          go_simp
          with_reducible rfl
        rotate_left
        · simp only [Act.put, List.setIfInBounds_toArray, List.set_cons_zero, List.set_cons_succ, i64_w, i32_w]
          rfl
        refine pure_ (i := 7) (N := some 33) (v := ?_) (a' := ?_) #[true, true, true, false, true, true, false, true, false, false, false, false] rfl rfl (by kernel_rfl) (fun _ _ _ h => h) (Or.inl ⟨by rfl, ?_⟩) ?_ ?_
        rotate_left
        · intro w'
          go_simp
          with_reducible rfl
        rotate_left
        · simp only [Act.put, List.setIfInBounds_toArray, List.set_cons_zero, List.set_cons_succ, i64_w, i32_w]
          rfl
        refine take_ (i := 3) (N := some 29) (v := ?_) (a' := ?_) #[true, true, true, true, true, true, false, true, false, false, false, false] rfl rfl (by kernel_rfl) (fun _ _ _ h => h) (Or.inl ⟨by rfl, ?_⟩) hHeld ?_ ?_
        rotate_left
        · rintro w' ⟨s0, s1, s2, s3, s4, s5, s6, s7, s8, s9, s10, s11⟩
          go_simp
          with_reducible rfl
        rotate_left
        · simp only [Act.put, List.setIfInBounds_toArray, List.set_cons_zero, List.set_cons_succ, i64_w, i32_w]
          rfl
        refine take_ (i := 6) (N := some 32) (v := ?_) (a' := ?_) #[true, true, true, true, true, true, true, true, false, false, false, false] rfl rfl (by kernel_rfl) (fun _ _ _ h => h) (Or.inl ⟨by rfl, ?_⟩) hHeld ?_ ?_
        rotate_left
        · rintro w' ⟨s0, s1, s2, s3, s4, s5, s6, s7, s8, s9, s10, s11⟩
          go_simp
          with_reducible rfl
        rotate_left
        · simp only [Act.put, List.setIfInBounds_toArray, List.set_cons_zero, List.set_cons_succ, i64_w, i32_w]
          rfl
        refine take_ (i := 8) (N := some 34) (v := ?_) (a' := ?_) #[true, true, true, true, true, true, true, true, true, false, false, false] rfl rfl (by kernel_rfl) (fun _ _ _ h => h) (Or.inl ⟨by rfl, ?_⟩) hHeld ?_ ?_
        rotate_left
        · rintro w' ⟨s0, s1, s2, s3, s4, s5, s6, s7, s8, s9, s10, s11⟩
          go_simp
          with_reducible rfl
        rotate_left
        · simp only [Act.put, List.setIfInBounds_toArray, List.set_cons_zero, List.set_cons_succ, i64_w, i32_w]
          rfl
        refine pure_ (i := 9) (N := some 35) (v := ?_) (a' := ?_) #[true, true, true, true, true, true, true, true, true, true, false, false] rfl rfl (by kernel_rfl) (fun _ _ _ h => h) (Or.inl ⟨by rfl, ?_⟩) ?_ ?_
        rotate_left
        · intro w'
          go_simp
          with_reducible rfl
        rotate_left
        · simp only [Act.put, List.setIfInBounds_toArray, List.set_cons_zero, List.set_cons_succ, i64_w, i32_w]
          rfl
        refine take_ (i := 10) (N := some 36) (v := ?_) (a' := ?_) #[true, true, true, true, true, true, true, true, true, true, true, false] rfl rfl (by kernel_rfl) (fun _ _ _ h => h) (Or.inl ⟨by rfl, ?_⟩) hHeld ?_ ?_
        rotate_left
        · rintro w' ⟨s0, s1, s2, s3, s4, s5, s6, s7, s8, s9, s10, s11⟩
          go_simp
          with_reducible rfl
        rotate_left
        · simp only [Act.put, List.setIfInBounds_toArray, List.set_cons_zero, List.set_cons_succ, i64_w, i32_w]
          rfl
        refine last_ (i := 11) (N := none) #[true, true, true, true, true, true, true, true, true, true, true, true] rfl rfl (by kernel_rfl) (by decide) (fun K hK => ?_)
        refine skip_ (w1 := _) (by rfl) rfl (run_mapUpdate rfl rfl rfl rfl hrun) ?_
        refine hK.out _ _ ?_
        clear hK K
        refine done_ (by kernel_rfl) ?_
        (try simp only [Exit.inBlock, Exit.then])
        go_wp2_with fail
        go_ret
        rw [HR.out]
        exact ⟨rfl, HMO.out, (Mv.of_below (HB5.out.drew)).setBlock (.inl (by simp)) o⟩
end
end Go.Proofs.Ytalmemcidbmdgaa.PM



/- A model (layer 16): mapped: the walk. -/
set_option linter.unusedVariables false
set_option linter.unusedSimpArgs false
namespace Go.Proofs.Ytalmemcidbmdgaa.PM
open Go.RowKit Go.Proofs.YtalmemcidbmdgaaW.PrintWords Go.Proofs.YtalmemcidbmdgaaW.PrintLast Go.Proofs.YtalmemcidbmdgaaW.PrintMore Go.Proofs.Ytalmemcidbmdgaa.PageG
attribute [local go_sem] max2_int min2_int max_two min_two max_three min_three max_four min_four   -- for this text's walks alone
def mapP (s : MS) (o : OpS) : Pg := ⟨o.va, o.size, s.made, o.at_, false, false⟩
def mappedR (s : MS) (o : OpS) : Int × MS :=
  if isAll s.n [o.sp] = true ∧ (0 ≤ o.size ∧ o.size < 4) ∧ o.at_.f4 = false then
    (if (putS s o.sp (mapP s o)).1 = 0 then (0, { (putS s o.sp (mapP s o)).2 with made := s.made + 1 }) else ((putS s o.sp (mapP s o)).1, (putS s o.sp (mapP s o)).2))
  else (1, s)
theorem putS_made (s : MS) (sp : Int) (p : Pg) : (putS s sp p).2.made = s.made ∧ (putS s sp p).2.n = s.n ∧ (putS s sp p).2.by_ = s.by_ := by
  unfold putS
  split
  · exact ⟨rfl, rfl, rfl⟩
  · split
    · exact ⟨rfl, rfl, rfl⟩
    · split
      · exact ⟨rfl, rfl, rfl⟩
      · exact ⟨rfl, rfl, rfl⟩
/-- What an operation is told, and the model behind it. -/
def Rep2 (w : World) (B pm bm : Nat) (r : Int × MS) (e : Ending) (w' : World) : Prop := e = .returned (.agg #[.int .i64 r.1, .int .i64 0, .int .u8 0]) ∧ Mo w' B pm bm r.2 ∧ Mv [B, pm, bm] w w'
section
variable {w w' : World} {B pm bm : Nat} {s : MS}
theorem Rep2.same {r : Int × MS} {n : Int} (h : Mo w B pm bm s) (hb : Below w.heap.size w w') (hr : r = (n, s)) : Rep2 w B pm bm r (.returned (.agg #[.int .i64 n, .int .i64 0, .int .u8 0])) w' := by
  subst hr
  exact ⟨rfl, h.below hb, Mv.of_below hb⟩
theorem Mo.set_made (h : Mo w B pm bm s) (v : Int) : Mo (w.setCell ⟨B, 3, none⟩ (.int .i64 v)) B pm bm { s with made := v } := by
  have hne := h.neB
  have e := setCell_block (cs' := #[.int .i64 s.n, .map (some pm), .map (some bm), .int .i64 v]) h.hb (i := 3) (.int .i64 v) rfl
  rw [e]
  exact ⟨sb_same h.hb _, h.hp.move (sb_other _ hne.1.symm), h.hm.move (sb_other _ hne.2.symm), h.ne⟩
set_option maxHeartbeats 8000000 in
set_option maxRecDepth 100000 in
theorem mapped_calls (h : Mo w B pm bm s) (hw : WfL s.L) (hf : s.L.length ≤ 100000) (o : OpS) (hva : 0 ≤ o.va ∧ o.va < 2 ^ 64) (hn : s.n ≤ 64) (hm0 : 0 ≤ s.made) (hm1 : s.made < 1000000) :
    Calls Try.prog 39 #[.pointer (some ⟨B, 0, none⟩), Value.agg #[.int .i64 o.kind, .int .i64 o.sp, .int .i64 o.ak, .bool o.ap, .int .u64 o.av, .int .u8 o.byte, .int .u64 o.va, .int .i64 o.size, .bool o.at_.f0, .bool o.at_.f1, .bool o.at_.f2, .bool o.at_.f3, .bool o.at_.f4, .bool o.at_.f5, .int .i64 o.other, .int .u64 o.too]] w (Rep2 w B pm bm (mappedR s o)) := by
  have HM := Aside0.mk h
  have HLT := Aside0.mk h.lt
  have HW := Aside0.mk hw
  have HR := Aside0.mk (show mappedR s o = if isAll s.n [o.sp] = true ∧ (0 ≤ o.size ∧ o.size < 4) ∧ o.at_.f4 = false then
    (if (putS s o.sp (mapP s o)).1 = 0 then (0, { (putS s o.sp (mapP s o)).2 with made := s.made + 1 }) else ((putS s o.sp (mapP s o)).1, (putS s o.sp (mapP s o)).2))
  else (1, s) from rfl)
  generalize mappedR s o = res at *
  have HVA := Aside0.mk hva
  clear h hw hva
  obtain ⟨D, hD⟩ : ∃ D, w.heap.size = D := ⟨_, rfl⟩
  go_enter Try.func39, Try.ntmps39
  go_wp2_with fail
  have hk := blk_alloc (blk_alloc (blk_new w (.cells #[.int .i64 o.kind, .int .i64 o.sp, .int .i64 o.ak, .bool o.ap, .int .u64 o.av, .int .u8 o.byte, .int .u64 o.va, .int .i64 o.size, .bool o.at_.f0, .bool o.at_.f1, .bool o.at_.f2, .bool o.at_.f3, .bool o.at_.f4, .bool o.at_.f5, .int .i64 o.other, .int .u64 o.too] 36)) (.cells #[.int .i64 0, .int .i64 0, .int .u8 0] 42)) (.cells #[.int .i64 o.sp] 3)
  have hz := blk_alloc (blk_new (w.alloc (.cells #[.int .i64 o.kind, .int .i64 o.sp, .int .i64 o.ak, .bool o.ap, .int .u64 o.av, .int .u8 o.byte, .int .u64 o.va, .int .i64 o.size, .bool o.at_.f0, .bool o.at_.f1, .bool o.at_.f2, .bool o.at_.f3, .bool o.at_.f4, .bool o.at_.f5, .int .i64 o.other, .int .u64 o.too] 36)) (.cells #[.int .i64 0, .int .i64 0, .int .u8 0] 42)) (.cells #[.int .i64 o.sp] 3)
  have hl := blk_new ((w.alloc (.cells #[.int .i64 o.kind, .int .i64 o.sp, .int .i64 o.ak, .bool o.ap, .int .u64 o.av, .int .u8 o.byte, .int .u64 o.va, .int .i64 o.size, .bool o.at_.f0, .bool o.at_.f1, .bool o.at_.f2, .bool o.at_.f3, .bool o.at_.f4, .bool o.at_.f5, .int .i64 o.other, .int .u64 o.too] 36)).alloc (.cells #[.int .i64 0, .int .i64 0, .int .u8 0] 42)) (.cells #[.int .i64 o.sp] 3)
  have hb : Below w.heap.size w (((w.alloc (.cells #[.int .i64 o.kind, .int .i64 o.sp, .int .i64 o.ak, .bool o.ap, .int .u64 o.av, .int .u8 o.byte, .int .u64 o.va, .int .i64 o.size, .bool o.at_.f0, .bool o.at_.f1, .bool o.at_.f2, .bool o.at_.f3, .bool o.at_.f4, .bool o.at_.f5, .int .i64 o.other, .int .u64 o.too] 36)).alloc (.cells #[.int .i64 0, .int .i64 0, .int .u8 0] 42)).alloc (.cells #[.int .i64 o.sp] 3)) := (((Below.refl _ w).alloc (Nat.le_refl _) _).alloc (by simp) _).alloc (by simp; omega) _
  have hs1 : (w.alloc (.cells #[.int .i64 o.kind, .int .i64 o.sp, .int .i64 o.ak, .bool o.ap, .int .u64 o.av, .int .u8 o.byte, .int .u64 o.va, .int .i64 o.size, .bool o.at_.f0, .bool o.at_.f1, .bool o.at_.f2, .bool o.at_.f3, .bool o.at_.f4, .bool o.at_.f5, .int .i64 o.other, .int .u64 o.too] 36)).heap.size = D + 1 := by simp [hD]
  have hs2 : ((w.alloc (.cells #[.int .i64 o.kind, .int .i64 o.sp, .int .i64 o.ak, .bool o.ap, .int .u64 o.av, .int .u8 o.byte, .int .u64 o.va, .int .i64 o.size, .bool o.at_.f0, .bool o.at_.f1, .bool o.at_.f2, .bool o.at_.f3, .bool o.at_.f4, .bool o.at_.f5, .int .i64 o.other, .int .u64 o.too] 36)).alloc (.cells #[.int .i64 0, .int .i64 0, .int .u8 0] 42)).heap.size = D + 1 + 1 := by simp [hD]
  rw [hD] at hk
  rw [hs1] at hz
  rw [hs2] at hl
  generalize ((w.alloc (.cells #[.int .i64 o.kind, .int .i64 o.sp, .int .i64 o.ak, .bool o.ap, .int .u64 o.av, .int .u8 o.byte, .int .u64 o.va, .int .i64 o.size, .bool o.at_.f0, .bool o.at_.f1, .bool o.at_.f2, .bool o.at_.f3, .bool o.at_.f4, .bool o.at_.f5, .int .i64 o.other, .int .u64 o.too] 36)).alloc (.cells #[.int .i64 0, .int .i64 0, .int .u8 0] 42)).alloc (.cells #[.int .i64 o.sp] 3) = w1 at *
  clear hs1 hs2
  refine (is_calls (HM.out.below hb) [o.sp] (some ⟨D + 1 + 1, 0, none⟩) 1 (c_lit (xs := [o.sp]) hl (by simp)) (by simp)).mono ?_
  rintro e w2 ⟨rfl, rfl⟩
  have hov : o.va = (o.va.toNat : Int) := by have := HVA.out; omega
  obtain ⟨-, o1, -, -, -, -, o6, o7, o8, o9, o10, o11, o12, o13, -, -⟩ := cells16 hk
  have HZ := Aside0.mk hz
  have HB := Aside0.mk hb
  have HK := Aside0.mk hk
  clear hk hz hl hb hov
  generalize hia : isAll s.n [o.sp] = ia at *
  cases ia with
  | false =>
    rw [if_neg (by simp)] at HR
    go_wp2_with fail
    refine (model_told.calls 1 _ _ _ w1 rfl).mono ?_
    rintro e w2z ⟨rfl, hb2⟩
    have hz2 := blk_below HZ.out hb2
    have HB2 := Aside0.mk (below_step HB.out hb2)
    obtain ⟨z0, z1, z2⟩ := cells3 hz2
    have y0 := blk_frozen hz2 0
    have y1 := blk_frozen hz2 1
    have y2 := blk_frozen hz2 2
    clear hb2
    go_wp2_with fail
    rw [set3 hz2]
    refine bodyPost_ret (results_cell_row rfl _ _ (D + 1) 42 _ (0, 0) _ rfl (sb_same hz2 _) Try.underlying42 rfl (by kernel_rfl)) rfl ?_
    exact Rep2.same HM.out (below_sb HB2.out (by omega) _) HR.out
  | true =>
    have HIA := Aside0.mk hia
    clear hia
    have HMY := Aside0.mk (pmay o.size)
    generalize hmy : decide (0 ≤ o.size ∧ o.size < 4) = my at *
    go_wp2_with fail
    refine (page_May.calls o.size my w1 HMY.out).mono ?_
    rintro e w2 ⟨rfl, hd⟩
    have HK2 := Aside0.mk (blk_below HK.out hd.below)
    have HZ2 := Aside0.mk (blk_below HZ.out hd.below)
    have HB2 := Aside0.mk (below_step HB.out hd.below)
    clear hd o1 o6 o7 o8 o9 o10 o11 o12 o13 HB HK HZ
    have HZ := HZ2
    have HB := HB2
    clear HZ2 HB2
    obtain ⟨-, o1, -, -, -, -, o6, o7, o8, o9, o10, o11, o12, o13, -, -⟩ := cells16 HK2.out
    cases my with
    | false =>
      rw [if_neg (by have := of_decide_eq_false hmy; intro h; exact this h.2.1)] at HR
      clear hmy
      go_wp2_with fail
      refine (model_told.calls 1 _ _ _ w2 rfl).mono ?_
      rintro e w2z ⟨rfl, hb2⟩
      have hz2 := blk_below HZ.out hb2
      have HB2 := Aside0.mk (below_step HB.out hb2)
      obtain ⟨z0, z1, z2⟩ := cells3 hz2
      have y0 := blk_frozen hz2 0
      have y1 := blk_frozen hz2 1
      have y2 := blk_frozen hz2 2
      clear hb2
      go_wp2_with fail
      rw [set3 hz2]
      refine bodyPost_ret (results_cell_row rfl _ _ (D + 1) 42 _ (0, 0) _ rfl (sb_same hz2 _) Try.underlying42 rfl (by kernel_rfl)) rfl ?_
      exact Rep2.same HM.out (below_sb HB2.out (by omega) _) HR.out
    | true =>
      have hmz := of_decide_eq_true hmy
      have HMZ := Aside0.mk hmz
      clear hmy hmz
      rcases Bool.eq_false_or_eq_true o.at_.f4 with hag | hag
      · rw [if_neg (by rw [hag]; simp)] at HR
        go_wp2_with fail
        refine (model_told.calls 1 _ _ _ w2 rfl).mono ?_
        rintro e w2z ⟨rfl, hb2⟩
        have hz2 := blk_below HZ.out hb2
        have HB2 := Aside0.mk (below_step HB.out hb2)
        obtain ⟨z0, z1, z2⟩ := cells3 hz2
        have y0 := blk_frozen hz2 0
        have y1 := blk_frozen hz2 1
        have y2 := blk_frozen hz2 2
        clear hb2
        go_wp2_with fail
        rw [set3 hz2]
        refine bodyPost_ret (results_cell_row rfl _ _ (D + 1) 42 _ (0, 0) _ rfl (sb_same hz2 _) Try.underlying42 rfl (by kernel_rfl)) rfl ?_
        exact Rep2.same HM.out (below_sb HB2.out (by omega) _) HR.out
      · rw [if_pos ⟨by trivial, HMZ.out, hag⟩] at HR
        go_upto_region 3 with fail
        clear hag
        have hcv : IntKind.u64.wrap s.made = s.made := by rw [IntKind.wrap_u64]; omega
        have hw2 := (HM.out.below HB.out).below (Below.refl _ w2).drew
        have hoq : OkQ o.sp (mapP s o) := by
          have h1 : ∀ z ∈ [o.sp], 0 ≤ z ∧ z < s.n := by
            have := HIA.out
            unfold isAll at this
            rw [List.all_eq_true] at this
            exact fun z hz => by simpa using this z hz
          have h2 := h1 o.sp (by simp)
          have h3 := HVA.out
          exact ⟨h2.1, by omega, by show o.va = ((o.va.toNat : Nat) : Int); omega, by show o.va.toNat < 2 ^ 64; omega, hm0, hm1⟩
        have HP := Aside0.mk (put_calls hw2 HW.out hf o.sp (mapP s o) hoq)
        have hmd := (putS_made s o.sp (mapP s o)).1
        have HMD := Aside0.mk hmd
        clear hoq hw2 hmd
        have m3 := (HM.out.below HB.out).cells.2.2.2
        generalize putS s o.sp (mapP s o) = r2 at *
        have hnD : D ∉ [B, pm, bm] := fun hm => by have := HLT.out _ hm; omega
        have HND := Aside0.mk hnD
        clear hnD
        refine start_ (n := 17) (S := fun w' => w'.cell? ⟨B, 3, none⟩ = some (.int .i64 s.made) ∧ w'.cell? ⟨D, 1, none⟩ = some (.int .i64 o.sp) ∧ w'.cell? ⟨D, 6, none⟩ = some (.int .u64 o.va) ∧ w'.cell? ⟨D, 7, none⟩ = some (.int .i64 o.size) ∧ w'.cell? ⟨D, 8, none⟩ = some (.bool o.at_.f0) ∧ w'.cell? ⟨D, 9, none⟩ = some (.bool o.at_.f1) ∧ w'.cell? ⟨D, 10, none⟩ = some (.bool o.at_.f2) ∧ w'.cell? ⟨D, 11, none⟩ = some (.bool o.at_.f3) ∧ w'.cell? ⟨D, 12, none⟩ = some (.bool o.at_.f4) ∧ w'.cell? ⟨D, 13, none⟩ = some (.bool o.at_.f5)) (ds := []) #[false, false, false, false, false, false, false, false, false, false, false, false, false, false, false, false, false] (by kernel_rfl) rfl rfl ⟨m3, o1, o6, o7, o8, o9, o10, o11, o12, o13⟩ (fun hHeld => ?_)
        refine pure_ (i := 0) (N := some 24) (v := ?_) (a' := ?_) #[true, false, false, false, false, false, false, false, false, false, false, false, false, false, false, false, false] rfl rfl (by kernel_rfl) (fun _ _ _ h => h) (Or.inl ⟨by rfl, ?_⟩) ?_ ?_
        rotate_left
        · intro w'
          go_simp
          with_reducible rfl
        rotate_left
        · simp only [Act.put, List.setIfInBounds_toArray, List.set_cons_zero, List.set_cons_succ, i64_w, i32_w]
          rfl
        refine pure_ (i := 1) (N := some 25) (v := ?_) (a' := ?_) #[true, true, false, false, false, false, false, false, false, false, false, false, false, false, false, false, false] rfl rfl (by kernel_rfl) (fun _ _ _ h => h) (Or.inl ⟨by rfl, ?_⟩) ?_ ?_
        rotate_left
        · intro w'
          go_simp
          with_reducible rfl
        rotate_left
        · simp only [Act.put, List.setIfInBounds_toArray, List.set_cons_zero, List.set_cons_succ, i64_w, i32_w]
          rfl
        refine pure_ (i := 3) (N := some 27) (v := ?_) (a' := ?_) #[true, true, false, true, false, false, false, false, false, false, false, false, false, false, false, false, false] rfl rfl (by kernel_rfl) (fun _ _ _ h => h) (Or.inl ⟨by rfl, ?_⟩) ?_ ?_
        rotate_left
        · intro w'
          go_simp
          with_reducible rfl
        rotate_left
        · simp only [Act.put, List.setIfInBounds_toArray, List.set_cons_zero, List.set_cons_succ, i64_w, i32_w]
          rfl
        refine pure_ (i := 5) (N := some 29) (v := ?_) (a' := ?_) #[true, true, false, true, false, true, false, false, false, false, false, false, false, false, false, false, false] rfl rfl (by kernel_rfl) (fun _ _ _ h => h) (Or.inl ⟨by rfl, ?_⟩) ?_ ?_
        rotate_left
        · intro w'
          go_simp
          with_reducible rfl
        rotate_left
        · simp only [Act.put, List.setIfInBounds_toArray, List.set_cons_zero, List.set_cons_succ, i64_w, i32_w]
          rfl
        refine pure_ (i := 7) (N := some 31) (v := ?_) (a' := ?_) #[true, true, false, true, false, true, false, true, false, false, false, false, false, false, false, false, false] rfl rfl (by kernel_rfl) (fun _ _ _ h => h) (Or.inl ⟨by rfl, ?_⟩) ?_ ?_
        rotate_left
        · intro w'
          go_simp
          with_reducible rfl
        rotate_left
        · simp only [Act.put, List.setIfInBounds_toArray, List.set_cons_zero, List.set_cons_succ, i64_w, i32_w]
          rfl
        refine pure_ (i := 8) (N := some 32) (v := ?_) (a' := ?_) #[true, true, false, true, false, true, false, true, true, false, false, false, false, false, false, false, false] rfl rfl (by kernel_rfl) (fun _ _ _ h => h) (Or.inl ⟨by rfl, ?_⟩) ?_ ?_
        rotate_left
        · intro w'
          go_simp
          with_reducible rfl
        rotate_left
        · simp only [Act.put, List.setIfInBounds_toArray, List.set_cons_zero, List.set_cons_succ, i64_w, i32_w]
          rfl
        refine pure_ (i := 9) (N := some 33) (v := ?_) (a' := ?_) #[true, true, false, true, false, true, false, true, true, true, false, false, false, false, false, false, false] rfl rfl (by kernel_rfl) (fun _ _ _ h => h) (Or.inl ⟨by rfl, ?_⟩) ?_ ?_
        rotate_left
        · intro w'
          go_simp
          with_reducible rfl
        rotate_left
        · simp only [Act.put, List.setIfInBounds_toArray, List.set_cons_zero, List.set_cons_succ, i64_w, i32_w]
          rfl
        refine pure_ (i := 12) (N := some 36) (v := ?_) (a' := ?_) #[true, true, false, true, false, true, false, true, true, true, false, false, true, false, false, false, false] rfl rfl (by kernel_rfl) (fun _ _ _ h => h) (Or.inl ⟨by rfl, ?_⟩) ?_ ?_
        rotate_left
        · intro w'
          go_simp
          with_reducible rfl
        rotate_left
        · simp only [Act.put, List.setIfInBounds_toArray, List.set_cons_zero, List.set_cons_succ, i64_w, i32_w]
          rfl
        refine take_ (i := 2) (N := some 26) (v := ?_) (a' := ?_) #[true, true, true, true, false, true, false, true, true, true, false, false, true, false, false, false, false] rfl rfl (by kernel_rfl) (fun _ _ _ h => h) (Or.inl ⟨by rfl, ?_⟩) hHeld ?_ ?_
        rotate_left
        · rintro w' ⟨s0, s1, s2, s3, s4, s5, s6, s7, s8, s9⟩
          go_simp
          with_reducible rfl
        rotate_left
        · simp only [Act.put, List.setIfInBounds_toArray, List.set_cons_zero, List.set_cons_succ, i64_w, i32_w]
          rfl
        refine take_ (i := 4) (N := some 28) (v := ?_) (a' := ?_) #[true, true, true, true, true, true, false, true, true, true, false, false, true, false, false, false, false] rfl rfl (by kernel_rfl) (fun _ _ _ h => h) (Or.inl ⟨by rfl, ?_⟩) hHeld ?_ ?_
        rotate_left
        · rintro w' ⟨s0, s1, s2, s3, s4, s5, s6, s7, s8, s9⟩
          go_simp
          with_reducible rfl
        rotate_left
        · simp only [Act.put, List.setIfInBounds_toArray, List.set_cons_zero, List.set_cons_succ, i64_w, i32_w]
          rfl
        refine take_ (i := 6) (N := some 30) (v := ?_) (a' := ?_) #[true, true, true, true, true, true, true, true, true, true, false, false, true, false, false, false, false] rfl rfl (by kernel_rfl) (fun _ _ _ h => h) (Or.inl ⟨by rfl, ?_⟩) hHeld ?_ ?_
        rotate_left
        · rintro w' ⟨s0, s1, s2, s3, s4, s5, s6, s7, s8, s9⟩
          go_simp
          with_reducible rfl
        rotate_left
        · simp only [Act.put, List.setIfInBounds_toArray, List.set_cons_zero, List.set_cons_succ, i64_w, i32_w]
          rfl
        refine take_ (i := 10) (N := some 34) (v := ?_) (a' := ?_) #[true, true, true, true, true, true, true, true, true, true, true, false, true, false, false, false, false] rfl rfl (by kernel_rfl) (fun _ _ _ h => h) (Or.inl ⟨by rfl, ?_⟩) hHeld ?_ ?_
        rotate_left
        · rintro w' ⟨s0, s1, s2, s3, s4, s5, s6, s7, s8, s9⟩
          go_simp
          with_reducible rfl
        rotate_left
        · simp only [Act.put, List.setIfInBounds_toArray, List.set_cons_zero, List.set_cons_succ, i64_w, i32_w]
          rfl
        refine pure_ (i := 11) (N := some 35) (v := ?_) (a' := ?_) #[true, true, true, true, true, true, true, true, true, true, true, true, true, false, false, false, false] rfl rfl (by kernel_rfl) (fun _ _ _ h => h) (Or.inl ⟨by rfl, ?_⟩) ?_ ?_
        rotate_left
        · intro w'
          go_simp
          with_reducible rfl
        rotate_left
        · simp only [Act.put, List.setIfInBounds_toArray, List.set_cons_zero, List.set_cons_succ, i64_w, i32_w]
          rfl
        refine take_ (i := 13) (N := some 37) (v := ?_) (a' := ?_) #[true, true, true, true, true, true, true, true, true, true, true, true, true, true, false, false, false] rfl rfl (by kernel_rfl) (fun _ _ _ h => h) (Or.inl ⟨by rfl, ?_⟩) hHeld ?_ ?_
        rotate_left
        · rintro w' ⟨s0, s1, s2, s3, s4, s5, s6, s7, s8, s9⟩
          go_simp
          with_reducible rfl
        rotate_left
        · simp only [Act.put, List.setIfInBounds_toArray, List.set_cons_zero, List.set_cons_succ, i64_w, i32_w]
          rfl
        refine pure_ (i := 14) (N := some 38) (v := ?_) (a' := ?_) #[true, true, true, true, true, true, true, true, true, true, true, true, true, true, true, false, false] rfl rfl (by kernel_rfl) (fun _ _ _ h => h) (Or.inl ⟨by rfl, ?_⟩) ?_ ?_
        rotate_left
        · intro w'
          go_simp
          with_reducible rfl
        rotate_left
        · simp only [Act.put, List.setIfInBounds_toArray, List.set_cons_zero, List.set_cons_succ, i64_w, i32_w]
          rfl
        refine one_ (i := 15) (N := some 39) #[true, true, true, true, true, true, true, true, true, true, true, true, true, true, true, true, false] rfl rfl (by kernel_rfl) (by decide) (fun K hK => ?_)
        refine goes_ Try.func70 (by kernel_rfl) rfl #[.pointer (some ⟨B, 0, none⟩), .int .i64 o.sp, .agg #[.int .u64 o.va, .int .i64 o.size, .int .u64 s.made, .bool o.at_.f0, .bool o.at_.f1, .bool o.at_.f2, .bool o.at_.f3, .bool o.at_.f4, .bool o.at_.f5, .bool false, .bool false]] (by rfl) rfl rfl (by (try simp only [List.map_toArray, List.map_cons, List.map_nil]); first | done | rfl) ?_
        refine HP.out.mono ?_
        rintro e w4 ⟨rfl, hm4, hv4⟩
        refine ⟨_, rfl, ?_⟩
        have HM4 := Aside0.mk hm4
        have HV4 := Aside0.mk hv4
        have hm3' := hm4.cells.2.2.2
        rw [HMD.out] at hm3'
        have HM3 := Aside0.mk hm3'
        clear hm4 hv4 hm3'
        obtain ⟨t0, t1, t2, t3, t4, t5, t6, t7, t8, t9⟩ := hHeld
        refine hK.out _ _ ⟨HM3.out, HV4.out.cell t1 HND.out, HV4.out.cell t2 HND.out, HV4.out.cell t3 HND.out, HV4.out.cell t4 HND.out, HV4.out.cell t5 HND.out, HV4.out.cell t6 HND.out, HV4.out.cell t7 HND.out, HV4.out.cell t8 HND.out, HV4.out.cell t9 HND.out⟩ (fun hHeld => ?_)
        clear hK K
        refine norm_ (a' := ?_) ?_ ?_
        rotate_left
        · show Act.put _ (some 39) _ = _
          simp only [Act.put, List.setIfInBounds_toArray, List.set_cons_zero, List.set_cons_succ, i64_w, i32_w]
          rfl
        refine pure_ (i := 16) (N := some 5) (v := ?_) (a' := ?_) #[true, true, true, true, true, true, true, true, true, true, true, true, true, true, true, true, true] rfl rfl (by kernel_rfl) (fun _ _ _ h => h) (Or.inl ⟨by rfl, ?_⟩) ?_ ?_
        rotate_left
        · intro w'
          go_simp
          with_reducible rfl
        rotate_left
        · simp only [Act.put, List.setIfInBounds_toArray, List.set_cons_zero, List.set_cons_succ, i64_w, i32_w]
          rfl
        refine done_ (by kernel_rfl) ?_
        (try simp only [Exit.inBlock, Exit.then])
        clear t0 t1 t2 t3 t4 t5 t6 t7 t8 t9 hHeld o1 o6 o7 o8 o9 o10 o11 o12 o13 m3 hcv HP
        have hnZ : D + 1 ∉ [B, pm, bm] := fun hm => by have := HLT.out _ hm; omega
        have hz4 : w4.heap[D + 1]? = some (.cells #[.int .i64 0, .int .i64 0, .int .u8 0] 42 (0, 0)) := (HV4.out.block _ (blk_lt HZ.out) hnZ).trans HZ.out
        have hnB : D + 1 ≠ B := fun e => hnZ (by rw [e]; simp)
        have HVV := Aside0.mk ((Mv.of_below HB.out.drew).then HV4.out)
        have HNZ := Aside0.mk hnZ
        have HZ4 := Aside0.mk hz4
        clear hz4 hnZ
        by_cases hr : r2.1 = 0
        · rw [if_pos hr] at HR
          have hb1 : (r2.1 == 0) = true := beq_iff_eq.2 hr
          have hwm : wrap64 (s.made + 1) = s.made + 1 := by unfold wrap64; omega
          have m3 := HM3.out
          have m3f := blk_frozen HM4.out.hb 3
          have hm5 := HM4.out.set_made (s.made + 1)
          have hv5 := HVV.out.set (p := ⟨B, 3, none⟩) (.inl (by simp)) (.int .i64 (s.made + 1))
          have hz5 := (Below.heap_setCell w4 ⟨B, 3, none⟩ (.int .i64 (s.made + 1)) (D + 1) hnB).trans HZ4.out
          have HM5 := Aside0.mk hm5
          have HV5 := Aside0.mk hv5
          have HZ5 := Aside0.mk hz5
          have HRR := Aside0.mk hr
          clear hm5 hv5 hz5 HZ4 HM4 HV4 HVV hr
          go_wp2_with fail
          generalize w4.setCell ⟨B, 3, none⟩ (.int .i64 (s.made + 1)) = w5 at *
          refine (model_told.calls r2.1 _ _ _ w5 rfl).mono ?_
          rintro e w6 ⟨rfl, hb6⟩
          have hz6 := blk_below HZ5.out hb6
          have HM6 := Aside0.mk (HM5.out.below hb6)
          have HV6 := Aside0.mk (HV5.out.trans (S' := []) (Mv.of_below hb6) (fun _ hk => by simp at hk))
          obtain ⟨z0, z1, z2⟩ := cells3 hz6
          have y0 := blk_frozen hz6 0
          have y1 := blk_frozen hz6 1
          have y2 := blk_frozen hz6 2
          clear hb6
          go_wp2_with fail
          rw [set3 hz6]
          refine bodyPost_ret (results_cell_row rfl _ _ (D + 1) 42 _ (0, 0) _ rfl (sb_same hz6 _) Try.underlying42 rfl (by kernel_rfl)) rfl ?_
          rw [HR.out]
          exact ⟨by rw [HRR.out], HM6.out.move (fun k hk => sb_other _ (fun e => HNZ.out (e ▸ hk))), HV6.out.setBlock (.inr (by omega)) _⟩
        · rw [if_neg hr] at HR
          have hb1 : (r2.1 == 0) = false := beq_eq_false_iff_ne.2 hr
          have HRR := Aside0.mk hr
          clear hr
          go_wp2_with fail
          refine (model_told.calls r2.1 _ _ _ w4 rfl).mono ?_
          rintro e w6 ⟨rfl, hb6⟩
          have hz6 := blk_below HZ4.out hb6
          have HM6 := Aside0.mk (HM4.out.below hb6)
          have HV6 := Aside0.mk (HVV.out.trans (S' := []) (Mv.of_below hb6) (fun _ hk => by simp at hk))
          obtain ⟨z0, z1, z2⟩ := cells3 hz6
          have y0 := blk_frozen hz6 0
          have y1 := blk_frozen hz6 1
          have y2 := blk_frozen hz6 2
          clear hb6
          go_wp2_with fail
          rw [set3 hz6]
          refine bodyPost_ret (results_cell_row rfl _ _ (D + 1) 42 _ (0, 0) _ rfl (sb_same hz6 _) Try.underlying42 rfl (by kernel_rfl)) rfl ?_
          rw [HR.out]
          exact ⟨rfl, HM6.out.move (fun k hk => sb_other _ (fun e => HNZ.out (e ▸ hk))), HV6.out.setBlock (.inr (by omega)) _⟩
end
end Go.Proofs.Ytalmemcidbmdgaa.PM



/- A model (layer 16): destroy: plain, and the walk. -/
set_option linter.unusedVariables false
set_option linter.unusedSimpArgs false
namespace Go.Proofs.Ytalmemcidbmdgaa.PM
open Go.RowKit Go.Proofs.YtalmemcidbmdgaaW.PrintWords Go.Proofs.YtalmemcidbmdgaaW.PrintLast Go.Proofs.YtalmemcidbmdgaaW.PrintMore Go.Proofs.Ytalmemcidbmdgaa.PageG
attribute [local go_sem] max2_int min2_int max_two min_two max_three min_three max_four min_four   -- for this text's walks alone
/-- What is left when the pages l.take j of a space are gone. -/
structure DS (s : MS) (sp : Int) (l : List Pg) (j : Nat) (t : MS) : Prop where
  n : t.n = s.n
  made : t.made = s.made
  rest : (l.drop j).Perm (sel sp t.L)
  keep : t.L.filter (fun y => !(y.f0 == sp)) = s.L.filter (fun y => !(y.f0 == sp))
  wf : WfL t.L
  sub : t.L.Sublist s.L
  by_ : ∀ r o, getB t.by_ r o = if (∃ x ∈ s.L, x.f0 = sp ∧ x.f1.f2 = r) ∧ winN t.L r = 0 then 0 else getB s.by_ r o
  bsub : ∀ b ∈ t.by_, b ∈ s.by_
theorem erase_perm {α : Type} {L : List α} {i : Nat} (h : i < L.length) : L.Perm (L[i] :: L.eraseIdx i) := by
  have hs : L = L.take i ++ L[i] :: L.drop (i + 1) := by
    rw [← List.drop_eq_getElem_cons h, List.take_append_drop]
  rw [List.eraseIdx_eq_take_drop_succ]
  conv => lhs; rw [hs]
  exact List.perm_middle
theorem winN_pos {L : List Ent} {x : Ent} (h : x ∈ L) : winN L x.f1.f2 ≠ 0 := by
  unfold winN
  have := List.countP_pos_iff (p := fun y : Ent => y.f1.f2 == x.f1.f2) (l := L) |>.2 ⟨x, h, by simp⟩
  omega
theorem winN_erase {L : List Ent} {i : Nat} {x : Ent} (h : L[i]? = some x) (r : Int) : winN L r = winN (L.eraseIdx i) r + if x.f1.f2 = r then 1 else 0 := by
  obtain ⟨hlt, he⟩ := List.getElem?_eq_some_iff.1 h
  have hp := erase_perm hlt
  rw [he] at hp
  unfold winN
  rw [hp.countP_eq]
  rw [List.countP_cons]
  by_cases e : x.f1.f2 = r <;> simp [e]
theorem DS.start {s : MS} {sp : Int} {l : List Pg} (hw : WfL s.L) (hp : l.Perm (sel sp s.L)) : DS s sp l 0 s := by
  refine ⟨rfl, rfl, by simpa using hp, rfl, hw, List.Sublist.refl _, fun r o => ?_, fun b hb => hb⟩
  rw [if_neg]
  rintro ⟨⟨x, hx, -, rfl⟩, h0⟩
  exact winN_pos hx h0
theorem DS.next {s t : MS} {sp : Int} {l : List Pg} {j : Nat} {p : Pg} (h : DS s sp l j t) (hj : l[j]? = some p) :
    ∃ i x, t.L[i]? = some x ∧ x.f0 = sp ∧ x.f1 = p ∧ DS s sp l (j + 1) (dropS t i x) := by
  obtain ⟨hlt, hje⟩ := List.getElem?_eq_some_iff.1 hj
  have hd : l.drop j = p :: l.drop (j + 1) := by rw [← hje]; exact List.drop_eq_getElem_cons hlt
  have hm : p ∈ sel sp t.L := h.rest.mem_iff.1 (by rw [hd]; simp)
  unfold sel at hm
  obtain ⟨x, hx, hxp⟩ := List.mem_map.1 hm
  obtain ⟨hx1, hx2⟩ := List.mem_filter.1 hx
  obtain ⟨i, hi, hix⟩ := List.mem_iff_getElem.1 hx1
  have hi2 : t.L[i]? = some x := by rw [List.getElem?_eq_getElem hi, hix]
  have hxs : x.f0 = sp := by simpa using hx2
  have hp := erase_perm hi
  rw [hix] at hp
  refine ⟨i, x, hi2, hxs, hxp, ⟨h.n, h.made, ?_, ?_, h.wf.erase i, (List.eraseIdx_sublist _ _).trans h.sub, fun r o => ?_, fun b hb => ?_⟩⟩
  · have h1 := h.rest
    rw [hd] at h1
    have h2 := sel_perm hp sp
    have h3 : sel sp (x :: t.L.eraseIdx i) = p :: sel sp (t.L.eraseIdx i) := by
      unfold sel
      simp [hxs, hxp]
    rw [h3] at h2
    exact (List.perm_cons p).1 (h1.trans h2)
  · rw [← h.keep]
    show (t.L.eraseIdx i).filter _ = _
    have hs : t.L = t.L.take i ++ x :: t.L.drop (i + 1) := by
      rw [← hix, ← List.drop_eq_getElem_cons hi, List.take_append_drop]
    rw [List.eraseIdx_eq_take_drop_succ]
    conv => rhs; rw [hs]
    simp [List.filter_append, hxs]
  · have hwe := winN_erase hi2 r
    have hb := h.by_ r o
    have hxm : x ∈ s.L := h.sub.subset hx1
    show getB (if winN (t.L.eraseIdx i) x.f1.f2 = 0 then cutB t.by_ x.f1.f2 else t.by_) r o = _
    show _ = if (∃ x ∈ s.L, x.f0 = sp ∧ x.f1.f2 = r) ∧ winN (t.L.eraseIdx i) r = 0 then 0 else getB s.by_ r o
    by_cases hr : x.f1.f2 = r
    · rw [if_pos hr] at hwe
      subst hr
      by_cases h0 : winN (t.L.eraseIdx i) x.f1.f2 = 0
      · rw [if_pos h0, if_pos ⟨⟨x, hxm, hxs, rfl⟩, h0⟩, getB_cut, if_pos rfl]
      · rw [if_neg h0, if_neg (fun h => h0 h.2), hb, if_neg (fun h => by omega)]
    · rw [if_neg hr] at hwe
      rw [show winN (t.L.eraseIdx i) r = winN t.L r by omega, ← hb]
      split
      · rw [getB_cut, if_neg (fun e => hr e.symm)]
      · rfl
  · have hb' : b ∈ (if winN (t.L.eraseIdx i) x.f1.f2 = 0 then cutB t.by_ x.f1.f2 else t.by_) := hb
    split at hb'
    · exact h.bsub b (List.mem_filter.1 hb').1
    · exact h.bsub b hb'
/-- What destroy leaves. -/
structure Gone (s : MS) (sp : Int) (t : MS) : Prop where
  n : t.n = s.n
  made : t.made = s.made
  L : t.L = s.L.filter (fun y => !(y.f0 == sp))
  by_ : ∀ r o, getB t.by_ r o = if (∃ x ∈ s.L, x.f0 = sp ∧ x.f1.f2 = r) ∧ winN t.L r = 0 then 0 else getB s.by_ r o
  bsub : ∀ b ∈ t.by_, b ∈ s.by_
theorem DS.end {s t : MS} {sp : Int} {l : List Pg} (h : DS s sp l l.length t) : Gone s sp t := by
  refine ⟨h.n, h.made, ?_, h.by_, h.bsub⟩
  have h1 := h.rest
  rw [List.drop_length] at h1
  have h2 : sel sp t.L = [] := h1.symm.eq_nil
  rw [← h.keep]
  refine (List.filter_eq_self.2 (fun y hy => ?_)).symm
  unfold sel at h2
  rw [List.map_eq_nil_iff, List.filter_eq_nil_iff] at h2
  simpa using h2 y hy
end Go.Proofs.Ytalmemcidbmdgaa.PM


