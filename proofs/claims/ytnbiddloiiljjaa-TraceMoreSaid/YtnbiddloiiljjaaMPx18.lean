-- written by a program of this session (wip/tools/mprint.sh) for this seat
import Derived.Test.YtnbiddloiiljjaaMPx0
import Derived.Test.YtnbiddloiiljjaaMPx3
import Derived.Test.YtnbiddloiiljjaaMPx17
import Derived.Shelf.Spec.SlicesInsertGrow
namespace Go.Proofs.Ytnbiddloiiljjaa.MP
open Go.RowKit Go.Proofs.YtnbiddloiiljjaaW.PrintWords Go.Proofs.YtnbiddloiiljjaaW.PrintLast Go.Proofs.YtnbiddloiiljjaaW.PrintMore
attribute [local go_sem] max2_int min2_int max_two min_two max_three min_three max_four min_four   -- for this text's walks alone
set_option linter.unusedVariables false
set_option linter.unusedSimpArgs false

/-! ### leaf_With: function 25 -/
theorem heap_setCells (b : Nat) (t : TypeId) : ∀ (vs : List Value) (o : Nat) (w : World) (cs : Array Value), w.heap[b]? = some (.cells cs t (0, 0)) → o + vs.length ≤ cs.size →
    ∃ cs' : Array Value, (w.setCells b o vs).heap[b]? = some (.cells cs' t (0, 0)) ∧ cs'.size = cs.size ∧ cs'.toList = cs.toList.take o ++ vs ++ cs.toList.drop (o + vs.length)
  | [], o, w, cs, h, _ => ⟨cs, h, rfl, by simp⟩
  | v :: r, o, w, cs, h, hl => by
    have hl' : o + (r.length + 1) ≤ cs.size := hl
    have h1 : (w.setCell ⟨b, o, none⟩ v).heap[b]? = some (.cells (cs.setIfInBounds o v) t (0, 0)) := by
      simp [World.setCell, Array.getElem?_modify, h]
    obtain ⟨cs', h2, hs, e⟩ := heap_setCells b t r (o + 1) _ _ h1 (by simp; omega)
    refine ⟨cs', h2, by rw [hs]; simp, ?_⟩
    have hlen : o < cs.toList.length := by simp; omega
    rw [e, Array.toList_setIfInBounds, List.set_eq_take_append_cons_drop, if_pos hlen]
    have l1 : (cs.toList.take o).length = o := by rw [List.length_take]; omega
    have e1 : List.take (o + 1) (cs.toList.take o) = cs.toList.take o := List.take_of_length_le (by omega)
    have e2 : List.drop (o + 1 + r.length) (cs.toList.take o) = [] := List.drop_of_length_le (by omega)
    rw [List.take_append, List.drop_append, l1, e1, e2, show o + 1 - o = 1 by omega, show o + 1 + r.length - o = r.length + 1 by omega, List.drop_succ_cons, List.drop_drop, List.length_cons, show o + 1 + r.length = o + (r.length + 1) by omega]
    simp
theorem cell_at {w : World} {b : Nat} {cs : Array Value} {t : TypeId} {z : Nat × Nat} (h : w.heap[b]? = some (.cells cs t z)) (j : Nat) : w.cell? ⟨b, j, none⟩ = cs[j]? := by
  simp [World.cell?, h]
theorem frozen_at {w : World} {b : Nat} {cs : Array Value} {t : TypeId} (h : w.heap[b]? = some (.cells cs t (0, 0))) (j : Nat) : w.frozen? ⟨b, j, none⟩ = false := by
  simp [World.frozen?, h]
theorem shape_at {w : World} {b : Nat} {cs : Array Value} {t : TypeId} {z : Nat × Nat} (h : w.heap[b]? = some (.cells cs t z)) : w.shape? b = some (t, cs.size) := by
  simp [World.shape?, h]
theorem encs_take (xs : List Int) (n : Nat) : encs (Value.int .u64) (xs.take n) = (encs (Value.int .u64) xs).take n := by simp [encs]
theorem encs_drop (xs : List Int) (n : Nat) : encs (Value.int .u64) (xs.drop n) = (encs (Value.int .u64) xs).drop n := by simp [encs]
theorem encs_len (xs : List Int) : (encs (Value.int .u64) xs).length = xs.length := by simp [encs]
theorem cur_at {cur : Array Value} {xs : List Int} (ht : cur.toList.take xs.length = encs (Value.int .u64) xs) {j : Nat} {v : Value} (h : (encs (Value.int .u64) xs)[j]? = some v) : cur[j]? = some v := by
  rw [← ht, List.getElem?_take] at h
  split at h
  · simpa using h
  · cases h
/-- The row that a slot was made in, as a row that is owned. -/
theorem R_lit {w : World} {base g cap : Nat} {e : TypeId} {cur : Array Value} {xs : List Int} {ok : Nat → Prop} (hb : base ≤ g) (hh : w.heap[g]? = some (.cells cur e (0, 0))) (hn : xs.length ≤ cap) (hc : cap ≤ maxLen) (hs : cur.size = cap) (ht : cur.toList.take xs.length = encs (Value.int .u64) xs) (hok : ok g) :
    Kd.R (Kd.int .u64) e w base ok (.slice (some ⟨g, 0, none⟩) xs.length cap) xs :=
  Kd.R_of_own (enc := Value.int .u64) (h1 := fun _ => rfl) ⟨by simp [encs], .inr ⟨g, cap, cur, rfl, hb, hh, hn, hc, by omega, by rw [Nat.mul_one]; exact ht⟩⟩ (fun k hk => by simp [Value.ownBlock] at hk; subst hk; exact hok)
set_option maxHeartbeats 8000000 in
set_option maxRecDepth 100000 in
/-- slices.Insert of one number ahead of the end, with room. -/
theorem Insert_room (w : World) (g cap i vb : Nat) (cur : Array Value) (xs : List Int) (x : Int) (hi : i < xs.length) (hroom : xs.length + 1 ≤ cap) (hc : cap ≤ maxLen) (hvb : vb ≠ g)
    (hh : w.heap[g]? = some (.cells cur 22 (0, 0))) (hs : cur.size = cap) (ht : cur.toList.take xs.length = encs (Value.int .u64) xs) (hv : w.heap[vb]? = some (.cells #[.int .u64 x] 22 (0, 0))) :
    Calls Try.prog 55 #[.slice (some ⟨g, 0, none⟩) xs.length cap, .int .i64 i, .slice (some ⟨vb, 0, none⟩) 1 1] w fun e w' =>
      e = .returned (.slice (some ⟨g, 0, none⟩) (xs.length + 1) cap) ∧ w' = (w.drew.setCells g (i + 1) ((encs (Value.int .u64) xs).drop i)).setCells g i [.int .u64 x] := by
  have hc63 : cap ≤ 9223372036854775807 := by simp only [maxLen] at hc; omega
  have hdl : ((encs (Value.int .u64) xs).drop i).length = xs.length - i := by simp [encs]
  have hov : ∀ lb cb, (callFunc 77 #[.slice (some ⟨vb, 0, none⟩) 1 1, .slice (some ⟨g, i + 1, none⟩) lb cb]).run Try.prog w = .ok (.value (.bool false)) w := fun lb cb => by
    rw [run_callFunc_extern Try.func77 (by kernel_rfl) (by kernel_rfl) (by kernel_rfl) (e := Extern.SlicesOverlaps.overlaps #[39, 39] #[4]) (by kernel_rfl),
      Lib.run_overlaps_apart w 39 4 22 Try.underlying39 1 (fun _ => by kernel_rfl) ⟨vb, 0, none⟩ ⟨g, i + 1, none⟩ 1 1 lb cb hvb 22 22 1 cur.size (by rw [shape_at hv]; rfl) (shape_at hh) (by omega) (frozen_at hv 0) (frozen_at hv 1)]
    rfl
  have hf : ∀ j, w.frozen? ⟨g, j, none⟩ = false := frozen_at hh
  have hce : ∀ j, w.cell? ⟨g, j, none⟩ = cur[j]? := cell_at hh
  have hcv : w.cell? ⟨vb, 0, none⟩ = some (.int .u64 x) := by rw [cell_at hv]; rfl
  have hcp1 : ∀ ty dc sc, (Builtin.copy_ #[39, 39] ty #[.slice (some ⟨g, i + 1, none⟩) (xs.length - i) dc, .slice (some ⟨g, i, none⟩) (xs.length + 1 - i) sc]).run Try.prog w.drew = .ok (goInt ((encs (Value.int .u64) xs).drop i).length) (w.drew.setCells g (i + 1) ((encs (Value.int .u64) xs).drop i)) := fun ty dc sc =>
    run_copy_cells w.drew 39 39 ty 22 g (i + 1) (xs.length - i) dc ⟨g, i, none⟩ (xs.length + 1 - i) sc ((encs (Value.int .u64) xs).drop i) Try.underlying39 (by kernel_rfl) (by rw [hdl]; simp only [Nat.min_def]; split <;> omega)
      (fun j v hj => by
        show w.cell? _ = _
        rw [List.getElem?_drop] at hj
        rw [Addr.add_lit, hce]
        exact cur_at ht hj)
      (fun j hj => by
        show (w.cell? _).isSome = true
        rw [hce, Array.getElem?_eq_getElem (by omega)]; rfl)
      (fun j hj => hf _) (fun v hv => by
        have := List.mem_of_mem_drop hv
        simp only [encs, List.mem_map] at this
        obtain ⟨y, _, rfl⟩ := this; rfl)
  obtain ⟨W1, hW1⟩ : ∃ W1, W1 = w.drew.setCells g (i + 1) ((encs (Value.int .u64) xs).drop i) := ⟨_, rfl⟩
  obtain ⟨cs1, hcs1, hz1, _⟩ := heap_setCells g 22 ((encs (Value.int .u64) xs).drop i) (i + 1) w.drew cur hh (by rw [hdl]; omega)
  rw [← hW1] at hcs1
  have hcp2 : ∀ (W : World), (∀ q, W.cell? q = W1.cell? q) → (∀ q, W.frozen? q = W1.frozen? q) → ∀ ty dc, (Builtin.copy_ #[39, 39] ty #[.slice (some ⟨g, i, none⟩) (xs.length + 1 - i) dc, .slice (some ⟨vb, 0, none⟩) 1 1]).run Try.prog W = .ok (goInt ([.int .u64 x] : List Value).length) (W.setCells g i [.int .u64 x]) := fun W hWc hWf ty dc =>
    run_copy_cells W 39 39 ty 22 g i (xs.length + 1 - i) dc ⟨vb, 0, none⟩ 1 1 [.int .u64 x] Try.underlying39 (by kernel_rfl) (by simp only [Nat.min_def, List.length_cons, List.length_nil]; split <;> omega)
      (fun j v hj => by
        cases j with
        | zero =>
          rw [Addr.add_lit, hWc, hW1, World.cell?_setCells_out g _ _ _ _ (fun h _ => absurd h hvb)]
          have : (some (Value.int .u64 x)) = some v := hj
          rw [← this]; exact hcv
        | succ j => simp at hj)
      (fun j hj => by
        rw [hWc, cell_at hcs1, Array.getElem?_eq_getElem (by simp at hj; omega)]; rfl)
      (fun j hj => by rw [hWf]; exact frozen_at hcs1 _) (fun v hv => by simp at hv; subst hv; rfl)
  rw [← hW1] at hcp1
  have hw1 : IntKind.i64.wrap ((i : Int) + 1) = (i : Int) + 1 := by rw [IntKind.wrap_i64]; omega
  have hw2 : IntKind.i64.wrap ((xs.length : Int) + 1) = (xs.length : Int) + 1 := by rw [IntKind.wrap_i64]; omega
  have hz2 : ¬ ((i : Int) = (xs.length : Int)) := by omega
  have hb1 : (0 : Int) ≤ (i : Int) + 1 := by omega
  have hin : i ≤ xs.length := by omega
  have htn : ((i : Int) + 1).toNat = i + 1 := by omega
  have htn2 : ((xs.length : Int) + 1).toNat = xs.length + 1 := by omega
  have hb2 : ¬ (cap = i + 1) := by omega
  have hb3 : (i : Int) ≤ (xs.length : Int) + 1 := by omega
  have hb4 : ¬ (cap = i) := by omega
  have hb5 : ¬ ((cap : Int) < (xs.length : Int) + 1) := by omega
  have hb6 : xs.length + 1 ≤ cap := hroom
  have mixed : Try.prog.follows .mixedOrders = true := by kernel_rfl
  generalize xs.length = n at *
  go_enter Try.func55, Try.ntmps55
  go_wp2_with (simp only [hov])
  go_region_law_o (refine step_copy_runI rfl _ _ 39 39 rfl _ _ (by simp [Act.eval, Act.put]) (by simp [Act.eval, Act.put]) (hcp1 _ _ _) ?_)
  go_wp2_with (at_builtin; refine wpList_copy_runI _ rfl _ _ 39 39 rfl _ _ rfl rfl (hcp2 _ (fun _ => rfl) (fun _ => rfl) _ _) ?_)
  go_ret
  first | exact ⟨rfl, rfl⟩ | exact ⟨rfl, by rw [hW1]⟩
set_option maxHeartbeats 8000000 in
set_option maxRecDepth 100000 in
/-- .. without room: a new row. -/
theorem Insert_grow (w : World) (g i vb : Nat) (cur : Array Value) (xs : List Int) (x : Int) (hi : i < xs.length) (hbig : (xs.length + 1) * 8 ≤ 140737488355328) (hvb : vb ≠ g)
    (hh : w.heap[g]? = some (.cells cur 22 (0, 0))) (hs : cur.size = xs.length) (ht : cur.toList.take xs.length = encs (Value.int .u64) xs) (hv : w.heap[vb]? = some (.cells #[.int .u64 x] 22 (0, 0))) :
    Calls Try.prog 55 #[.slice (some ⟨g, 0, none⟩) xs.length xs.length, .int .i64 i, .slice (some ⟨vb, 0, none⟩) 1 1] w fun e w' =>
      ∃ (G : Nat) (ROW : Array Value), e = .returned (.slice (some ⟨w.heap.size, 0, none⟩) (xs.length + 1) G) ∧ xs.length + 1 ≤ G ∧ G ≤ maxLen ∧ ROW.size = G ∧ ROW.toList.take i = (encs (Value.int .u64) xs).take i ∧
      w' = (((w.alloc (.cells ROW 22)).drew.setCells w.heap.size i [.int .u64 x]).drew).setCells w.heap.size (i + 1) ((encs (Value.int .u64) xs).drop i) := by
  obtain ⟨i0, hi0, hz0, hzs, hzb⟩ := info_parts info22
  have hdl : ((encs (Value.int .u64) xs).drop i).length = xs.length - i := by simp [encs]
  have hgw : g < w.heap.size := (Array.getElem?_eq_some_iff.1 hh).1
  have hvw : vb < w.heap.size := (Array.getElem?_eq_some_iff.1 hv).1
  have hce : ∀ j, w.cell? ⟨g, j, none⟩ = cur[j]? := cell_at hh
  have hcv : w.cell? ⟨vb, 0, none⟩ = some (.int .u64 x) := by rw [cell_at hv]; rfl
  have hold : (Builtin.firstCells i0.size i (.slice (some ⟨g, 0, none⟩) i xs.length)).run Try.prog w.drew = .ok ((encs (Value.int .u64) xs).take i).toArray w.drew := by
    rw [hzs]
    exact run_firstCells_some w.drew 1 i ⟨g, 0, none⟩ i xs.length ((encs (Value.int .u64) xs).take i) (by simp [encs]; omega) (fun j v hj => by
      show w.cell? _ = _
      rw [Addr.add_lit, hce, Nat.zero_add]
      rw [List.getElem?_take] at hj
      split at hj
      · exact cur_at ht hj
      · cases hj)
  have hkk : (xs.length : Int) + 1 - (i : Int) = ((xs.length + 1 - i : Nat) : Int) := by omega
  have hrz : ∀ ty, (Builtin.append_ #[39, 3] ty #[.slice (some ⟨g, 0, none⟩) i xs.length, .int .i64 ((xs.length : Int) + 1 - (i : Int))]).run Try.prog w =
      .ok (.slice (some ⟨w.heap.size, 0, none⟩) (xs.length + 1) (grownCap w (xs.length + 1) xs.length 22)) (w.drew.alloc (.cells (((encs (Value.int .u64) xs).take i).toArray ++ Builtin.zeroCells (Value.int .u64 0).cells (xs.length + 1 - i) ++ Builtin.zeroCells (Value.int .u64 0).cells (grownCap w (xs.length + 1) xs.length 22 - (xs.length + 1))) 22)) := fun ty => by
    have h := Lib.run_append_grow_zeros w 39 3 ty 22 i0 _ .i64 .i64 Try.underlying39 Try.underlying3 hi0 hz0 (some ⟨g, 0, none⟩) i xs.length ((encs (Value.int .u64) xs).take i) hold (xs.length + 1 - i) (by omega) (by omega) (by omega) (by omega) (by rw [hzb]; omega) (by rw [hzb, show i + (xs.length + 1 - i) = xs.length + 1 by omega]; exact growslice_fits (by omega) hbig)
    rw [show i + (xs.length + 1 - i) = xs.length + 1 by omega] at h
    rw [hkk]
    exact h
  obtain ⟨G, hG⟩ : ∃ G, G = grownCap w (xs.length + 1) xs.length 22 := ⟨_, rfl⟩
  obtain ⟨ROW, hROW⟩ : ∃ ROW : Array Value, ROW = ((encs (Value.int .u64) xs).take i).toArray ++ Builtin.zeroCells (Value.int .u64 0).cells (xs.length + 1 - i) ++ Builtin.zeroCells (Value.int .u64 0).cells (G - (xs.length + 1)) := ⟨_, rfl⟩
  rw [← hG, ← hROW] at hrz
  have hGn : xs.length + 1 ≤ G := by rw [hG]; exact grownCap_ge w _ _ _
  have hGm : G ≤ maxLen := by rw [hG]; exact grownCap_le_maxLen w (xs.length + 1) xs.length 22 (by unfold maxLen; omega)
  have hG63 : G ≤ 9223372036854775807 := by have := hGm; unfold maxLen at this; omega
  have hRs : ROW.size = G := by
    rw [hROW]
    simp [Builtin.zeroCells, Value.cells, encs]
    omega
  have hRt : ROW.toList.take i = (encs (Value.int .u64) xs).take i := by
    rw [hROW]
    simp only [Array.toList_append]
    rw [List.append_assoc, List.take_append_of_le_length (by simp [encs]; omega)]
    show List.take i (List.take i _) = _
    rw [List.take_take, Nat.min_self]
  obtain ⟨W1, hW1⟩ : ∃ W1, W1 = w.drew.alloc (.cells ROW 22) := ⟨_, rfl⟩
  rw [← hW1] at hrz
  have hR1 : W1.heap[w.heap.size]? = some (.cells ROW 22 (0, 0)) := by rw [hW1]; show (w.heap.push _)[w.heap.size]? = _; rw [Array.getElem?_push_size]
  have hO1 : ∀ b j, b < w.heap.size → W1.cell? ⟨b, j, none⟩ = w.cell? ⟨b, j, none⟩ := fun b j hb => by rw [hW1, World.cell?_alloc_past (w := w.drew) _ b j hb]; rfl
  have hcpA : ∀ (W : World), (∀ q, W.cell? q = W1.cell? q) → (∀ q, W.frozen? q = W1.frozen? q) → ∀ ty dc, (Builtin.copy_ #[39, 39] ty #[.slice (some ⟨w.heap.size, i, none⟩) (xs.length + 1 - i) dc, .slice (some ⟨vb, 0, none⟩) 1 1]).run Try.prog W = .ok (goInt ([.int .u64 x] : List Value).length) (W.setCells w.heap.size i [.int .u64 x]) := fun W hWc hWf ty dc =>
    run_copy_cells W 39 39 ty 22 w.heap.size i (xs.length + 1 - i) dc ⟨vb, 0, none⟩ 1 1 [.int .u64 x] Try.underlying39 (by kernel_rfl) (by simp only [Nat.min_def, List.length_cons, List.length_nil]; split <;> omega)
      (fun j v hj => by
        cases j with
        | zero =>
          rw [Addr.add_lit, hWc, hO1 _ _ hvw]
          have : (some (Value.int .u64 x)) = some v := hj
          rw [← this]; exact hcv
        | succ j => simp at hj)
      (fun j hj => by
        rw [hWc, cell_at hR1, Array.getElem?_eq_getElem (by simp at hj; omega)]; rfl)
      (fun j hj => by rw [hWf]; exact frozen_at hR1 _) (fun v hv => by simp at hv; subst hv; rfl)
  obtain ⟨W2, hW2⟩ : ∃ W2, W2 = W1.setCells w.heap.size i [.int .u64 x] := ⟨_, rfl⟩
  obtain ⟨cs2, hcs2, hz2', _⟩ := heap_setCells w.heap.size 22 [.int .u64 x] i W1 ROW hR1 (by simp; omega)
  rw [← hW2] at hcs2
  have hcpB : ∀ (W : World), (∀ q, W.cell? q = W2.cell? q) → (∀ q, W.frozen? q = W2.frozen? q) → ∀ ty dc sc, (Builtin.copy_ #[39, 39] ty #[.slice (some ⟨w.heap.size, i + 1, none⟩) (xs.length - i) dc, .slice (some ⟨g, i, none⟩) (xs.length - i) sc]).run Try.prog W = .ok (goInt ((encs (Value.int .u64) xs).drop i).length) (W.setCells w.heap.size (i + 1) ((encs (Value.int .u64) xs).drop i)) := fun W hWc hWf ty dc sc =>
    run_copy_cells W 39 39 ty 22 w.heap.size (i + 1) (xs.length - i) dc ⟨g, i, none⟩ (xs.length - i) sc ((encs (Value.int .u64) xs).drop i) Try.underlying39 (by kernel_rfl) (by rw [hdl]; simp only [Nat.min_def]; split <;> omega)
      (fun j v hj => by
        rw [List.getElem?_drop] at hj
        rw [Addr.add_lit, hWc, hW2, World.cell?_setCells_out _ _ _ _ _ (fun h _ => absurd h (by show g ≠ w.heap.size; omega)), hO1 _ _ hgw, hce]
        exact cur_at ht hj)
      (fun j hj => by
        rw [hWc, cell_at hcs2, Array.getElem?_eq_getElem (by omega)]; rfl)
      (fun j hj => by rw [hWf]; exact frozen_at hcs2 _) (fun v hv => by
        have := List.mem_of_mem_drop hv
        simp only [encs, List.mem_map] at this
        obtain ⟨y, _, rfl⟩ := this; rfl)
  subst hW2
  subst hW1
  have hE1 : ∀ q, ((w.alloc (.cells ROW 22)).drew).cell? q = (w.drew.alloc (.cells ROW 22)).cell? q := fun _ => rfl
  have hE2 : ∀ q, ((w.alloc (.cells ROW 22)).drew).frozen? q = (w.drew.alloc (.cells ROW 22)).frozen? q := fun _ => rfl
  have hF1 : ∀ q, (((w.alloc (.cells ROW 22)).drew.setCells w.heap.size i [.int .u64 x]).drew).cell? q = ((w.drew.alloc (.cells ROW 22)).setCells w.heap.size i [.int .u64 x]).cell? q := fun _ => rfl
  have hF2 : ∀ q, (((w.alloc (.cells ROW 22)).drew.setCells w.heap.size i [.int .u64 x]).drew).frozen? q = ((w.drew.alloc (.cells ROW 22)).setCells w.heap.size i [.int .u64 x]).frozen? q := fun _ => rfl
  have hw1 : IntKind.i64.wrap ((i : Int) + 1) = (i : Int) + 1 := by rw [IntKind.wrap_i64]; omega
  have hw2 : IntKind.i64.wrap ((xs.length : Int) + 1) = (xs.length : Int) + 1 := by rw [IntKind.wrap_i64]; omega
  have hw3 : IntKind.i64.wrap ((xs.length : Int) + 1 - (i : Int)) = (xs.length : Int) + 1 - (i : Int) := by rw [IntKind.wrap_i64]; omega
  have hz2 : ¬ ((i : Int) = (xs.length : Int)) := by omega
  have hb1 : (0 : Int) ≤ (i : Int) + 1 := by omega
  have hin : i ≤ xs.length := by omega
  have htn : ((i : Int) + 1).toNat = i + 1 := by omega
  have hb2 : ¬ (G = i + 1) := by omega
  have hb3 : (i : Int) ≤ (xs.length : Int) := by omega
  have hb4 : ¬ (G = i) := by omega
  have hb5 : ¬ (xs.length = i) := by omega
  have hb6 : ((xs.length : Int) < (xs.length : Int) + 1) := by omega
  have mixed : Try.prog.follows .mixedOrders = true := by kernel_rfl
  clear hkk hold hROW hG hz2' hcs2
  generalize xs.length = n at *
  go_enter Try.func55, Try.ntmps55
  go_wp2_with (first
    | (at_builtin; refine Lib.wpList_append_run _ rfl _ _ _ _ rfl _ _ rfl rfl _ _ (hrz _) ?_)
    | (at_builtin; refine wpList_copy_runI _ rfl _ _ 39 39 rfl _ _ rfl rfl (hcpA _ hE1 hE2 _ _) ?_)
    | (at_builtin; refine wpList_copy_runI _ rfl _ _ 39 39 rfl _ _ rfl rfl (hcpB _ (fun _ => rfl) (fun _ => rfl) _ _ _) ?_))
  go_region_law_o (refine step_copy_runI rfl _ _ 39 39 rfl (.slice (some ⟨w.heap.size, i + 1, none⟩) (n - i) (G - (i + 1))) (.slice (some ⟨g, i, none⟩) (n - i) (n - i)) (by simp [Act.eval, Act.put]) (by simp [Act.eval, Act.put]) (hcpB _ hF1 hF2 3 (G - (i + 1)) (n - i)) ?_)
  go_wp2
  go_ret
  exact ⟨G, ROW, rfl, hGn, hGm, hRs, hRt, rfl⟩
theorem C_one {w : World} {vb : Nat} {x : Int} (hv : w.heap[vb]? = some (.cells #[.int .u64 x] 22 (0, 0))) : Kd.C (Kd.int .u64) w (some ⟨vb, 0, none⟩) 1 [x] := by
  have := R_lit (base := 0) (cap := 1) (xs := [x]) (ok := fun _ => True) (Nat.zero_le _) hv (by simp) (by unfold maxLen; omega) rfl rfl trivial
  exact (Kd.R_reads' this).2.2
set_option maxHeartbeats 8000000 in
set_option maxRecDepth 100000 in
/-- slices.Insert of one number in a row of one's own. -/
theorem Insert_own (w0 W : World) (u : Value) (xs : List Int) (i vb : Nat) (x : Int) (hB : Below w0.heap.size w0 W) (ho : Kd.R (Kd.int .u64) 22 W w0.heap.size (fun _ => True) u xs) (hi : i ≤ xs.length) (hbig : xs.length < 17592186044415)
    (hvb : u.ownBlock ≠ some vb) (hv : W.heap[vb]? = some (.cells #[.int .u64 x] 22 (0, 0))) :
    Calls Try.prog 55 #[u, .int .i64 i, .slice (some ⟨vb, 0, none⟩) 1 1] W fun e w' => ∃ v' : Value, e = .returned v' ∧ Kd.R (Kd.int .u64) 22 w' w0.heap.size (fun _ => True) v' (xs.take i ++ x :: xs.drop i) ∧ Below w0.heap.size w0 w' := by
  by_cases he : i = xs.length
  · subst he
    rw [List.take_length, List.drop_length]
    have HC := Aside0.mk (C_one hv)
    have HR := Aside0.mk ho
    have HB := Aside0.mk hB
    have HV := Aside0.mk hv
    have HL := Aside0.mk hbig
    have HN := Aside0.mk hvb
    clear hv hB hbig hvb
    obtain ⟨A, c, rfl⟩ := Kd.R_slice ho
    have hlc := Aside0.mk (Kd.R_reads' ho).2.1
    have hsz := HB.out.size
    have hlx := HL.out
    have fin : Calls Try.prog 55 #[.slice A xs.length c, .int .i64 xs.length, .slice (some ⟨vb, 0, none⟩) 1 1] W fun e w' => ∃ v' : Value, e = .returned v' ∧ Kd.R (Kd.int .u64) 22 w' w0.heap.size (fun _ => True) v' (xs ++ [x]) ∧ Below w0.heap.size w0 w' := by
      have hc63 : c ≤ 9223372036854775807 := by
        obtain ⟨_, h2⟩ := Kd.own_of_R ho
        rcases h2 with ⟨e, _⟩ | ⟨g, cap, cur, e, _, _, _, hc, _⟩
        · injection e with _ _ e3; omega
        · injection e with _ _ e3; subst e3; unfold maxLen at hc; omega
      have hlc' := hlc.out
      cases A with
      | none =>
        have h0 : xs = [] ∧ c = 0 := by
          obtain ⟨_, h2⟩ := Kd.own_of_R ho
          rcases h2 with ⟨e, h⟩ | ⟨g, cap, cur, e, _⟩
          · injection e with _ _ e3; exact ⟨List.length_eq_zero_iff.1 h, e3⟩
          · injection e with e1; cases e1
        obtain ⟨rfl, rfl⟩ := h0
        clear ho
        go_enter Try.func55, Try.ntmps55
        go_wp2_with (first | (at_builtin; refine Kd.R_append_rows (Kd.int .u64) (w0 := w0) w0.heap.size rfl (.tmp 23) (.tmp 24) 39 22 (.int .u64 0) 8 rfl Try.underlying39 info22 rfl (by decide) (by omega) (.slice none 0 0) [] [x] _ _ _ (fun _ => True) (fun _ => False) rfl rfl HR.out HC.out (fun _ _ h => h) (fun _ h => h.elim) (fun _ _ => trivial) HB.out hsz (by simp) ?_; intro v1 w1 ho hb hg hat; clear hg hat; have HO := Aside0.mk ho; have HB1 := Aside0.mk hb; clear ho hb))
        go_ret
        exact ⟨_, rfl, HO.out, HB1.out⟩
      | some ad =>
        clear ho
        have hb1 : (0 : Int) ≤ (xs.length : Int) := by omega
        by_cases hcn : c = xs.length
        · subst hcn
          go_enter Try.func55, Try.ntmps55
          go_wp2_with (first | (at_builtin; refine Kd.R_append_rows (Kd.int .u64) (w0 := w0) w0.heap.size rfl (.tmp 23) (.tmp 24) 39 22 (.int .u64 0) 8 rfl Try.underlying39 info22 rfl (by decide) (by omega) (.slice (some ad) xs.length xs.length) xs [x] _ _ _ (fun _ => True) (fun _ => False) rfl rfl HR.out HC.out (fun _ _ h => h) (fun _ h => h.elim) (fun _ _ => trivial) HB.out hsz (by have := HL.out; omega) ?_; intro v1 w1 ho hb hg hat; clear hg hat; have HO := Aside0.mk ho; have HB1 := Aside0.mk hb; clear ho hb))
          go_ret
          exact ⟨_, rfl, HO.out, HB1.out⟩
        · go_enter Try.func55, Try.ntmps55
          go_wp2_with (first | (at_builtin; refine Kd.R_append_rows (Kd.int .u64) (w0 := w0) w0.heap.size rfl (.tmp 23) (.tmp 24) 39 22 (.int .u64 0) 8 rfl Try.underlying39 info22 rfl (by decide) (by omega) (.slice (some ad) xs.length c) xs [x] _ _ _ (fun _ => True) (fun _ => False) rfl rfl HR.out HC.out (fun _ _ h => h) (fun _ h => h.elim) (fun _ _ => trivial) HB.out hsz (by have := HL.out; omega) ?_; intro v1 w1 ho hb hg hat; clear hg hat; have HO := Aside0.mk ho; have HB1 := Aside0.mk hb; clear ho hb))
          go_ret
          exact ⟨_, rfl, HO.out, HB1.out⟩
    exact fin
  · have hlt : i < xs.length := by omega
    have own := Kd.own_of_R ho
    obtain ⟨h1, h2⟩ := own
    rcases h2 with ⟨rfl, h2⟩ | ⟨g, cap, cur, rfl, hb, hh, hn, hc, hs, ht⟩
    · omega
    rw [Nat.mul_one] at hs ht
    have hne : vb ≠ g := fun e => hvb (by rw [e]; rfl)
    have hlen : (xs.take i ++ x :: xs.drop i).length = xs.length + 1 := by simp; omega
    have hen : encs (Value.int .u64) (xs.take i ++ x :: xs.drop i) = (encs (Value.int .u64) xs).take i ++ .int .u64 x :: (encs (Value.int .u64) xs).drop i := by simp [encs]
    have hel : (encs (Value.int .u64) xs).length = xs.length := encs_len xs
    have hcl : cur.toList.length = cap := by rw [Array.length_toList]; exact hs
    by_cases hroom : xs.length + 1 ≤ cap
    · refine (Insert_room W g cap i vb cur xs x hlt hroom hc hne hh hs ht hv).mono ?_
      rintro e w' ⟨rfl, rfl⟩
      obtain ⟨c1, k1, z1, e1⟩ := heap_setCells g 22 ((encs (Value.int .u64) xs).drop i) (i + 1) W.drew cur hh (by rw [List.length_drop, hel]; omega)
      obtain ⟨c2, k2, z2, e2⟩ := heap_setCells g 22 [.int .u64 x] i _ c1 k1 (by simp; omega)
      refine ⟨_, rfl, ?_, below_setCells hb _ _ _ (below_setCells hb _ _ _ (below_drew1 hB))⟩
      rw [← hlen]
      refine R_lit hb k2 (by omega) hc (by omega) ?_ trivial
      rw [e2, e1, hlen, hen]
      have a1 : cur.toList.take i = (encs (Value.int .u64) xs).take i := by rw [← ht, List.take_take, Nat.min_eq_left (by omega)]
      have a2 : (cur.toList.take (i + 1) ++ (encs (Value.int .u64) xs).drop i ++ cur.toList.drop (i + 1 + ((encs (Value.int .u64) xs).drop i).length)).take i = (encs (Value.int .u64) xs).take i := by
        rw [List.append_assoc, List.take_append_of_le_length (by rw [List.length_take]; omega), List.take_take, Nat.min_eq_left (by omega), a1]
      have a3 : (cur.toList.take (i + 1) ++ (encs (Value.int .u64) xs).drop i ++ cur.toList.drop (i + 1 + ((encs (Value.int .u64) xs).drop i).length)).drop (i + 1) = (encs (Value.int .u64) xs).drop i ++ cur.toList.drop (i + 1 + ((encs (Value.int .u64) xs).drop i).length) := by
        rw [List.append_assoc, List.drop_append_of_le_length (by rw [List.length_take]; omega), List.drop_of_length_le (by rw [List.length_take]; omega), List.nil_append]
      rw [a2, show i + [Value.int IntKind.u64 x].length = i + 1 from rfl, a3, ← List.append_assoc]
      rw [List.take_append_of_le_length (by simp; omega), List.take_of_length_le (by simp; omega)]
      simp
    · have hcap : cap = xs.length := by omega
      subst hcap
      refine (Insert_grow W g i vb cur xs x hlt (by omega) hne hh hs ht hv).mono ?_
      rintro e w' ⟨G, ROW, rfl, hG1, hG2, hR1, hR2, rfl⟩
      have hnew : ((W.alloc (.cells ROW 22)).drew).heap[W.heap.size]? = some (.cells ROW 22 (0, 0)) := by show (W.heap.push _)[W.heap.size]? = _; rw [Array.getElem?_push_size]
      obtain ⟨c1, k1, z1, e1⟩ := heap_setCells W.heap.size 22 [.int .u64 x] i _ ROW hnew (by simp; omega)
      obtain ⟨c2, k2, z2, e2⟩ := heap_setCells W.heap.size 22 ((encs (Value.int .u64) xs).drop i) (i + 1) (((W.alloc (.cells ROW 22)).drew.setCells W.heap.size i [.int .u64 x]).drew) c1 k1 (by rw [List.length_drop, hel]; omega)
      have hsz := hB.size
      refine ⟨_, rfl, ?_, below_setCells hsz _ _ _ (below_drew1 (below_setCells hsz _ _ _ (below_drew1 (below_alloc hB _))))⟩
      rw [← hlen]
      refine R_lit hsz k2 (by omega) hG2 (by omega) ?_ trivial
      rw [e2, e1, hlen, hen, hR2]
      have hRl : ROW.toList.length = G := by rw [Array.length_toList]; exact hR1
      have b1 : ((encs (Value.int .u64) xs).take i ++ [Value.int .u64 x] ++ ROW.toList.drop (i + [Value.int IntKind.u64 x].length)).take (i + 1) = (encs (Value.int .u64) xs).take i ++ [Value.int .u64 x] := by
        rw [List.take_append_of_le_length (by simp; omega), List.take_of_length_le (by simp; omega)]
      rw [b1, List.take_append_of_le_length (by simp; omega), List.take_of_length_le (by simp; omega)]
      simp
def leaf_With.f (k : Nat) (a0 : Int) (l1 : List Int) (a2 : Int) : Option (List Int × Int) := (leaf_find.f k a0 l1 a2).bind fun b => if b.2.2 = 0 then (if b.2.1 = true then some ([], 5) else if (l1.length : Int) = 1024 then some ([], 6) else if 0 ≤ b.1 ∧ b.1 ≤ (l1.length : Int) ∧ l1.length < 17592186044415 then some (l1.take b.1.toNat ++ a2 :: l1.drop b.1.toNat, 0) else none) else some ([], b.2.2)
theorem leaf_With.mono : ∀ a0 a1 a2 k, LeO (leaf_With.f k a0 a1 a2) (leaf_With.f (k + 1) a0 a1 a2) := by
  intro a0 a1 a2 k
  unfold leaf_With.f
  refine LeO.bind (leaf_find.mono _ _ _ _) (fun _ => LeO.refl _)
set_option maxHeartbeats 8000000 in
set_option maxRecDepth 100000 in
theorem leaf_With.calls (k : Nat) (a0 : Int) (A1 : Option Addr) (c1 : Nat) (l1 : List Int) (a2 : Int) (r1 : List Int) (r2 : Int) (w : World) (hr1 : Kd.C (Kd.int .u64) w A1 l1.length l1) (hc1 : l1.length ≤ c1) (h : leaf_With.f k a0 l1 a2 = some (r1, r2)) :
    Calls Try.prog 25 #[.int .i64 a0, .slice A1 l1.length c1, .int .u64 a2] w fun e w' => ∃ v0_ : Value, e = .returned (.tuple #[v0_, .int .i64 r2]) ∧ Kd.R (Kd.int .u64) 22 w' w.heap.size (fun _ => True) v0_ r1 ∧ Below w.heap.size w w' := by
  have HR1 := Aside0.mk hr1
  have HC1 := Aside0.mk hc1
  clear hr1 hc1
  obtain ⟨⟨t1, t2, t3⟩, A30, H⟩ := Option.bind_eq_some_iff.mp h
  clear h
  dsimp only at H
  have A3 := Aside0.mk A30
  clear A30
  by_cases c4 : t3 = 0
  · rw [if_pos c4] at H
    subst c4
    by_cases c5 : t2 = true
    · rw [if_pos c5] at H
      subst c5
      simp only [Option.some.injEq, Prod.mk.injEq] at H
      obtain ⟨rfl, rfl⟩ := H
      go_enter Try.func25, Try.ntmps25
      go_wp2_with (first | ((with_reducible refine gate_callee (f := 54) rfl ?_); refine goesL_ (some 15) rfl rfl Try.func54 (by kernel_rfl) rfl #[.int .i64 a0, .slice A1 l1.length c1, .int .u64 a2] rfl (by (try simp only [List.map_toArray, List.map_cons, List.map_nil]); first | done | rfl) ?_; (with_reducible refine (leaf_find.calls k a0 _ _ l1 a2 t1 true 0 _ ?side1 ?side2 A3.out).mono ?_); (case side1 => exact HR1.out); (case side2 => exact HC1.out); rintro e w' ⟨rfl, ⟨nd, rfl⟩⟩; refine ⟨_, rfl, ?_⟩))
      go_ret2
      exact ⟨_, rfl, Kd.R_nil _ _ _ _ _, pw_below_drewN (Below.refl _ _) _⟩
    · rw [if_neg c5] at H
      obtain rfl : t2 = false := by simpa using c5
      clear c5
      by_cases c6 : (l1.length : Int) = 1024
      · rw [if_pos c6] at H
        have c6b0 : ((l1.length : Int) == 1024) = true := beq_iff_eq.mpr c6
        clear c6
        simp only [Option.some.injEq, Prod.mk.injEq] at H
        obtain ⟨rfl, rfl⟩ := H
        go_enter Try.func25, Try.ntmps25
        go_wp2_with (first | ((with_reducible refine gate_callee (f := 54) rfl ?_); refine goesL_ (some 15) rfl rfl Try.func54 (by kernel_rfl) rfl #[.int .i64 a0, .slice A1 l1.length c1, .int .u64 a2] rfl (by (try simp only [List.map_toArray, List.map_cons, List.map_nil]); first | done | rfl) ?_; (with_reducible refine (leaf_find.calls k a0 _ _ l1 a2 t1 false 0 _ ?side1 ?side2 A3.out).mono ?_); (case side1 => exact HR1.out); (case side2 => exact HC1.out); rintro e w' ⟨rfl, ⟨nd, rfl⟩⟩; refine ⟨_, rfl, ?_⟩))
        go_ret2
        exact ⟨_, rfl, Kd.R_nil _ _ _ _ _, pw_below_drewN (Below.refl _ _) _⟩
      · rw [if_neg c6] at H
        have c6b0 : ((l1.length : Int) == 1024) = false := beq_eq_false_iff_ne.mpr c6
        clear c6
        by_cases c7 : 0 ≤ t1 ∧ t1 ≤ (l1.length : Int) ∧ l1.length < 17592186044415
        · rw [if_pos c7] at H
          obtain ⟨p1, p2, p3⟩ := c7
          obtain ⟨n, rfl⟩ := Int.eq_ofNat_of_zero_le p1
          simp only [Option.some.injEq, Prod.mk.injEq, Int.toNat_natCast] at H
          obtain ⟨rfl, rfl⟩ := H
          have P2 := Aside0.mk (show n ≤ l1.length by omega)
          have P3 := Aside0.mk p3
          have PC := Aside0.mk (show slices_Clone_uint64_uint64.f l1 = some l1 by unfold slices_Clone_uint64_uint64.f; rw [if_pos (by omega)])
          clear p1 p2 p3
          go_enter Try.func25, Try.ntmps25
          go_wp2_with (first | ((with_reducible refine gate_callee (f := 54) rfl ?_); refine goesL_ (some 15) rfl rfl Try.func54 (by kernel_rfl) rfl #[.int .i64 a0, .slice A1 l1.length c1, .int .u64 a2] rfl (by (try simp only [List.map_toArray, List.map_cons, List.map_nil]); first | done | rfl) ?_; (with_reducible refine (leaf_find.calls k a0 _ _ l1 a2 n false 0 _ ?side1 ?side2 A3.out).mono ?_); (case side1 => exact HR1.out); (case side2 => exact HC1.out); rintro e w' ⟨rfl, ⟨nd, rfl⟩⟩; refine ⟨_, rfl, ?_⟩) | ((with_reducible refine gate_callee (f := 56) rfl ?_); refine goesL_ (some 30) rfl rfl Try.func56 (by kernel_rfl) rfl #[.slice A1 l1.length c1] rfl (by (try simp only [List.map_toArray, List.map_cons, List.map_nil]); first | done | rfl) ?_; (with_reducible refine (slices_Clone_uint64_uint64.calls _ _ l1 l1 _ ?side1 ?side2 PC.out).mono ?_); (case side1 => repeat (first | exact HR1.out | (with_reducible refine Kd.C_drewN ?_ _) | (with_reducible refine Kd.C_drew ?_))); (case side2 => exact HC1.out); rintro e w20 ⟨v30, rfl, ho0, hb⟩; refine ⟨_, rfl, ?_⟩; have HO := Aside0.mk ho0; have HB := Aside0.mk hb; clear ho0 hb))
          have HB0 := Aside0.mk (below_step (pw_below_drewN (Below.refl _ w) nd) HB.out)
          have hvx : (w20.alloc (.cells #[.int .u64 a2] 22)).heap[w20.heap.size]? = some (.cells #[.int .u64 a2] 22 (0, 0)) := blk_new _ _
          refine (Insert_own w _ v30 l1 n w20.heap.size a2 (below_alloc HB0.out _) ?ro P2.out P3.out ?rn hvx).mono ?_
          case ro => exact Kd.R_alloc (Kd.R_lower HO.out (below_size (pw_below_drewN (Below.refl _ w) nd))) _
          case rn =>
            intro e
            have := own_lt (Kd.own_of_R HO.out) _ e
            omega
          rintro e w30 ⟨v34, rfl, ho3, hb3⟩
          have HO3 := Aside0.mk ho3
          have HB3 := Aside0.mk hb3
          clear ho3 hb3
          dsimp only
          go_wp2
          go_ret2
          exact ⟨_, rfl, HO3.out, HB3.out⟩
        · rw [if_neg c7] at H
          cases H
  · rw [if_neg c4] at H
    have c4b0 : (t3 == 0) = false := beq_eq_false_iff_ne.mpr c4
    have c4b1 : (t3 != 0) = true := bne_iff_ne.mpr c4
    clear c4
    simp only [Option.some.injEq, Prod.mk.injEq] at H
    obtain ⟨rfl, rfl⟩ := H
    go_enter Try.func25, Try.ntmps25
    go_wp2_with (first | ((with_reducible refine gate_callee (f := 54) rfl ?_); refine goesL_ (some 15) rfl rfl Try.func54 (by kernel_rfl) rfl #[.int .i64 a0, .slice A1 l1.length c1, .int .u64 a2] rfl (by (try simp only [List.map_toArray, List.map_cons, List.map_nil]); first | done | rfl) ?_; (with_reducible refine (leaf_find.calls k a0 _ _ l1 a2 t1 t2 t3 _ ?side1 ?side2 A3.out).mono ?_); (case side1 => exact HR1.out); (case side2 => exact HC1.out); rintro e w' ⟨rfl, ⟨nd, rfl⟩⟩; refine ⟨_, rfl, ?_⟩))
    go_ret2
    exact ⟨_, rfl, Kd.R_nil _ _ _ _ _, pw_below_drewN (Below.refl _ _) _⟩

end Go.Proofs.Ytnbiddloiiljjaa.MP
