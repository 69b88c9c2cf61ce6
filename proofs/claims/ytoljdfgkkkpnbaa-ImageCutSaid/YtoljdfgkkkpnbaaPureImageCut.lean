/- ImageCut, plainly. -/
import Derived.Test.YtoljdfgkkkpnbaaZImageCut
import Derived.Test.YtoljdfgkkkpnbaaMPx11
import Derived.Test.YtoljdfgkkkpnbaaMPx3
set_option linter.unusedVariables false
set_option linter.unusedSimpArgs false
set_option linter.unusedSectionVars false
namespace Go.Proofs.Ytoljdfgkkkpnbaa.Pure
open Go.RowKit Go.Proofs.YtoljdfgkkkpnbaaW.PrintWords Go.Proofs.YtoljdfgkkkpnbaaW.PrintMore Go.Proofs.Ytoljdfgkkkpnbaa.MP Go.Proofs.Ytoljdfgkkkpnbaa.Med
def WfE (z : S65) : Prop := (Lit.int .u64 z.f0.f0).wf = true ∧ (Lit.int .u64 z.f0.f1).wf = true ∧ (Lit.int .u64 z.f1.f2.f0).wf = true ∧ (Lit.int .u64 z.f1.f2.f1).wf = true ∧ (Lit.int .u64 z.f1.f3.f0.f0).wf = true ∧ (Lit.int .u64 z.f1.f3.f0.f1).wf = true ∧ (Lit.int .u64 z.f1.f3.f1.f0).wf = true ∧ (Lit.int .u64 z.f1.f3.f1.f1).wf = true ∧ (Lit.int .i64 z.f1.f4).wf = true
theorem ub_of {z : S65} (h : WfE z) : Ub z := by
  obtain ⟨m, h1, h2⟩ := wf_u64 h.2.2.1
  obtain ⟨n, h3, h4⟩ := wf_u64 h.2.2.2.1
  exact ⟨⟨by omega, by omega⟩, by omega, by omega⟩
theorem octs_of (l : List Int) (h : ∀ x ∈ l, (Lit.int .u8 x).wf = true) : ∃ m : List Nat, l = ints m ∧ ∀ x ∈ m, x < 256 := by
  induction l with
  | nil => exact ⟨[], rfl, by simp⟩
  | cons x l ih =>
    obtain ⟨m, rfl, hm⟩ := ih fun y hy => h y (List.mem_cons_of_mem _ hy)
    have hx := h x List.mem_cons_self
    have h0 : IntKind.u8.min = 0 := by decide
    have h1 : IntKind.u8.max = 255 := by decide
    simp [Lit.wf, h0, h1] at hx
    obtain ⟨n, rfl⟩ := Int.eq_ofNat_of_zero_le hx.1
    refine ⟨n :: m, rfl, fun y hy => ?_⟩
    rcases List.mem_cons.1 hy with rfl | hy
    · omega
    · exact hm y hy
theorem live17c : medlarlaw17_live.f 200 = some true := by decide +kernel
theorem ImageCut (h s i : Int) (L : List S65) (l : List Int) (cut : Int) (more : List Int)
    (wh : (Lit.int .i64 h).wf = true) (ws : (Lit.int .i64 s).wf = true) (wi : (Lit.int .u64 i).wf = true) (lL : L.length ≤ maxLen) (hL : ∀ z ∈ L, WfE z) (ll : l.length ≤ maxLen) (hl : ∀ x ∈ l, (Lit.int .u64 x).wf = true) (wc : (Lit.int .i64 cut).wf = true) (lm : more.length ≤ maxLen) (hm : ∀ x ∈ more, (Lit.int .u8 x).wf = true) :
    ∃ k, medlarlaw17_ImageCut.f k h s i L l cut more = some true := by
  obtain ⟨p, rfl, hp⟩ := wf_u64 wi
  obtain ⟨l, rfl, hlb⟩ := ints_of l hl
  obtain ⟨b, rfl, hb⟩ := octs_of more hm
  have hU : ∀ z ∈ L, Ub z := fun z hz => ub_of (hL z hz)
  refine ⟨60000, ?_⟩
  have lv : medlarlaw17_live.f 60000 = some true := at_rounds (g := fun k => medlarlaw17_live.f k) medlarlaw17_live.mono (by omega) live17c
  obtain ⟨K, hK⟩ : ∃ K : Nat, K = 60000 := ⟨_, rfl⟩
  rw [← hK] at lv ⊢
  -- the last part: a set's text
  have J3 : ∀ (k : Nat), 50000 ≤ k → ∀ (h' : Nat), Lst (h' : Int) l → medlarlaw17_ImageCut.j3 k cut true (ints (txt h' l)) (decide (0 ≤ cut ∧ cut < ((txt h' l).length : Int))) = some true := by
    intro k hk h' c
    obtain ⟨k, rfl⟩ : ∃ n, k = n + 1 := ⟨k - 1, by omega⟩
    have cl := c
    rw [lst_iff] at cl
    have ch := cl.1
    rw [hi_iff] at ch
    rw [medlarlaw17_ImageCut.j3]
    by_cases d : 0 ≤ cut ∧ cut < ((txt h' l).length : Int)
    · rw [decide_eq_true d, if_pos rfl, if_pos d.1, if_pos (by rw [ints_len]; omega), ints_take]
      have tb : ∀ c ∈ (txt h' l).take cut.toNat, c < 256 := fun c hc => txt_lt (by omega) l c (List.mem_of_mem_take hc)
      obtain ⟨a, M, e, e1, e2⟩ := Leaves_all tb (k := k) (by omega)
      rw [e1]; simp only [bnd]
      have tl : ((txt h' l).take cut.toNat).length = cut.toNat := by rw [List.length_take]; omega
      rw [txt_len] at d
      rcases e2 with ⟨_, _, h2, _, q1, q2⟩ | ⟨q, _⟩ | ⟨_, q⟩
      · exact (txt_no cl.2.1 (b := (txt h' l).take cut.toNat) (fun z => by rw [tl] at z; rw [List.take_take, Nat.min_eq_left z]) (by rw [tl]; omega) q1 q2).elim
      · rw [if_pos q]
      · rw [tl] at q; omega
    · rw [decide_eq_false d, if_neg (by simp)]
  have J2 : ∀ (k : Nat), 55000 ≤ k → l.length ≤ 60 → b.length ≤ 100 → b.length ≠ 0 → medlarlaw17_ImageCut.j2 k h (ints l) cut (ints b) true = some true := by
    intro k hk l60 b100 b0
    obtain ⟨k, rfl⟩ : ∃ n, k = n + 1 := ⟨k - 1, by omega⟩
    rw [medlarlaw17_ImageCut.j2, Set_eq h hlb (by omega) (by omega)]; simp only [bnd]
    by_cases c : Lst h l
    · have cl := c
      rw [lst_iff] at cl
      have ch := cl.1
      rw [hi_iff] at ch
      obtain ⟨H, rfl⟩ := Int.eq_ofNat_of_zero_le (show 0 ≤ h by omega)
      rw [if_pos c, Int.toNat_natCast]; dsimp only
      rw [if_pos rfl, List.nil_append, if_pos (by rw [ints_len, txt_len]; simp; omega), if_pos (by rw [ints_len, ints_len, txt_len]; omega), ints_app]
      have tb : ∀ c ∈ txt H l ++ b, c < 256 := fun c hc => by
        rcases List.mem_append.1 hc with z | z
        · exact txt_lt (by omega) l c z
        · exact hb c z
      obtain ⟨a, M, e, e1, e2⟩ := Leaves_all tb (k := k) (by omega)
      rw [e1]; simp only [bnd]
      rw [if_neg]
      · have j := J3 k (by omega) H c
        by_cases z : cut ≥ 0
        · rw [if_pos z, ints_len, show decide (cut < ((txt H l).length : Int)) = decide (0 ≤ cut ∧ cut < ((txt H l).length : Int)) by rw [decide_eq_decide]; omega]; exact j
        · rw [if_neg z]
          rw [show decide (0 ≤ cut ∧ cut < ((txt H l).length : Int)) = false by rw [decide_eq_false_iff_not]; omega] at j; exact j
      · intro e0
        rcases e2 with ⟨_, _, h2, _, q1, q2⟩ | ⟨q, _⟩ | ⟨q, _⟩
        · exact txt_no cl.2.1 (b := txt H l ++ b) (fun _ => by rw [List.take_append_of_le_length (by rw [txt_len]; omega)]) (by rw [List.length_append, txt_len]; omega) q1 q2
        · omega
        · omega
    · rw [if_neg c]; dsimp only
      rw [if_neg (by decide)]
  have J0 : ∀ x, (x = false → L.length ≤ 600 ∧ l.length ≤ 60 ∧ b.length ≤ 100 ∧ b.length ≠ 0) → medlarlaw17_ImageCut.j0 K h s (p : Int) L (ints l) cut (ints b) true x = some true := by
    intro x hx
    obtain ⟨k, rfl⟩ : ∃ n, K = n + 1 := ⟨K - 1, by omega⟩
    cases x
    · obtain ⟨n1, n2, n3, n4⟩ := hx rfl
      rw [medlarlaw17_ImageCut.j0, if_neg (by simp)]
      rcases iStore_eq h s hp L (by omega) hU (k := k) (by omega) (by omega) with ⟨V, c1, c2, c3, c4, c5, e⟩ | ⟨_, e⟩
      · have ch := c2.1
        rw [hi_iff] at ch
        have cs := c1
        unfold Sch at cs
        obtain ⟨H, rfl⟩ := Int.eq_ofNat_of_zero_le (show 0 ≤ h by omega)
        obtain ⟨S, rfl⟩ := Int.eq_ofNat_of_zero_le (show 0 ≤ s by omega)
        rw [Int.toNat_natCast] at c3 c4 e
        rw [Int.toNat_natCast] at e
        have pl := prs_len (show H ≤ 32 by omega) (S : Int) (2 ^ H + p)
        have vl : V.length ≤ 1025 := by omega
        have sb := stx_lt (H := H) (S := S) (p := p) (by omega) (by omega) V
        rw [e]; simp only [bnd]
        rw [if_pos trivial, List.nil_append, if_pos (by rw [ints_len, stx_len]; simp; omega), if_pos (by rw [ints_len, ints_len, stx_len]; omega), ints_app,
          iRead_eq (b := stx H S p V ++ b) (fun c hc => by
            rcases List.mem_append.1 hc with z | z
            · exact sb c z
            · exact hb c z) (by rw [List.length_append, stx_len]; omega) (by omega), if_neg (by rw [List.length_append, stx_len]; omega),
          if_neg (stx_no hp c3 (b := stx H S p V ++ b) (fun _ => by rw [List.take_append_of_le_length (by rw [stx_len]; omega)]) (by rw [List.length_append, stx_len]; omega))]
        simp only [bnd]
        rw [if_neg (by decide)]
        obtain ⟨k, rfl⟩ : ∃ n, k = n + 1 := ⟨k - 1, by omega⟩
        have j2 := J2 k (by omega) n2 n3 n4
        have J1 : medlarlaw17_ImageCut.j1 (k + 1) (H : Int) (ints l) cut (ints b) true (ints (stx H S p V)) (decide (0 ≤ cut ∧ cut < ((stx H S p V).length : Int))) = some true := by
          rw [medlarlaw17_ImageCut.j1]
          by_cases d : 0 ≤ cut ∧ cut < ((stx H S p V).length : Int)
          · rw [decide_eq_true d, if_pos rfl, if_pos d.1, if_pos (by rw [ints_len]; omega), ints_take]
            have tl : ((stx H S p V).take cut.toNat).length = cut.toNat := by rw [List.length_take]; omega
            rw [stx_len] at d
            rw [iRead_eq (b := (stx H S p V).take cut.toNat) (fun c hc => sb c (List.mem_of_mem_take hc)) (by rw [tl]; omega) (by omega), if_neg (by rw [tl]; omega),
              if_neg (stx_no hp c3 (b := (stx H S p V).take cut.toNat) (fun z => by rw [tl] at z; rw [List.take_take, Nat.min_eq_left z]) (by rw [tl]; omega))]
            simp only [bnd]
            rw [if_pos trivial]; exact j2
          · rw [decide_eq_false d, if_neg (by simp)]; exact j2
        by_cases z : cut ≥ 0
        · rw [if_pos z, ints_len, show decide (cut < ((stx H S p V).length : Int)) = decide (0 ≤ cut ∧ cut < ((stx H S p V).length : Int)) by rw [decide_eq_decide]; omega]; exact J1
        · rw [if_neg z]
          rw [show decide (0 ≤ cut ∧ cut < ((stx H S p V).length : Int)) = false by rw [decide_eq_false_iff_not]; omega] at J1; exact J1
      · rw [e]; simp only [bnd]
        rw [if_neg (by decide)]
        exact J2 k (by omega) n2 n3 n4
    · rw [medlarlaw17_ImageCut.j0, if_pos rfl]
  unfold medlarlaw17_ImageCut.f
  rw [lv]; simp only [bnd]
  rw [ints_len, ints_len]
  by_cases c1 : (L.length : Int) > 600
  · rw [if_pos c1]; exact J0 true (by simp)
  rw [if_neg c1]
  by_cases c2 : (l.length : Int) > 60
  · rw [if_pos c2]; exact J0 true (by simp)
  rw [if_neg c2]
  by_cases c3 : (b.length : Int) > 100
  · rw [if_pos c3]; exact J0 true (by simp)
  rw [if_neg c3]
  refine J0 _ fun q => ?_
  rw [beq_eq_false_iff_ne] at q
  omega
end Go.Proofs.Ytoljdfgkkkpnbaa.Pure
