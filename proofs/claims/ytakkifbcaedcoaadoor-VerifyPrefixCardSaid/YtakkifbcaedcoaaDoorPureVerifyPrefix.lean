/- VerifyPrefix in plain words: the violations of a prefix are those of the trace that lie in it, for Sequence and for Updates. -/
import Derived.Test.YtakkifbcaedcoaaDoorMPrefix
import Derived.Test.YtakkifbcaedcoaaDoorPureVerifyUpdates
namespace Go.Proofs.YtakkifbcaedcoaaDoor.PX
open Go.RowKit Go.Proofs.YtakkifbcaedcoaaDoorW.PrintWords Go.Proofs.YtakkifbcaedcoaaDoorW.PrintLast Go.Proofs.YtakkifbcaedcoaaDoorW.PrintMore
set_option linter.unusedVariables false
set_option linter.unusedSimpArgs false
theorem partF_app (a b : List S32) (q : Int) : partF (a ++ b) q = partF a q ++ partF b q := by
  unfold partF
  rw [List.filter_append, List.map_append]
theorem partF_none (l : List S32) (q : Int) (h : ∀ x ∈ l, q ≤ x.f0) : partF l q = [] := by
  unfold partF
  rw [List.map_eq_nil_iff, List.filter_eq_nil_iff]
  intro x hx
  have := h x hx
  simp only [decide_eq_true_eq]
  omega
theorem partF_all (l : List S32) (q : Int) (h : ∀ x ∈ l, x.f0 < q) : partF l q = l.map to33 := by
  unfold partF
  rw [List.filter_eq_self.mpr (fun x hx => decide_eq_true (h x hx))]
  rfl
theorem bad_at {i : Int} {m : Mc} {e : S55} : ∀ x ∈ bad i m e, x.f0 = i := by
  unfold bad
  intro x hx
  split at hx
  · rw [List.mem_singleton.mp hx]
  · cases hx
theorem dup_at {i c7 c8 : Int} {e : S55} : ∀ x ∈ dup i c7 c8 e, x.f0 = i := by
  unfold dup
  intro x hx
  split at hx
  · rw [List.mem_singleton.mp hx]
  · cases hx
theorem seq_ge (r : List S55) : ∀ (i : Int) (m : Mc) (c7 c8 : Int), ∀ x ∈ seqF i m c7 c8 r, i ≤ x.f0 := by
  induction r with
  | nil => intro i m c7 c8 x hx; cases hx
  | cons e r ih =>
    intro i m c7 c8 x hx
    rw [seqF] at hx
    split at hx
    · rcases List.mem_append.mp hx with h | h
      · have := bad_at x h; omega
      · rcases List.mem_append.mp h with h | h
        · have := dup_at x h; omega
        · have := ih _ _ _ _ x h; omega
    · rcases List.mem_cons.mp hx with h | h
      · rw [h]; exact Int.le_refl _
      · have := ih _ _ _ _ x h; omega
theorem seq_prefix (r : List S55) : ∀ (K : Nat) (i : Int) (m : Mc) (c7 c8 : Int), partF (seqF i m c7 c8 r) (i + (K : Int)) = (seqF i m c7 c8 (r.take K)).map to33 := by
  induction r with
  | nil => intro K i m c7 c8; rw [List.take_nil]; rfl
  | cons e r ih =>
    intro K i m c7 c8
    cases K with
    | zero =>
      rw [List.take_zero]
      exact partF_none _ _ (fun x hx => by have := seq_ge (e :: r) i m c7 c8 x hx; omega)
    | succ K =>
      have hK : i + ((K + 1 : Nat) : Int) = (i + 1) + (K : Int) := by omega
      rw [List.take_succ_cons, seqF, seqF, hK]
      split
      · rw [partF_app, partF_app, ih, partF_all (bad i m e) _ (fun x hx => by have := bad_at x hx; omega), partF_all (dup i c7 c8 e) _ (fun x hx => by have := dup_at x hx; omega), List.map_append, List.map_append]
      · rw [show (⟨i, 1⟩ : S32) :: seqF (i + 1) m c7 c8 r = [⟨i, 1⟩] ++ seqF (i + 1) m c7 c8 r from rfl, partF_app, ih, partF_all [⟨i, 1⟩] _ (fun x hx => by rw [List.mem_singleton.mp hx]; show i < _; omega)]
        rfl
theorem upd_ge (r : List S55) : ∀ (i : Int) (kn : Bool) (v : Int), ∀ x ∈ updF kn v (vl i r), i ≤ x.f0 := by
  induction r with
  | nil => intro i kn v x hx; cases hx
  | cons e r ih =>
    intro i kn v x hx
    rw [vl] at hx
    split at hx
    · rw [updF] at hx
      split at hx
      · rcases List.mem_append.mp hx with h | h
        · split at h
          · rw [List.mem_singleton.mp h]; exact Int.le_refl _
          · cases h
        · have := ih _ _ _ x h; omega
      · have := ih _ _ _ x hx; omega
    · have := ih _ _ _ x hx; omega
theorem upd_prefix (r : List S55) : ∀ (K : Nat) (i : Int) (kn : Bool) (v : Int), partF (updF kn v (vl i r)) (i + (K : Int)) = (updF kn v (vl i (r.take K))).map to33 := by
  induction r with
  | nil => intro K i kn v; rw [List.take_nil]; rfl
  | cons e r ih =>
    intro K i kn v
    cases K with
    | zero =>
      rw [List.take_zero]
      exact partF_none _ _ (fun x hx => by have := upd_ge (e :: r) i kn v x hx; omega)
    | succ K =>
      have hK : i + ((K + 1 : Nat) : Int) = (i + 1) + (K : Int) := by omega
      rw [List.take_succ_cons, vl, vl, hK]
      by_cases hv : VS e = true
      · rw [if_pos hv, if_pos hv, updF, updF]
        split
        · rw [partF_app, ih, List.map_append]
          congr 1
          exact partF_all _ _ (fun x hx => by
            split at hx
            · rw [List.mem_singleton.mp hx]; show i < _; omega
            · cases hx)
        · exact ih _ _ _ _
      · rw [if_neg hv, if_neg hv]
        exact ih _ _ _ _
theorem seqF_le (r : List S55) : ∀ (i : Int) (m : Mc) (c7 c8 : Int), (seqF i m c7 c8 r).length ≤ 2 * r.length := by
  induction r with
  | nil => intro i m c7 c8; simp [seqF]
  | cons e r ih =>
    intro i m c7 c8
    rw [seqF]
    have h1 : (bad i m e).length ≤ 1 := bad_le
    have h2 : (dup i c7 c8 e).length ≤ 1 := dup_le
    split
    · have := ih (i + 1) (stepM m e) (if e.f0 = 7 then wrap64 (c7 + 1) else c7) (if e.f0 = 8 then wrap64 (c8 + 1) else c8)
      simp only [List.length_append, List.length_cons]
      omega
    · have := ih (i + 1) m c7 c8
      simp only [List.length_cons]
      omega
end Go.Proofs.YtakkifbcaedcoaaDoor.PX
namespace Go.Proofs.YtakkifbcaedcoaaDoor.Pure
open Go.RowKit Go.Proofs.YtakkifbcaedcoaaDoor.PX Go.Proofs.YtakkifbcaedcoaaDoorW.PrintWords Go.Proofs.YtakkifbcaedcoaaDoorW.PrintLast
theorem u8_bd {v : Int} (h : (Lit.int .u8 v).wf = true) : 0 ≤ v ∧ v ≤ 255 := by
  have h1 : IntKind.u8.min = 0 := by decide
  have h2 : IntKind.u8.max = 255 := by decide
  simp only [Lit.wf, h1, h2, Bool.and_eq_true, decide_eq_true_eq] at h
  exact h
theorem VerifyPrefix (l0 : List S55) (a1 : Int) (hw : ∀ x ∈ l0, Wf55 x) (w1 : (Lit.int .u8 a1).wf = true) : ∃ k, PrefixOK k l0 a1 ∧ true = true := by
  by_cases hlen : l0.length ≤ 90
  case neg => exact ⟨0, ⟨wakes55, u8_bd w1, fun h => absurd h hlen⟩, rfl⟩
  obtain ⟨K, hK⟩ : ∃ K, a1.toNat % (l0.length + 1) = K := ⟨_, rfl⟩
  have hKl : K ≤ l0.length := by have := Nat.mod_lt a1.toNat (show 0 < l0.length + 1 by omega); omega
  have hw1 : ∀ x ∈ l0.take K, Wf55 x := fun x hx => hw x (List.mem_of_mem_take hx)
  have hl1 : (l0.take K).length ≤ 90 := by rw [List.length_take]; omega
  have s0le := seqF_le l0 0 m00 0 0
  have s1le := seqF_le (l0.take K) 0 m00 0 0
  have u0le := updF_le (vl 0 l0) false 0
  have v0le := vl_le l0 0
  have u1le := updF_le (vl 0 (l0.take K)) false 0
  have v1le := vl_le (l0.take K) 0
  have hps := seq_prefix l0 K 0 m00 0 0
  have hpu := upd_prefix l0 K 0 false 0
  rw [Int.zero_add] at hps hpu
  obtain ⟨k1, e1⟩ := updates_ev (l0.take K) hw1 (by omega)
  obtain ⟨k2, e2⟩ := updates_ev l0 hw (by omega)
  obtain ⟨k3, e3⟩ := plain_ev (seqF 0 m00 0 0 (l0.take K)) (by omega)
  obtain ⟨k4, e4⟩ := plain_ev (updF false 0 (vl 0 (l0.take K))) (by omega)
  obtain ⟨k5, e5⟩ := same_ev ((seqF 0 m00 0 0 (l0.take K)).map to33) (by rw [List.length_map]; omega)
  obtain ⟨k6, e6⟩ := same_ev ((updF false 0 (vl 0 (l0.take K))).map to33) (by rw [List.length_map]; omega)
  refine ⟨k1 + k2 + k3 + k4 + k5 + k6, ⟨wakes55, u8_bd w1, fun _ => ⟨l0.take K, seqF 0 m00 0 0 (l0.take K), seqF 0 m00 0 0 l0, updF false 0 (vl 0 (l0.take K)), updF false 0 (vl 0 l0), (seqF 0 m00 0 0 (l0.take K)).map to33, (updF false 0 (vl 0 (l0.take K))).map to33, ?_⟩⟩, rfl⟩
  rw [hK]
  exact { le := hKl, hl1 := rfl, hs1 := by unfold verify_Sequence.f; rw [if_pos (by omega)], hs0 := by unfold verify_Sequence.f; rw [if_pos (by omega)], hu1 := e1 _ (by omega), hu0 := e2 _ (by omega), hp1 := e3 _ (by omega), hv1 := e4 _ (by omega), hp0 := hps, hv0 := hpu, same1 := e5 _ (by omega), same2 := e6 _ (by omega), ls := by omega, lu := by omega }
end Go.Proofs.YtakkifbcaedcoaaDoor.Pure
