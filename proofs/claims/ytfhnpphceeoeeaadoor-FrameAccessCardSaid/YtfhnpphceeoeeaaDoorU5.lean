/- Parts of the proof, merged in build order: PureFrameAccess. -/
import Derived.Test.YtfhnpphceeoeeaaDoorU3
import Derived.Test.YtfhnpphceeoeeaaDoorU4
/- FrameAccess in plain words: Value, Offered, Chunked and Equal are what the reference gives. -/
namespace Go.Proofs.YtfhnpphceeoeeaaDoor.PX
open Go.RowKit Go.Proofs.YtfhnpphceeoeeaaDoorW.PrintWords Go.Proofs.YtfhnpphceeoeeaaDoorW.PrintLast Go.Proofs.YtfhnpphceeoeeaaDoorW.PrintMore
set_option linter.unusedVariables false
set_option linter.unusedSimpArgs false
theorem two_val (l : List Int) (hb : Bytes l) (h2 : l.length = 2) : val l = rd l 0 + 256 * rd l 1 ∧ (0 ≤ rd l 0 ∧ rd l 0 ≤ 255) ∧ (0 ≤ rd l 1 ∧ rd l 1 ≤ 255) := by
  match l, h2 with
  | [a, b], _ =>
    have ha := hb a (by simp)
    have hbb := hb b (by simp)
    have e0 : rd [a, b] 0 = a := rfl
    have e1 : rd [a, b] 1 = b := rfl
    rw [e0, e1]
    refine ⟨?_, ha, hbb⟩
    simp only [val]
    omega
theorem u16_two (a b : Int) (ha : 0 ≤ a ∧ a ≤ 255) (hb : 0 ≤ b ∧ b ≤ 255) : IntKind.u16.wrap ((IntKind.u16.wrap a) + (IntKind.u16.wrap (256 * (IntKind.u16.wrap b)))) = a + 256 * b := by
  simp only [wrap_u16]
  omega
def valueR (k : Int) (b : List Int) : Int × Bool := if k = 1 ∧ b.length = 2 then (IntKind.i16.wrap (val b), true) else (0, false)
theorem value_f (k s : Int) (b : List Int) (hb : Bytes b) : Ev (fun n => frame_Value.f n k s b) (valueR k b) := by
  refine Ev.congr (fun n => by rw [frame_Value.f]) ?_
  unfold valueR
  by_cases h1 : k = 1
  case neg => rw [if_neg (fun e => h1 e.1)]; exact Ev.neg h1 (Ev.now _)
  refine Ev.pos h1 ?_
  by_cases h2 : b.length = 2
  · rw [if_pos ⟨h1, h2⟩]
    exact Ev.pos (by omega) (Ev.bind (value_ev b hb (by omega)) (Ev.now _))
  · rw [if_neg (fun e => h2 e.2)]
    exact Ev.neg (by omega) (Ev.now _)
theorem rvalue_f (k s : Int) (b : List Int) (hb : Bytes b) : trickleref43_Value.f k s b = some (valueR k b) := by
  unfold trickleref43_Value.f valueR
  by_cases h1 : k = 1
  case neg => rw [if_neg h1, if_neg (fun e => h1 e.1)]
  by_cases h2 : b.length = 2
  · obtain ⟨hv, ha, hbb⟩ := two_val b hb h2
    rw [if_pos h1, if_pos (by omega), if_pos (by omega), if_pos (by omega), if_pos ⟨h1, h2⟩, u16_two _ _ ha hbb, hv]
  · rw [if_pos h1, if_neg (by omega), if_neg (fun e => h2 e.2)]
def offeredR (k : Int) (b : List Int) : Int × Int × Bool := if k = 3 ∧ b.length = 6 then (val (b.take 4), IntKind.u16.wrap (val (b.drop 4)), true) else (0, 0, false)
theorem offered_no (k s : Int) (b : List Int) : Ev (fun n => frame_Offered.j0 n true k s b) (0, 0, false) :=
  Ev.step (fun k => by rw [frame_Offered.j0]) (Ev.pos rfl (Ev.now _))
theorem offered_f (k s : Int) (b : List Int) (hb : Bytes b) : Ev (fun n => frame_Offered.f n k s b) (offeredR k b) := by
  refine Ev.congr (fun n => by rw [frame_Offered.f]) ?_
  unfold offeredR
  by_cases h1 : k = 3
  case neg => rw [if_neg (fun e => h1 e.1)]; exact Ev.neg h1 (offered_no k s b)
  refine Ev.pos h1 ?_
  by_cases h2 : b.length = 6
  · rw [if_pos ⟨h1, h2⟩, show ((b.length : Int) != 6) = false by rw [h2]; rfl]
    refine Ev.step (fun k => by rw [frame_Offered.j0]) ?_
    refine Ev.neg (by decide) ?_
    refine Ev.pos (show (4 : Int) ≤ (b.length : Int) by omega) ?_
    refine Ev.bind (value_ev (b.take 4) (hb.take 4) (by rw [List.length_take]; omega)) ?_
    exact Ev.bind (value_ev (b.drop 4) (hb.drop 4) (by rw [List.length_drop]; omega)) (Ev.now _)
  · rw [if_neg (fun e => h2 e.2), show ((b.length : Int) != 6) = true by rw [bne_iff_ne]; omega]
    exact offered_no k s b
theorem roffered_f (k s : Int) (b : List Int) (hb : Bytes b) : trickleref43_Offered.f k s b = some (offeredR k b) := by
  unfold trickleref43_Offered.f offeredR
  by_cases h1 : k = 3
  case neg => rw [if_neg h1, if_neg (fun e => h1 e.1)]
  by_cases h2 : b.length = 6
  · obtain ⟨hv, ha, hbb⟩ := two_val (b.drop 4) (hb.drop 4) (by rw [List.length_drop]; omega)
    have e0 : rd (b.drop 4) 0 = rd b 4 := rd_drop b 4 0
    have e1 : rd (b.drop 4) 1 = rd b 5 := rd_drop b 4 1
    rw [e0] at hv ha
    rw [e1] at hv hbb
    rw [if_pos h1, if_pos (by omega), rnumber_ev b hb (by omega), Option.bind_some, if_pos (by omega), if_pos (by omega), if_pos ⟨h1, h2⟩, u16_two _ _ ha hbb, hv, wrap_u16]
    have : (rd b 4 + 256 * rd b 5) % 65536 = rd b 4 + 256 * rd b 5 := by omega
    rw [this]
  · rw [if_pos h1, if_neg (by omega), if_neg (fun e => h2 e.2)]
theorem rchunked_j0 (k s : Int) (b : List Int) (hb : Bytes b) (hl : 4 ≤ b.length ∧ b.length ≤ 1000) : Ev (fun n => trickleref43_Chunked.j0 n false k s b) (val (b.take 4), b.drop 4, true) := by
  refine Ev.step (fun k => by rw [trickleref43_Chunked.j0]) ?_
  refine Ev.neg (by decide) (Ev.const (rnumber_ev b hb hl.1) (Ev.someb ?_))
  refine Ev.pos (by omega) ?_
  refine Ev.pos (show [].length + (b.drop 4).length < 140737488355328 by rw [List.length_drop, List.length_nil]; omega) ?_
  rw [List.nil_append]
  exact Ev.now _
theorem rchunked_no (k s : Int) (b : List Int) : Ev (fun n => trickleref43_Chunked.j0 n true k s b) (0, [], false) :=
  Ev.step (fun k => by rw [trickleref43_Chunked.j0]) (Ev.pos rfl (Ev.now _))
theorem rchunked_ev (k s : Int) (b : List Int) (hb : Bytes b) : Ev (fun n => trickleref43_Chunked.f n k s b) (chunkedR k b) := by
  refine Ev.congr (fun n => by rw [trickleref43_Chunked.f]) ?_
  unfold chunkedR chunkedB
  by_cases h1 : k = 4
  case neg =>
    rw [show decide (k = 4 ∧ 5 ≤ b.length ∧ b.length ≤ 40) = false by rw [decide_eq_false_iff_not]; exact fun e => h1 e.1]
    exact Ev.neg h1 (rchunked_no k s b)
  refine Ev.pos h1 ?_
  by_cases h2 : (b.length : Int) < 5
  · rw [show decide (k = 4 ∧ 5 ≤ b.length ∧ b.length ≤ 40) = false by rw [decide_eq_false_iff_not]; omega]
    exact Ev.pos h2 (rchunked_no k s b)
  refine Ev.neg h2 ?_
  by_cases h3 : (b.length : Int) > 40
  · rw [show decide (k = 4 ∧ 5 ≤ b.length ∧ b.length ≤ 40) = false by rw [decide_eq_false_iff_not]; omega]
    exact Ev.pos h3 (rchunked_no k s b)
  rw [show decide (k = 4 ∧ 5 ≤ b.length ∧ b.length ≤ 40) = true by rw [decide_eq_true_eq]; omega, Bool.true_and]
  refine Ev.neg h3 (Ev.const (rnumber_ev b hb (by omega)) ?_)
  by_cases h4 : val (b.take 4) ≤ 2147483647
  · rw [decide_eq_true h4, show decide (val (b.take 4) > 2147483647) = false by rw [decide_eq_false_iff_not]; omega, if_pos rfl]
    exact rchunked_j0 k s b hb ⟨by omega, by omega⟩
  · rw [decide_eq_false h4, show decide (val (b.take 4) > 2147483647) = true by rw [decide_eq_true_eq]; omega, if_neg (by decide)]
    exact rchunked_no k s b
end Go.Proofs.YtfhnpphceeoeeaaDoor.PX
namespace Go.Proofs.YtfhnpphceeoeeaaDoor.Pure
open Go.RowKit Go.Proofs.YtfhnpphceeoeeaaDoor.PX Go.Proofs.YtfhnpphceeoeeaaDoorW.PrintWords Go.Proofs.YtfhnpphceeoeeaaDoorW.PrintLast
set_option linter.unusedVariables false
theorem equals_f (k s : Int) (b : List Int) (k' s' : Int) (b' : List Int) : frame_Equal.f k s b k' s' b' = trickleref43_Equal.f k s b k' s' b' := by
  unfold frame_Equal.f trickleref43_Equal.f bytes_Equal.f
  rfl
theorem equal_some (k s : Int) (b : List Int) (k' s' : Int) (b' : List Int) : ∃ t, trickleref43_Equal.f k s b k' s' b' = some t := by
  unfold trickleref43_Equal.f
  repeat' split
  all_goals exact ⟨_, rfl⟩
theorem access_j0 (k s : Int) (b : List Int) (k' s' : Int) (b' : List Int) (hb : Bytes b) : Ev (fun n => tricklelaw43_FrameAccess.j0 n false k s b k' s' b') true := by
  obtain ⟨t, ht⟩ := equal_some k s b k' s' b'
  refine Ev.step (fun n => by rw [tricklelaw43_FrameAccess.j0]) ?_
  refine Ev.neg (by decide) ?_
  refine Ev.bind (value_f k s b hb) (Ev.const (rvalue_f k s b hb) ?_)
  refine Ev.bind (offered_f k s b hb) (Ev.const (roffered_f k s b hb) ?_)
  refine Ev.bind (chunked_ev k s b hb) (Ev.bind (rchunked_ev k s b hb) ?_)
  refine Ev.pos rfl (Ev.pos (beq_self_eq_true _) (Ev.pos rfl (Ev.pos rfl (Ev.pos (beq_self_eq_true _) (Ev.pos rfl (Ev.pos rfl (Ev.pos (beq_self_eq_true _) ?_)))))))
  refine Ev.const (a := t) (by rw [equals_f]; exact ht) (Ev.const ht ?_)
  refine Ev.pos (beq_self_eq_true _) ?_
  exact Ev.const (a := true) (by rw [equals_f]; exact equal_self k s b) (Ev.now _)
theorem FrameAccess (k s : Int) (b : List Int) (k' s' : Int) (b' : List Int) (hb : ∀ x ∈ b, 0 ≤ x ∧ x ≤ 255) (hb' : ∀ x ∈ b', 0 ≤ x ∧ x ≤ 255) : ∃ n, tricklelaw43_FrameAccess.f n k s b k' s' b' = some true := by
  have yes : Ev (fun n => tricklelaw43_FrameAccess.j0 n true k s b k' s' b') true := Ev.step (fun n => by rw [tricklelaw43_FrameAccess.j0]) (Ev.pos rfl (Ev.now _))
  refine Ev.rounds (Ev.congr (fun n => by rw [tricklelaw43_FrameAccess.f]) (Ev.bind wakes43 (Ev.pos rfl ?_)))
  refine Ev.const (a := decide ((b.length : Int) ≤ 100)) rfl ?_
  by_cases hl : (b.length : Int) ≤ 100
  case neg => exact Ev.neg (by rw [decide_eq_true_eq]; exact hl) yes
  refine Ev.pos (decide_eq_true hl) (Ev.const (a := decide ((b'.length : Int) ≤ 100)) rfl ?_)
  by_cases hl' : (b'.length : Int) ≤ 100
  · rw [decide_eq_true hl']
    exact access_j0 k s b k' s' b' hb
  · rw [decide_eq_false hl']
    exact yes
end Go.Proofs.YtfhnpphceeoeeaaDoor.Pure
