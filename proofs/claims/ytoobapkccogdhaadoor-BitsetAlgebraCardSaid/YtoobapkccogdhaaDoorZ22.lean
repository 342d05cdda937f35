/- Parts of the proof, merged in build order: PureBitsetAlgebra. -/
import Derived.Test.YtoobapkccogdhaaDoorZ8
import Derived.Test.YtoobapkccogdhaaDoorZ4
import Derived.Test.YtoobapkccogdhaaDoorZ9
import Derived.Test.YtoobapkccogdhaaDoorZ21
/- The laws of set algebra in plain words. -/
namespace Go.Proofs.YtoobapkccogdhaaDoor.Pure
open Go.RowKit Go.Proofs.YtoobapkccogdhaaDoor.PX Go.Proofs.YtoobapkccogdhaaDoorW.PrintWords Go.Proofs.YtoobapkccogdhaaDoorW.PrintLast Go.Proofs.YtoobapkccogdhaaDoorW.PrintMore
set_option linter.unusedVariables false
theorem parts (l : List Int) (p : Int → Bool) : (l.filter fun x => !p x).length + (l.filter p).length = l.length := by
  induction l with
  | nil => rfl
  | cons x l ih =>
    rw [List.filter_cons, List.filter_cons]
    cases hp : p x
    · rw [if_pos (by rfl), if_neg (by decide), List.length_cons, List.length_cons]; omega
    · rw [if_neg (by decide), if_pos rfl, List.length_cons, List.length_cons]; omega
theorem len_parts {x y m i : List Int} (hx : PX.Good x) (hm : PX.Good m) (hi : PX.Good i) (h1 : ∀ z, z ∈ elF 0 m ↔ (z ∈ elF 0 x ∧ ¬ z ∈ elF 0 y)) (h2 : ∀ z, z ∈ elF 0 i ↔ (z ∈ elF 0 x ∧ z ∈ elF 0 y)) : (elF 0 m).length + (elF 0 i).length = (elF 0 x).length := by
  have hs := srt_el hx.len
  have f : ∀ p : Int → Bool, Srt ((elF 0 x).filter p) := fun p => ⟨hs.1.sublist List.filter_sublist, fun z hz => hs.2 z (List.mem_filter.1 hz).1⟩
  have e1 : elF 0 m = (elF 0 x).filter fun z => !decide (z ∈ elF 0 y) := srt_eq (srt_el hm.len) (f _) (fun z => by rw [h1, List.mem_filter]; simp)
  have e2 : elF 0 i = (elF 0 x).filter fun z => decide (z ∈ elF 0 y) := srt_eq (srt_el hi.len) (f _) (fun z => by rw [h2, List.mem_filter]; simp)
  rw [e1, e2]
  exact parts _ _
theorem eq_true {a b : List Int} (ha : PX.Good a) (hb : PX.Good b) (h : ∀ z, z ∈ elF 0 a ↔ z ∈ elF 0 b) : Ev (fun k => bitset_Set_Equal.f k a b) true := Ev.cast (equal_ev ha hb) (decide_eq_true (srt_eq (srt_el ha.len) (srt_el hb.len) h))
theorem gl {a : List Int} (h : PX.Good a) : a.length ≤ 100000 := by have := h.len; omega
theorem BitsetAlgebra (a b c : List Int) (_ : ∀ x ∈ a, True) (_ : ∀ x ∈ b, True) (_ : ∀ x ∈ c, True) : ∃ k, tricklelaw04_BitsetAlgebra.f k a b c = some true := by
  refine Ev.rounds ?_
  refine Ev.congr (fun k => by rw [tricklelaw04_BitsetAlgebra.f]) (Ev.bind awake_ev (Ev.pos rfl (Ev.const (small_eq a) ?_)))
  by_cases ha : a.length ≤ 60
  · refine Ev.pos (decide_eq_true ha) (Ev.const (small_eq b) ?_)
    by_cases hb : b.length ≤ 60
    · refine Ev.pos (decide_eq_true hb) (Ev.const (small_eq c) ?_)
      refine Ev.step (fun k => by rw [tricklelaw04_BitsetAlgebra.j0]) ?_
      by_cases hc : c.length ≤ 60
      · refine Ev.neg (by rw [decide_eq_true hc]; decide) ?_
        obtain ⟨x, x1, x2, x3⟩ := of_ev a (by omega)
        obtain ⟨y, y1, y2, y3⟩ := of_ev b (by omega)
        obtain ⟨z, z1, z2, z3⟩ := of_ev c (by omega)
        clear x3 y3 z3
        obtain ⟨yz, yz1, yz2, yz3⟩ := union_ev y2 z2
        obtain ⟨p, p1, p2, p3⟩ := minus_ev x2 yz2
        obtain ⟨xy, xy1, xy2, xy3⟩ := minus_ev x2 y2
        obtain ⟨xz, xz1, xz2, xz3⟩ := minus_ev x2 z2
        obtain ⟨q, q1, q2, q3⟩ := inter_ev xy2 xz2
        obtain ⟨r, r1, r2, r3⟩ := inter_ev x2 yz2
        obtain ⟨iy, iy1, iy2, iy3⟩ := inter_ev x2 y2
        obtain ⟨iz, iz1, iz2, iz3⟩ := inter_ev x2 z2
        obtain ⟨s, s1, s2, s3⟩ := union_ev iy2 iz2
        obtain ⟨u, u1, u2, u3⟩ := union_ev x2 y2
        obtain ⟨v, v1, v2, v3⟩ := union_ev y2 x2
        have hlen := len_parts x2 xy2 iy2 xy3 iy3
        have hlx := srt_len (srt_el x2.len)
        refine Ev.bind x1 (Ev.bind y1 (Ev.bind z1 (Ev.bind yz1 (Ev.bind p1 (Ev.bind xy1 (Ev.bind xz1 (Ev.bind q1 (Ev.bind (eq_true p2 q2 ?_) (Ev.pos rfl ?_)))))))))
        · intro w
          rw [p3, q3, yz3, xy3, xz3]
          constructor
          · rintro ⟨h1, h2⟩
            exact ⟨⟨h1, fun h => h2 (Or.inl h)⟩, h1, fun h => h2 (Or.inr h)⟩
          · rintro ⟨⟨h1, h2⟩, _, h3⟩
            exact ⟨h1, fun h => h.elim h2 h3⟩
        refine Ev.bind yz1 (Ev.bind r1 (Ev.bind iy1 (Ev.bind iz1 (Ev.bind s1 (Ev.bind (eq_true r2 s2 ?_) (Ev.pos rfl ?_))))))
        · intro w
          rw [r3, s3, yz3, iy3, iz3]
          constructor
          · rintro ⟨h1, h2 | h2⟩
            · exact Or.inl ⟨h1, h2⟩
            · exact Or.inr ⟨h1, h2⟩
          · rintro (⟨h1, h2⟩ | ⟨h1, h2⟩)
            · exact ⟨h1, Or.inl h2⟩
            · exact ⟨h1, Or.inr h2⟩
        refine Ev.bind xy1 (Ev.bind (len_ev xy xy2.ok (gl xy2)) (Ev.bind iy1 (Ev.bind (len_ev iy iy2.ok (gl iy2)) (Ev.bind (len_ev x x2.ok (gl x2)) ?_))))
        refine Ev.pos (by rw [wrap_id (by omega) (by omega)]; omega) ?_
        refine Ev.bind (subset_ev x2 y2) (Ev.bind xy1 (Ev.bind (len_ev xy xy2.ok (gl xy2)) ?_))
        refine Ev.pos ?_ (Ev.bind u1 (Ev.bind v1 (Ev.bind (eq_true u2 v2 (fun w => by rw [u3, v3]; exact Or.comm)) (Ev.now _))))
        rw [beq_iff_eq]
        by_cases hn : elF 0 xy = []
        · rw [hn, decide_eq_true]
          · rfl
          · intro w hw
            by_cases h : w ∈ elF 0 y
            · exact h
            · have := (xy3 w).2 ⟨hw, h⟩
              rw [hn] at this; cases this
        · have hp := List.length_pos_iff.mpr hn
          have e : (((elF 0 xy).length : Int) == 0) = false := by
            rw [beq_eq_false_iff_ne]; omega
          rw [e, decide_eq_false]
          intro h
          obtain ⟨w, hw⟩ := List.exists_mem_of_ne_nil _ hn
          have := (xy3 w).1 hw
          exact this.2 (h w this.1)
      · exact Ev.pos (by rw [decide_eq_false hc]; rfl) (Ev.now _)
    · refine Ev.neg (by rw [decide_eq_false hb]; decide) ?_
      exact Ev.step (fun k => by rw [tricklelaw04_BitsetAlgebra.j0]) (Ev.pos rfl (Ev.now _))
  · refine Ev.neg (by rw [decide_eq_false ha]; decide) ?_
    exact Ev.step (fun k => by rw [tricklelaw04_BitsetAlgebra.j0]) (Ev.pos rfl (Ev.now _))
end Go.Proofs.YtoobapkccogdhaaDoor.Pure
