/- Parts of the proof, merged in build order: MRows, MClone, MCopy, MInc, MCons. -/
import Derived.Test.YteonloecenodbaaB5
import Derived.Test.YteonloecenodbaaB1
import Derived.Lib.SliceRun
import Derived.Test.YteonloecenodbaaB2
import Derived.Test.YteonloecenodbaaB4
/- Two rows of rows that are made: all apart. -/
namespace Go.Proofs.Yteonloecenodbaa.PX
open Go.RowKit Go.Shelf Go.Proofs.YteonloecenodbaaW.PrintWords Go.Proofs.YteonloecenodbaaW.PrintLast Go.Proofs.YteonloecenodbaaW.PrintMore
set_option linter.unusedVariables false
/-- Two outer rows with what lies in them. -/
structure Two (W : World) (n0 : Nat) (G C : Value) (gs cs : List Sl) (gl cl : List (List Int)) : Prop where
  qG : QQ kSl 33 W n0 G gs
  qC : QQ kSl 33 W n0 C cs
  gr : WRows W n0 gs gl
  cr : WRows W n0 cs cl
  a33 : Apart [G, C]
  a29 : Apart ((gs ++ cs).map Sl.v)
section
variable {W W1 W2 : World} {n0 : Nat} {G C : Value} {gs cs : List Sl} {gl cl : List (List Int)}
theorem QQ.nil {α : Type} (d : Kd α) (hE : d.E = []) (e : Nat) (W : World) (n0 : Nat) : QQ d e W n0 (.slice none 0 0) [] := ⟨hE, Kd.Q_nil _ _ _ _ _⟩
theorem Two.nil (W : World) (n0 : Nat) : Two W n0 (.slice none 0 0) (.slice none 0 0) [] [] [] [] :=
  ⟨QQ.nil _ rfl _ _ _, QQ.nil _ rfl _ _ _, ⟨rfl, fun _ _ _ h _ => by simp at h⟩, ⟨rfl, fun _ _ _ h _ => by simp at h⟩, by simp [Apart, Value.ownBlock], List.Pairwise.nil⟩
theorem Two.row_lt (h : Two W n0 G C gs cs gl cl) {u : Value} (hu : u ∈ (gs ++ cs).map Sl.v) : ∀ k, u.ownBlock = some k → n0 ≤ k ∧ k < W.heap.size := by
  obtain ⟨s, hs, rfl⟩ := List.mem_map.1 hu
  rcases List.mem_append.1 hs with hs | hs
  · obtain ⟨xs, hq⟩ := h.gr.mem hs
    exact fun k hk => ⟨hq.base k hk, hq.lt k hk⟩
  · obtain ⟨xs, hq⟩ := h.cr.mem hs
    exact fun k hk => ⟨hq.base k hk, hq.lt k hk⟩
theorem Two.move (h : Two W n0 G C gs cs gl cl) (hm : ∀ k, n0 ≤ k → k < W.heap.size → W1.heap[k]? = W.heap[k]?) : Two W1 n0 G C gs cs gl cl := by
  have key : ∀ {α : Type} {d : Kd α} {e : Nat} {v : Value} {xs : List α}, QQ d e W n0 v xs → QQ d e W1 n0 v xs := fun hq => hq.step (fun k hk => hm k (hq.base k hk) (hq.lt k hk))
  exact ⟨key h.qG, key h.qC, h.gr.imp (fun _ _ _ hq => key hq), h.cr.imp (fun _ _ _ hq => key hq), h.a33, h.a29⟩
theorem Two.below (h : Two W n0 G C gs cs gl cl) (hb : Below W.heap.size W W1) : Two W1 n0 G C gs cs gl cl := h.move (fun k _ hk => hb.block k hk)
theorem wrows_snoc (h : WRows W n0 gs gl) {s : Sl} {xs : List Int} (hq : QQ kI 29 W n0 s.v xs) : WRows W n0 (gs ++ [s]) (gl ++ [xs]) := by
  refine ⟨by simp [h.len], fun i s' xs' h1 h2 => ?_⟩
  rcases Nat.lt_or_ge i gs.length with hi | hi
  · rw [List.getElem?_append_left hi] at h1
    rw [List.getElem?_append_left (h.len ▸ hi)] at h2
    exact h.row i s' xs' h1 h2
  · have he : i = gs.length := by
      have := (List.getElem?_eq_some_iff.1 h1).1
      rw [List.length_append, List.length_singleton] at this
      omega
    subst he
    rw [List.getElem?_append_right (Nat.le_refl _), Nat.sub_self] at h1
    rw [h.len, List.getElem?_append_right (Nat.le_refl _), Nat.sub_self] at h2
    obtain rfl : s = s' := by simpa using h1
    obtain rfl : xs = xs' := by simpa using h2
    exact hq
theorem apart_snoc {l : List Value} (h : Apart l) {u : Value} (hf : ∀ x ∈ l, ∀ k, x.ownBlock = some k → u.ownBlock ≠ some k) : Apart (l ++ [u]) := by
  refine List.pairwise_append.2 ⟨h, List.pairwise_singleton _ _, fun a ha x hx k hk => ?_⟩
  rw [List.mem_singleton.1 hx]
  exact hf a ha k hk
theorem apart_mid {l m : List Value} (h : Apart (l ++ m)) {u : Value} (hf : ∀ x ∈ l ++ m, ∀ k, x.ownBlock = some k → u.ownBlock ≠ some k) : Apart (l ++ [u] ++ m) := by
  have h3 := List.pairwise_append.1 h
  refine List.pairwise_append.2 ⟨apart_snoc h3.1 (fun x hx => hf x (List.mem_append_left _ hx)), h3.2.1, fun a ha x hx k hk hxk => ?_⟩
  rcases List.mem_append.1 ha with ha | ha
  · exact h3.2.2 a ha x hx k hk hxk
  · rw [List.mem_singleton.1 ha] at hk
    exact hf x (List.mem_append_right _ hx) k hxk hk
/-- A new row goes behind the first rows. h: at the world with the new row; the new row is younger than all. -/
theorem Two.addG (h : Two W n0 G C gs cs gl cl) {s : Sl} {xs : List Int} (hq : QQ kI 29 W n0 s.v xs) (hnew : ∀ k, s.v.ownBlock = some k → ∀ x ∈ (gs ++ cs).map Sl.v, x.ownBlock ≠ some k)
    {w3 : World} {G1 : Value} (hG : kSl.Q 33 w3 n0 (fun _ => True) G1 (gs ++ [s])) (hg : W.grownBy w3 G.ownBlock) (hat : Lies W G G1) : Two w3 n0 G1 C (gs ++ [s]) cs (gl ++ [xs]) cl := by
  have nb : ∀ {α : Type} {d : Kd α} {e : Nat} {v : Value} {ys : List α}, QQ d e W n0 v ys → (∀ k, v.ownBlock = some k → G.ownBlock ≠ some k) → QQ d e w3 n0 v ys :=
    fun hq hr => hq.step (fun k hk => hg.block k (hq.lt k hk) (fun e => hr k hk e.symm))
  have hCG : ∀ k, C.ownBlock = some k → G.ownBlock ≠ some k := fun k hk hh => h.a33.head (by simp) k hh hk
  refine ⟨⟨rfl, hG⟩, nb h.qC hCG, wrows_snoc (h.gr.imp (fun _ _ _ hq => nb hq (fun k hk hh => hq.ne h.qG (by decide) k hk hh))) (nb hq (fun k hk hh => hq.ne h.qG (by decide) k hk hh)), h.cr.imp (fun _ _ _ hq => nb hq (fun k hk hh => hq.ne h.qG (by decide) k hk hh)), ?_, ?_⟩
  · refine List.pairwise_cons.2 ⟨fun u hu k hk => ?_, List.pairwise_singleton _ _⟩
    rw [List.mem_singleton.1 hu]
    rcases hat with e | ⟨g, e, hge⟩
    · exact fun hh => hCG k hh (e ▸ hk)
    · intro hh
      have := h.qC.lt k hh
      rw [e] at hk
      injection hk with hk
      omega
  · have := apart_mid (l := gs.map Sl.v) (m := cs.map Sl.v) (by rw [← List.map_append]; exact h.a29) (u := s.v) (fun x hx k hk hh => hnew k hh x (by rw [List.map_append]; exact hx) hk)
    simpa using this
/-- .. behind the second ones. -/
theorem Two.addC (h : Two W n0 G C gs cs gl cl) {s : Sl} {xs : List Int} (hq : QQ kI 29 W n0 s.v xs) (hnew : ∀ k, s.v.ownBlock = some k → ∀ x ∈ (gs ++ cs).map Sl.v, x.ownBlock ≠ some k)
    {w3 : World} {C1 : Value} (hC : kSl.Q 33 w3 n0 (fun _ => True) C1 (cs ++ [s])) (hg : W.grownBy w3 C.ownBlock) (hat : Lies W C C1) : Two w3 n0 G C1 gs (cs ++ [s]) gl (cl ++ [xs]) := by
  have nb : ∀ {α : Type} {d : Kd α} {e : Nat} {v : Value} {ys : List α}, QQ d e W n0 v ys → (∀ k, v.ownBlock = some k → C.ownBlock ≠ some k) → QQ d e w3 n0 v ys :=
    fun hq hr => hq.step (fun k hk => hg.block k (hq.lt k hk) (fun e => hr k hk e.symm))
  have hGC : ∀ k, G.ownBlock = some k → C.ownBlock ≠ some k := h.a33.head (by simp)
  refine ⟨nb h.qG hGC, ⟨rfl, hC⟩, h.gr.imp (fun _ _ _ hq => nb hq (fun k hk hh => hq.ne h.qC (by decide) k hk hh)), wrows_snoc (h.cr.imp (fun _ _ _ hq => nb hq (fun k hk hh => hq.ne h.qC (by decide) k hk hh))) (nb hq (fun k hk hh => hq.ne h.qC (by decide) k hk hh)), ?_, ?_⟩
  · refine List.pairwise_cons.2 ⟨fun u hu k hk => ?_, List.pairwise_singleton _ _⟩
    rw [List.mem_singleton.1 hu]
    rcases hat with e | ⟨g, e, hge⟩
    · rw [e]; exact hGC k hk
    · intro hh
      have := h.qG.lt k hk
      rw [e] at hh
      injection hh with hh
      omega
  · have := apart_snoc h.a29 (u := s.v) (fun x hx k hk hh => hnew k hh x hx hk)
    simpa using this
end
end Go.Proofs.Yteonloecenodbaa.PX
/- slices.Clone of []int16, in the printed form. -/
namespace Go.Proofs.Yteonloecenodbaa.PX
open Go.RowKit Go.Proofs.YteonloecenodbaaW.PrintWords Go.Proofs.YteonloecenodbaaW.PrintLast Go.Proofs.YteonloecenodbaaW.PrintMore
set_option linter.unusedVariables false
set_option linter.unusedSimpArgs false
def slices_Clone.f (l0 : List Int) : Option (List Int) := if l0.length ≤ 70368744177664 then some l0 else none
set_option maxHeartbeats 2000000 in
set_option maxRecDepth 100000 in
theorem slices_Clone.calls (A0 : Option Addr) (c0 : Nat) (l0 : List Int) (r : List Int) (w : World) (hr0 : Kd.C (Kd.int .i16) w A0 l0.length l0) (hc0 : l0.length ≤ c0) (h : slices_Clone.f l0 = some r) :
    Calls Try.prog 45 #[.slice A0 l0.length c0] w fun e w' => ∃ v0_ : Value, e = .returned (v0_) ∧ Kd.R (Kd.int .i16) 29 w' w.heap.size (fun _ => True) v0_ r ∧ Below w.heap.size w w' := by
  unfold slices_Clone.f at h
  split at h
  case isFalse => cases h
  rename_i hl
  obtain rfl := Option.some.inj h
  clear h
  cases A0 with
  | none =>
    have h0 : l0 = [] := by
      cases l0 with
      | nil => rfl
      | cons x r => obtain ⟨ad, e, _⟩ := hr0.2.2 (by simp); cases e
    subst h0
    have he : ∀ W, (binOp .eql 33 (.slice none 0 c0) (.slice none 0 0)).run Try.prog W = .ok (.bool true) W := fun W => Lib.run_eql_slice_nil W 33 29 none 0 c0 0 0 Try.underlying33
    go_enter Try.func45, Try.ntmps45
    go_wp2
    go_ret
    exact ⟨_, rfl, Kd.R_nil _ _ _ _ _, by repeat (first | exact Below.refl _ _ | apply below_drew1 | apply pw_below_drewN)⟩
  | some ad =>
    have HC := Aside0.mk hr0
    have HL := Aside0.mk hl
    clear hr0 hl
    have he : ∀ W, (binOp .eql 33 (.slice (some ad) l0.length c0) (.slice none 0 0)).run Try.prog W = .ok (.bool false) W := fun W => Lib.run_eql_slice_nil W 33 29 (some ad) _ c0 0 0 Try.underlying33
    go_enter Try.func45, Try.ntmps45
    go_wp2_with (first
      | ((with_reducible refine gate_dst (N := 5) rfl ?_); refine Kd.R_lit (Kd.int .i16) w.heap.size 29 ?hg (N := 5) ?hd (xs := ([] : List Int)) (inner := []) (ok := fun k_ => w.heap.size ≤ k_) (okp := fun _ => False) ?hr ?hp (fun _ hk => hk.elim) (Nat.le_refl _) (Below.refl _ _) (Nat.le_refl _) (by simp) ?_; (case hd => rfl); (case hg => rfl); (case hr => first | (go_simp; done) | (go_simp; rfl)); (case hp => exact (Reps.none _ _)); intro v1 w1 ho hb hg_ hnew_; have HO := Aside0.mk ho; have HB := Aside0.mk hb; clear ho hb hg_ hnew_; obtain ⟨A5, c5, e5⟩ := Kd.R_slice HO.out; subst e5; have hC1 := Kd.C_below HC.out HB.out; have hsz := below_size HB.out; try simp only [List.length_nil] at HO)
      | ((with_reducible refine gate_builtin (b := .append) (xs := #[.tmp 5, .tmp 6]) rfl ?_); at_builtin; refine Kd.R_append_rows (Kd.int .i16) (Rr := (Kd.int .i16).K w1) (w0 := w1) w.heap.size rfl (.tmp 5) (.tmp 6) 33 29 (.int .i16 0) 2 rfl Try.underlying33 info29 rfl (by decide) (by decide) (.slice A5 0 c5) [] l0 (some ad) l0.length c0 (fun k_ => w.heap.size ≤ k_) (fun _ => False) rfl rfl HO.out hC1 (fun x cs hx => hx) (fun _ hk => hk.elim) (fun k_ hk => Nat.le_trans hsz hk) (Below.refl _ _) hsz (by have := HL.out; simp; omega) ?_; intro v2 w2 ho2 hb2 hg2 hat2; rw [List.nil_append] at ho2))
    go_ret
    exact ⟨_, rfl, Kd.R_mono ho2 (fun _ _ => trivial), HB.out.trans hb2⟩
end Go.Proofs.Yteonloecenodbaa.PX
/- interp.Copy: every row a block of its own (gen_copy.py). -/
namespace Go.Proofs.Yteonloecenodbaa.PX
open Go.RowKit Go.Shelf Go.Proofs.YteonloecenodbaaW.PrintWords Go.Proofs.YteonloecenodbaaW.PrintLast Go.Proofs.YteonloecenodbaaW.PrintMore
set_option linter.unusedVariables false
/-- What Copy's variable holds. -/
structure Cpy (bo : Array Value) (w W : World) (G C : Value) (gs cs : List Sl) (gl cl : List (List Int)) : Prop where
  two : Two W w.heap.size G C gs cs gl cl
  out : W.heap[w.heap.size + 2]? = some (.cells #[G, C] 32 (0, 0))
  bx : W.heap[w.heap.size]? = some (.cells bo 32 (0, 0))
  res : ∃ a b, W.heap[w.heap.size + 1]? = some (.cells #[a, b] 32 (0, 0))
  B : Below w.heap.size w W
theorem Cpy.up {bo : Array Value} {w W W1 : World} {G C : Value} {gs cs : List Sl} {gl cl : List (List Int)} (h : Cpy bo w W G C gs cs gl cl) (hb : Below W.heap.size W W1) : Cpy bo w W1 G C gs cs gl cl :=
  ⟨h.two.below hb, (hb.block _ (Array.getElem?_eq_some_iff.1 h.out).1).trans h.out, (hb.block _ (Array.getElem?_eq_some_iff.1 h.bx).1).trans h.bx, by obtain ⟨a, b, hr⟩ := h.res; exact ⟨a, b, (hb.block _ (Array.getElem?_eq_some_iff.1 hr).1).trans hr⟩, h.B.trans (hb.mono h.B.size)⟩
/-- The row of a value as its three words. -/
theorem sl_of {W : World} {base : Nat} {ok : Nat → Prop} {v : Value} {xs : List Int} (h : Kd.R (Kd.int .i16) 29 W base ok v xs) : ∃ s : Sl, v = s.v := by
  obtain ⟨A, c, rfl⟩ := Kd.R_slice h
  exact ⟨⟨A, _, c⟩, rfl⟩
theorem old_rows {bo : Array Value} {w W : World} {G C : Value} {gs cs : List Sl} {gl cl : List (List Int)} (h : Cpy bo w W G C gs cs gl cl) {W1 : World} {s : Sl} {ok : Nat → Prop} {xs : List Int} (hr : Kd.R (Kd.int .i16) 29 W1 W.heap.size ok s.v xs) :
    ∀ k, s.v.ownBlock = some k → ∀ x ∈ (gs ++ cs).map Sl.v, x.ownBlock ≠ some k := fun k hk x hx hxk => by
  have h1 := (h.two.row_lt hx k hxk).2
  obtain ⟨_, inner, ho, _⟩ := hr
  have := own_base ho k hk
  omega
theorem blk_of_two {bo : Array Value} {w W : World} {G C : Value} {gs cs : List Sl} {gl cl : List (List Int)} (h : Cpy bo w W G C gs cs gl cl) : G.ownBlock ≠ some (w.heap.size + 2) ∧ C.ownBlock ≠ some (w.heap.size + 2) ∧ G.ownBlock ≠ some (w.heap.size + 1) ∧ C.ownBlock ≠ some (w.heap.size + 1) ∧ G.ownBlock ≠ some w.heap.size ∧ C.ownBlock ≠ some w.heap.size := by
  obtain ⟨a, b, hr⟩ := h.res
  exact ⟨h.two.qG.neb h.out (by decide), h.two.qC.neb h.out (by decide), h.two.qG.neb hr (by decide), h.two.qC.neb hr (by decide), h.two.qG.neb h.bx (by decide), h.two.qC.neb h.bx (by decide)⟩
theorem Two.set {W : World} {n0 : Nat} {G C : Value} {gs cs : List Sl} {gl cl : List (List Int)} (h : Two W n0 G C gs cs gl cl) {g t : Nat} {ce : Array Value} (hb : W.heap[g]? = some (.cells ce t (0, 0))) (h1 : 29 ≠ t) (h2 : 33 ≠ t) (j : Nat) (u : Value) : Two (W.setCell ⟨g, j, none⟩ u) n0 G C gs cs gl cl := by
  have tq : ∀ {α : Type} {d : Kd α} {e : Nat} {v : Value} {ys : List α}, QQ d e W n0 v ys → e ≠ t → QQ d e (W.setCell ⟨g, j, none⟩ u) n0 v ys := fun hq he => hq.step (fun k hk => Below.heap_setCell W ⟨g, j, none⟩ u k (fun e => hq.neb hb he (by rw [hk, e])))
  exact ⟨tq h.qG h2, tq h.qC h2, h.gr.imp (fun _ _ _ hq => tq hq h1), h.cr.imp (fun _ _ _ hq => tq hq h1), h.a33, h.a29⟩
theorem Cpy.addG {bo : Array Value} {w W W1 : World} {G C : Value} {gs cs : List Sl} {gl cl : List (List Int)} (h : Cpy bo w W G C gs cs gl cl) (hb : Below W.heap.size W W1) {s : Sl} {xs : List Int} (hr : Kd.R (Kd.int .i16) 29 W1 W.heap.size (fun _ => True) s.v xs) {w3 : World} {G1 : Value} (hG : kSl.Q 33 w3 w.heap.size (fun _ => True) G1 (gs ++ [s])) (hg : W1.grownBy w3 G.ownBlock) (hat : Lies W1 G G1) :
    Cpy bo w (w3.setCell ⟨w.heap.size + 2, 0, none⟩ G1) G1 C (gs ++ [s]) cs (gl ++ [xs]) cl := by
  have h1 := h.up hb
  have hne := blk_of_two h1
  have hq : QQ kI 29 W1 w.heap.size s.v xs := ⟨rfl, Kd.Q_of_R (Kd.R_lower hr h.B.size)⟩
  have h2 := h1.two.addG hq (old_rows h hr) hG hg hat
  have hnG : ∀ k, G1.ownBlock = some k → k ≠ w.heap.size + 2 := fun k hk e => by
    rcases hat with e1 | ⟨g, e1, hge⟩
    · exact hne.1 (by rw [← e1, hk, e])
    · rw [e1] at hk
      injection hk with hk
      have := (Array.getElem?_eq_some_iff.1 h1.out).1
      omega
  have hout := (hg.block _ (Array.getElem?_eq_some_iff.1 h1.out).1 (fun e => hne.1 e.symm)).trans h1.out
  obtain ⟨a, b, hres⟩ := h1.res
  have hfar : ∀ k, k ≠ w.heap.size + 2 → (w3.setCell ⟨w.heap.size + 2, 0, none⟩ G1).heap[k]? = w3.heap[k]? := fun k hk => Below.heap_setCell w3 ⟨w.heap.size + 2, 0, none⟩ G1 k hk
  have tq : ∀ {α : Type} {d : Kd α} {e : Nat} {v : Value} {ys : List α}, QQ d e w3 w.heap.size v ys → e ≠ 32 → QQ d e (w3.setCell ⟨w.heap.size + 2, 0, none⟩ G1) w.heap.size v ys := fun hq he => hq.step (fun k hk => hfar k (fun e => hq.neb hout he (by rw [hk, e])))
  refine ⟨⟨tq h2.qG (by decide), tq h2.qC (by decide), h2.gr.imp (fun _ _ _ hq => tq hq (by decide)), h2.cr.imp (fun _ _ _ hq => tq hq (by decide)), h2.a33, h2.a29⟩, (blk_set hout 0 G1).trans (by simp), (hfar _ (by omega)).trans ((hg.block _ (Array.getElem?_eq_some_iff.1 h1.bx).1 (fun e => hne.2.2.2.2.1 e.symm)).trans h1.bx), ⟨a, b, (hfar _ (by omega)).trans ((hg.block _ (Array.getElem?_eq_some_iff.1 hres).1 (fun e => hne.2.2.1 e.symm)).trans hres)⟩,
    (h1.B.grown hg h1.B.size (fun k e => h1.two.qG.base k e)).setCell (p := ⟨w.heap.size + 2, 0, none⟩) (Nat.le_add_right _ _) _⟩
theorem Cpy.addC {bo : Array Value} {w W W1 : World} {G C : Value} {gs cs : List Sl} {gl cl : List (List Int)} (h : Cpy bo w W G C gs cs gl cl) (hb : Below W.heap.size W W1) {s : Sl} {xs : List Int} (hr : Kd.R (Kd.int .i16) 29 W1 W.heap.size (fun _ => True) s.v xs) {w3 : World} {C1 : Value} (hC : kSl.Q 33 w3 w.heap.size (fun _ => True) C1 (cs ++ [s])) (hg : W1.grownBy w3 C.ownBlock) (hat : Lies W1 C C1) :
    Cpy bo w (w3.setCell ⟨w.heap.size + 2, 1, none⟩ C1) G C1 gs (cs ++ [s]) gl (cl ++ [xs]) := by
  have h1 := h.up hb
  have hne := blk_of_two h1
  have hq : QQ kI 29 W1 w.heap.size s.v xs := ⟨rfl, Kd.Q_of_R (Kd.R_lower hr h.B.size)⟩
  have h2 := h1.two.addC hq (old_rows h hr) hC hg hat
  have hout := (hg.block _ (Array.getElem?_eq_some_iff.1 h1.out).1 (fun e => hne.2.1 e.symm)).trans h1.out
  obtain ⟨a, b, hres⟩ := h1.res
  have hfar : ∀ k, k ≠ w.heap.size + 2 → (w3.setCell ⟨w.heap.size + 2, 1, none⟩ C1).heap[k]? = w3.heap[k]? := fun k hk => Below.heap_setCell w3 ⟨w.heap.size + 2, 1, none⟩ C1 k hk
  have tq : ∀ {α : Type} {d : Kd α} {e : Nat} {v : Value} {ys : List α}, QQ d e w3 w.heap.size v ys → e ≠ 32 → QQ d e (w3.setCell ⟨w.heap.size + 2, 1, none⟩ C1) w.heap.size v ys := fun hq he => hq.step (fun k hk => hfar k (fun e => hq.neb hout he (by rw [hk, e])))
  refine ⟨⟨tq h2.qG (by decide), tq h2.qC (by decide), h2.gr.imp (fun _ _ _ hq => tq hq (by decide)), h2.cr.imp (fun _ _ _ hq => tq hq (by decide)), h2.a33, h2.a29⟩, (blk_set hout 1 C1).trans (by simp), (hfar _ (by omega)).trans ((hg.block _ (Array.getElem?_eq_some_iff.1 h1.bx).1 (fun e => hne.2.2.2.2.2 e.symm)).trans h1.bx), ⟨a, b, (hfar _ (by omega)).trans ((hg.block _ (Array.getElem?_eq_some_iff.1 hres).1 (fun e => hne.2.2.2.1 e.symm)).trans hres)⟩,
    (h1.B.grown hg h1.B.size (fun k e => h1.two.qC.base k e)).setCell (p := ⟨w.heap.size + 2, 1, none⟩) (Nat.le_add_right _ _) _⟩
set_option maxRecDepth 100000 in
set_option maxHeartbeats 4000000 in
theorem copy_calls (A0 A1_ : Option Addr) (c0_ c1_ : Nat) (gl cl : List (List Int)) (w : World) (hC0 : Kd.C (Kd.slice 29 (Kd.int .i16)) w A0 gl.length gl) (hC1 : Kd.C (Kd.slice 29 (Kd.int .i16)) w A1_ cl.length cl) (hlg : gl.length ≤ 100000 ∧ cl.length ≤ 100000) (hsm : ∀ xs ∈ gl ++ cl, xs.length ≤ lim) :
    Calls Try.prog 22 #[.agg #[.slice A0 gl.length c0_, .slice A1_ cl.length c1_]] w fun e w' => ∃ G C, e = .returned (.agg #[G, C]) ∧ (∃ gs cs, Two w' w.heap.size G C gs cs gl cl) ∧ Below w.heap.size w w' := by
  have HC0 := Aside0.mk hC0
  have HC1 := Aside0.mk hC1
  have HSM := Aside0.mk hsm
  have HLM : Aside0 (gl.length ≤ 100000 ∧ cl.length ≤ 100000) := ⟨hlg⟩
  clear hC0 hC1 hsm hlg
  go_enter Try.func22, Try.ntmps22
  go_wp2
  obtain ⟨W0, hW0⟩ : ∃ W0, W0 = ((w.alloc (.cells #[.slice A0 gl.length c0_, .slice A1_ cl.length c1_] 32)).alloc (.cells #[.slice none 0 0, .slice none 0 0] 32)).alloc (.cells #[.slice none 0 0, .slice none 0 0] 32) := ⟨_, rfl⟩
  have hI0 : Cpy #[.slice A0 gl.length c0_, .slice A1_ cl.length c1_] w W0 (.slice none 0 0) (.slice none 0 0) [] [] [] [] := by
    have hb1 : Below w.heap.size w (w.alloc (.cells #[.slice A0 gl.length c0_, .slice A1_ cl.length c1_] 32)) := below_alloc (Below.refl _ _) _
    refine ⟨Two.nil _ _, ?_, ?_, ⟨.slice none 0 0, .slice none 0 0, ?_⟩, ?_⟩
    · rw [hW0]
      have := World.alloc_heap_new ((w.alloc (.cells #[.slice A0 gl.length c0_, .slice A1_ cl.length c1_] 32)).alloc (.cells #[.slice none 0 0, .slice none 0 0] 32)) (.cells #[.slice none 0 0, .slice none 0 0] 32)
      rwa [World.size_alloc, World.size_alloc] at this
    · rw [hW0]
      exact (Below.heap_alloc _ _ _ (by simp; omega)).trans ((Below.heap_alloc _ _ _ (by simp)).trans (World.alloc_heap_new w _))
    · rw [hW0]
      have := World.alloc_heap_new (w.alloc (.cells #[.slice A0 gl.length c0_, .slice A1_ cl.length c1_] 32)) (.cells #[.slice none 0 0, .slice none 0 0] 32)
      rw [World.size_alloc] at this
      exact (Below.heap_alloc _ _ _ (by simp)).trans this
    · rw [hW0]
      exact below_alloc (below_alloc hb1 _) _
  rw [← hW0]
  have HI0 := Aside0.mk hI0
  have HI0_ := HI0
  clear hI0 hW0
  go_loopw [11] (fun v11 wr => ∃ (i : Nat) (G : Value) (gs : List Sl), v11 = .int .i64 (i : Int) ∧ Aside0 (i ≤ gl.length) ∧ Aside0 (gs.length = i) ∧ Aside0 (Cpy #[.slice A0 gl.length c0_, .slice A1_ cl.length c1_] w wr G (.slice none 0 0) gs [] (gl.take i) [])) (fun v11 _ => gl.length - (intOf v11).toNat)
  case atStart => exact ⟨0, .slice none 0 0, [], rfl, ⟨Nat.zero_le _⟩, ⟨rfl⟩, HI0⟩
  case round =>
    obtain ⟨i, G, gs, rfl, HN, HGL, HI⟩ := hrel
    by_cases hil : i < gl.length
    · have hlt : (i : Int) < (gl.length : Int) := by omega
      have hge : (0 : Int) ≤ (i : Int) := by omega
      obtain ⟨ad, A1, c1, e1, x0, hcl, hC1⟩ := at_L4 HC0.out (i : Int) hge hlt
      cases e1
      simp only [show rd_L4 gl (i : Int) = gl.getD i [] from rfl, Int.toNat_natCast] at x0 hcl hC1
      have htk : gl.take (i + 1) = gl.take i ++ [gl.getD i []] := by rw [List.take_add_one, List.getD_eq_getElem?_getD, List.getElem?_eq_getElem hil]; rfl
      have hsm : (gl.getD i []).length ≤ lim := HSM.out _ (by rw [List.getD_eq_getElem?_getD, List.getElem?_eq_getElem hil]; exact List.mem_append_left _ (List.getElem_mem hil))
      generalize hrw : gl.getD i [] = row at x0 hcl hC1 htk hsm
      have HF : Aside0 (slices_Clone.f row = some row) := ⟨by unfold slices_Clone.f; rw [if_pos (by unfold lim at hsm; omega)]⟩
      have HTK := Aside0.mk htk
      have HR := Aside0.mk (Kd.C_below hC1 HI.out.B)
      have HLN : Aside0 (gs.length < lim) := ⟨by have := HGL.out; have := HLM.out; unfold lim; omega⟩
      replace x0 := cell_up HI.out.B x0
      have hw : wrap64 ((i : Int) + 1) = ((i + 1 : Nat) : Int) := by have := HLM.out; unfold wrap64; omega
      have HW := Aside0.mk hw
      have c0 : wr.cell? ⟨w.heap.size + 2, 0, none⟩ = some G := (blk_cell HI.out.out 0).trans rfl
      clear hC1 htk hsm hw
      go_wp2
      refine start_ (n := 8) (S := (fun w' => w'.cell? ⟨w.heap.size + 2, 0, none⟩ = some G)) (ds := [7]) #[false, false, false, false, false, false, false, false] (by kernel_rfl) rfl rfl c0 (fun hHeld => ?_)
      refine pure_ (i := 0) (N := some 15) (v := ?_) (a' := ?_) #[true, false, false, false, false, false, false, false] rfl rfl (by kernel_rfl) (fun _ _ _ h => h) (Or.inl ⟨by rfl, ?_⟩) ?_ ?_
      rotate_left
      · intro w'
        go_simp
        with_reducible rfl
      rotate_left
      · simp only [Act.put, List.setIfInBounds_toArray, List.set_cons_zero, List.set_cons_succ]
        rfl
      refine take_ (i := 1) (N := some 16) (v := ?_) (a' := ?_) #[true, true, false, false, false, false, false, false] rfl rfl (by kernel_rfl) (fun _ _ _ h => h) (Or.inl ⟨by rfl, ?_⟩) hHeld ?_ ?_
      rotate_left
      · rintro w' s0
        go_simp
        with_reducible rfl
      rotate_left
      · simp only [Act.put, List.setIfInBounds_toArray, List.set_cons_zero, List.set_cons_succ]
        rfl
      refine pure_ (i := 2) (N := some 17) (v := ?_) (a' := ?_) #[true, true, true, false, false, false, false, false] rfl rfl (by kernel_rfl) (fun _ _ _ h => h) (Or.inl ⟨by rfl, ?_⟩) ?_ ?_
      rotate_left
      · intro w'
        go_simp
        with_reducible rfl
      rotate_left
      · simp only [Act.put, List.setIfInBounds_toArray, List.set_cons_zero, List.set_cons_succ]
        rfl
      refine one_ (i := 3) (N := some 18) #[true, true, true, true, false, false, false, false] rfl rfl (by kernel_rfl) (by decide) (fun K hK => ?_)
      refine goes_ Try.func45 (by kernel_rfl) rfl #[.slice A1 row.length c1] (by rfl) rfl rfl (by (try simp only [List.map_toArray, List.map_cons, List.map_nil]); first | done | rfl | (simp only [List.length_drop, List.length_take]; rfl)) ?_
      refine (slices_Clone.calls A1 c1 row row _ (Kd.C_below HR.out (below_drew1 (Below.refl _ _))) hcl HF.out).mono ?_
      rintro e W1 ⟨v1, rfl, hr1, hb1⟩
      refine ⟨_, rfl, ?_⟩
      obtain ⟨s1, rfl⟩ := sl_of hr1
      have hI1 := HI.out.up (below_drew1 (Below.refl wr.heap.size wr))
      have HI1 := Aside0.mk hI1
      have HR1 := Aside0.mk hr1
      have HB1 := Aside0.mk hb1
      clear hHeld c0 hI1 hr1 hb1
      have hI2 := HI1.out.up HB1.out
      have c0 := (blk_cell hI2.out 0).trans rfl
      clear hI2
      refine hK.out _ _ c0 (fun hHeld => ?_)
      clear hK K
      refine norm_ (a' := ?_) ?_ ?_
      rotate_left
      · show Act.put _ (some 18) _ = _
        simp only [Act.put, List.setIfInBounds_toArray, List.set_cons_zero, List.set_cons_succ]
        rfl
      refine one_ (i := 4) (N := some 19) #[true, true, true, true, true, false, false, false] rfl rfl (by kernel_rfl) (by decide) (fun K hK => ?_)
      refine event_step (w1 := W1.alloc (.cells #[s1.v] 33)) (v := .slice (some ⟨W1.heap.size, 0, none⟩) 1 1) (by rfl) (by first | (go_simp; done) | (go_simp; rfl)) ?_
      have d0 := cell_up (below_alloc (Below.refl W1.heap.size W1) (.cells #[s1.v] 33)) c0
      clear hHeld c0
      refine hK.out _ _ d0 (fun hHeld => ?_)
      clear hK K
      refine norm_ (a' := ?_) ?_ ?_
      rotate_left
      · show Act.put _ (some 19) _ = _
        simp only [Act.put, List.setIfInBounds_toArray, List.set_cons_zero, List.set_cons_succ]
        rfl
      refine one_ (i := 5) (N := some 20) #[true, true, true, true, true, true, false, false] rfl rfl (by kernel_rfl) (by decide) (fun K hK => ?_)
      refine Kd.Q_append_step kSl (w0 := w) w.heap.size ?hw (.tmp 16) (.tmp 19) 30 33 (.slice none 0 0) 24 rfl Try.underlying30 info33 rfl (by decide) (by decide) G gs s1 [s1.v] (fun _ => True) (fun _ => False) rfl rfl ?aP (fun _ hk => hk.elim) ?aF ?aO ?aB ?aS ?aL ?_
      case hw => rfl
      case aP => exact rfl
      case aF => exact fun _ _ => trivial
      case aO => exact (HI1.out.up HB1.out).two.qG.q
      case aB => exact (HI1.out.up HB1.out).B
      case aS => exact (HI1.out.up HB1.out).B.size
      case aL => have := HLN.out; unfold lim at this; omega
      intro u1 w3 ho3 hb3 hg3 ha3
      have hI3 := HI1.out.addG HB1.out HR1.out ho3 hg3 ha3
      have hout := (hg3.block _ (Array.getElem?_eq_some_iff.1 (HI1.out.up HB1.out).out).1 (fun e => (blk_of_two (HI1.out.up HB1.out)).1 e.symm)).trans (HI1.out.up HB1.out).out
      have c0 : w3.cell? ⟨w.heap.size + 2, 0, none⟩ = some G := (blk_cell hout 0).trans rfl
      have f0 := blk_frozen hout 0
      obtain ⟨A9, c9, rfl, _⟩ := Kd.Q_slice ho3
      rw [show (gs ++ [s1]).length = gs.length + 1 by simp] at hI3
      have HI3 := Aside0.mk hI3
      clear hHeld d0 hI3 ho3 hb3 hg3 ha3 hout
      refine hK.out _ _ c0 (fun hHeld => ?_)
      clear hK K
      refine norm_ (a' := ?_) ?_ ?_
      rotate_left
      · show Act.put _ (some 20) _ = _
        simp only [Act.put, List.setIfInBounds_toArray, List.set_cons_zero, List.set_cons_succ]
        rfl
      refine pure_ (i := 6) (N := some 21) (v := ?_) (a' := ?_) #[true, true, true, true, true, true, true, false] rfl rfl (by kernel_rfl) (fun _ _ _ h => h) (Or.inl ⟨by rfl, ?_⟩) ?_ ?_
      rotate_left
      · intro w'
        go_simp
        with_reducible rfl
      rotate_left
      · simp only [Act.put, List.setIfInBounds_toArray, List.set_cons_zero, List.set_cons_succ]
        rfl
      refine last_ (i := 7) (N := none) #[true, true, true, true, true, true, true, true] rfl rfl (by kernel_rfl) (by decide) (fun K hK => ?_)
      go_simp
      refine hK.out _ _ ?_
      clear hK K
      refine done_ (by kernel_rfl) ?_
      go_wp2
      go_roundw
      case rel => exact ⟨i + 1, _, gs ++ [s1], by rw [HW.out], ⟨hil⟩, ⟨by rw [List.length_append, List.length_singleton, HGL.out]⟩, ⟨by rw [HTK.out]; exact HI3.out⟩⟩
      case measure =>
        have hz := HW.out
        clear HW
        generalize wrap64 ((i : Int) + 1) = z at hz ⊢
        subst hz
        show gl.length - (((i + 1 : Nat) : Int)).toNat < gl.length - ((i : Nat) : Int).toNat
        rw [Int.toNat_natCast, Int.toNat_natCast]
        exact Nat.sub_lt_sub_left hil (Nat.lt_succ_self i)
    · have hge2 : ¬ (i : Int) < (gl.length : Int) := by omega
      have hI := HI.out
      rw [List.take_of_length_le (by omega)] at hI
      clear HI
      have HI0 := Aside0.mk hI
      have b1 : wr.cell? ⟨w.heap.size, 1, none⟩ = some (.slice A1_ cl.length c1_) := (blk_cell hI.bx 1).trans rfl
      clear hI HI0_
      go_wp2
      clear b1 HN HGL hge2 hil
      go_loopw [26] (fun v26 wr => ∃ (i : Nat) (C : Value) (cs : List Sl), v26 = .int .i64 (i : Int) ∧ Aside0 (i ≤ cl.length) ∧ Aside0 (cs.length = i) ∧ Aside0 (Cpy #[.slice A0 gl.length c0_, .slice A1_ cl.length c1_] w wr G C gs cs gl (cl.take i))) (fun v26 _ => cl.length - (intOf v26).toNat)
      case atStart => exact ⟨0, .slice none 0 0, [], rfl, ⟨Nat.zero_le _⟩, ⟨rfl⟩, HI0⟩
      case round =>
        obtain ⟨i, C, cs, rfl, HN, HGL, HI⟩ := hrel
        by_cases hil : i < cl.length
        · have hlt : (i : Int) < (cl.length : Int) := by omega
          have hge : (0 : Int) ≤ (i : Int) := by omega
          obtain ⟨ad, A1, c1, e1, x0, hcl, hC1⟩ := at_L4 HC1.out (i : Int) hge hlt
          cases e1
          simp only [show rd_L4 cl (i : Int) = cl.getD i [] from rfl, Int.toNat_natCast] at x0 hcl hC1
          have htk : cl.take (i + 1) = cl.take i ++ [cl.getD i []] := by rw [List.take_add_one, List.getD_eq_getElem?_getD, List.getElem?_eq_getElem hil]; rfl
          have hsm : (cl.getD i []).length ≤ lim := HSM.out _ (by rw [List.getD_eq_getElem?_getD, List.getElem?_eq_getElem hil]; exact List.mem_append_right _ (List.getElem_mem hil))
          generalize hrw : cl.getD i [] = row at x0 hcl hC1 htk hsm
          have HF : Aside0 (slices_Clone.f row = some row) := ⟨by unfold slices_Clone.f; rw [if_pos (by unfold lim at hsm; omega)]⟩
          have HTK := Aside0.mk htk
          have HR := Aside0.mk (Kd.C_below hC1 HI.out.B)
          have HLN : Aside0 (cs.length < lim) := ⟨by have := HGL.out; have := HLM.out; unfold lim; omega⟩
          replace x0 := cell_up HI.out.B x0
          have hw : wrap64 ((i : Int) + 1) = ((i + 1 : Nat) : Int) := by have := HLM.out; unfold wrap64; omega
          have HW := Aside0.mk hw
          have c0 : wr.cell? ⟨w.heap.size + 2, 1, none⟩ = some C := (blk_cell HI.out.out 1).trans rfl
          clear hC1 htk hsm hw
          go_wp2
          refine start_ (n := 8) (S := (fun w' => w'.cell? ⟨w.heap.size + 2, 1, none⟩ = some C)) (ds := [7]) #[false, false, false, false, false, false, false, false] (by kernel_rfl) rfl rfl c0 (fun hHeld => ?_)
          refine pure_ (i := 0) (N := some 30) (v := ?_) (a' := ?_) #[true, false, false, false, false, false, false, false] rfl rfl (by kernel_rfl) (fun _ _ _ h => h) (Or.inl ⟨by rfl, ?_⟩) ?_ ?_
          rotate_left
          · intro w'
            go_simp
            with_reducible rfl
          rotate_left
          · simp only [Act.put, List.setIfInBounds_toArray, List.set_cons_zero, List.set_cons_succ]
            rfl
          refine take_ (i := 1) (N := some 31) (v := ?_) (a' := ?_) #[true, true, false, false, false, false, false, false] rfl rfl (by kernel_rfl) (fun _ _ _ h => h) (Or.inl ⟨by rfl, ?_⟩) hHeld ?_ ?_
          rotate_left
          · rintro w' s0
            go_simp
            with_reducible rfl
          rotate_left
          · simp only [Act.put, List.setIfInBounds_toArray, List.set_cons_zero, List.set_cons_succ]
            rfl
          refine pure_ (i := 2) (N := some 32) (v := ?_) (a' := ?_) #[true, true, true, false, false, false, false, false] rfl rfl (by kernel_rfl) (fun _ _ _ h => h) (Or.inl ⟨by rfl, ?_⟩) ?_ ?_
          rotate_left
          · intro w'
            go_simp
            with_reducible rfl
          rotate_left
          · simp only [Act.put, List.setIfInBounds_toArray, List.set_cons_zero, List.set_cons_succ]
            rfl
          refine one_ (i := 3) (N := some 33) #[true, true, true, true, false, false, false, false] rfl rfl (by kernel_rfl) (by decide) (fun K hK => ?_)
          refine goes_ Try.func45 (by kernel_rfl) rfl #[.slice A1 row.length c1] (by rfl) rfl rfl (by (try simp only [List.map_toArray, List.map_cons, List.map_nil]); first | done | rfl | (simp only [List.length_drop, List.length_take]; rfl)) ?_
          refine (slices_Clone.calls A1 c1 row row _ (Kd.C_below HR.out (below_drew1 (Below.refl _ _))) hcl HF.out).mono ?_
          rintro e W1 ⟨v1, rfl, hr1, hb1⟩
          refine ⟨_, rfl, ?_⟩
          obtain ⟨s1, rfl⟩ := sl_of hr1
          have hI1 := HI.out.up (below_drew1 (Below.refl wr.heap.size wr))
          have HI1 := Aside0.mk hI1
          have HR1 := Aside0.mk hr1
          have HB1 := Aside0.mk hb1
          clear hHeld c0 hI1 hr1 hb1
          have hI2 := HI1.out.up HB1.out
          have c0 := (blk_cell hI2.out 1).trans rfl
          clear hI2
          refine hK.out _ _ c0 (fun hHeld => ?_)
          clear hK K
          refine norm_ (a' := ?_) ?_ ?_
          rotate_left
          · show Act.put _ (some 33) _ = _
            simp only [Act.put, List.setIfInBounds_toArray, List.set_cons_zero, List.set_cons_succ]
            rfl
          refine one_ (i := 4) (N := some 34) #[true, true, true, true, true, false, false, false] rfl rfl (by kernel_rfl) (by decide) (fun K hK => ?_)
          refine event_step (w1 := W1.alloc (.cells #[s1.v] 33)) (v := .slice (some ⟨W1.heap.size, 0, none⟩) 1 1) (by rfl) (by first | (go_simp; done) | (go_simp; rfl)) ?_
          have d0 := cell_up (below_alloc (Below.refl W1.heap.size W1) (.cells #[s1.v] 33)) c0
          clear hHeld c0
          refine hK.out _ _ d0 (fun hHeld => ?_)
          clear hK K
          refine norm_ (a' := ?_) ?_ ?_
          rotate_left
          · show Act.put _ (some 34) _ = _
            simp only [Act.put, List.setIfInBounds_toArray, List.set_cons_zero, List.set_cons_succ]
            rfl
          refine one_ (i := 5) (N := some 35) #[true, true, true, true, true, true, false, false] rfl rfl (by kernel_rfl) (by decide) (fun K hK => ?_)
          refine Kd.Q_append_step kSl (w0 := w) w.heap.size ?hw (.tmp 31) (.tmp 34) 30 33 (.slice none 0 0) 24 rfl Try.underlying30 info33 rfl (by decide) (by decide) C cs s1 [s1.v] (fun _ => True) (fun _ => False) rfl rfl ?aP (fun _ hk => hk.elim) ?aF ?aO ?aB ?aS ?aL ?_
          case hw => rfl
          case aP => exact rfl
          case aF => exact fun _ _ => trivial
          case aO => exact (HI1.out.up HB1.out).two.qC.q
          case aB => exact (HI1.out.up HB1.out).B
          case aS => exact (HI1.out.up HB1.out).B.size
          case aL => have := HLN.out; unfold lim at this; omega
          intro u1 w3 ho3 hb3 hg3 ha3
          have hI3 := HI1.out.addC HB1.out HR1.out ho3 hg3 ha3
          have hout := (hg3.block _ (Array.getElem?_eq_some_iff.1 (HI1.out.up HB1.out).out).1 (fun e => (blk_of_two (HI1.out.up HB1.out)).2.1 e.symm)).trans (HI1.out.up HB1.out).out
          have c0 : w3.cell? ⟨w.heap.size + 2, 1, none⟩ = some C := (blk_cell hout 1).trans rfl
          have f0 := blk_frozen hout 1
          obtain ⟨A9, c9, rfl, _⟩ := Kd.Q_slice ho3
          rw [show (cs ++ [s1]).length = cs.length + 1 by simp] at hI3
          have HI3 := Aside0.mk hI3
          clear hHeld d0 hI3 ho3 hb3 hg3 ha3 hout
          refine hK.out _ _ c0 (fun hHeld => ?_)
          clear hK K
          refine norm_ (a' := ?_) ?_ ?_
          rotate_left
          · show Act.put _ (some 35) _ = _
            simp only [Act.put, List.setIfInBounds_toArray, List.set_cons_zero, List.set_cons_succ]
            rfl
          refine pure_ (i := 6) (N := some 36) (v := ?_) (a' := ?_) #[true, true, true, true, true, true, true, false] rfl rfl (by kernel_rfl) (fun _ _ _ h => h) (Or.inl ⟨by rfl, ?_⟩) ?_ ?_
          rotate_left
          · intro w'
            go_simp
            with_reducible rfl
          rotate_left
          · simp only [Act.put, List.setIfInBounds_toArray, List.set_cons_zero, List.set_cons_succ]
            rfl
          refine last_ (i := 7) (N := none) #[true, true, true, true, true, true, true, true] rfl rfl (by kernel_rfl) (by decide) (fun K hK => ?_)
          go_simp
          refine hK.out _ _ ?_
          clear hK K
          refine done_ (by kernel_rfl) ?_
          go_wp2
          go_roundw
          case rel => exact ⟨i + 1, _, cs ++ [s1], by rw [HW.out], ⟨hil⟩, ⟨by rw [List.length_append, List.length_singleton, HGL.out]⟩, ⟨by rw [HTK.out]; exact HI3.out⟩⟩
          case measure =>
            have hz := HW.out
            clear HW
            generalize wrap64 ((i : Int) + 1) = z at hz ⊢
            subst hz
            show cl.length - (((i + 1 : Nat) : Int)).toNat < cl.length - ((i : Nat) : Int).toNat
            rw [Int.toNat_natCast, Int.toNat_natCast]
            exact Nat.sub_lt_sub_left hil (Nat.lt_succ_self i)
        · have hge2 : ¬ (i : Int) < (cl.length : Int) := by omega
          have hI := HI.out
          rw [List.take_of_length_le (by omega)] at hI
          clear HI
          have c0 : wr.cell? ⟨w.heap.size + 2, 0, none⟩ = some G := (blk_cell hI.out 0).trans rfl
          have c1 : wr.cell? ⟨w.heap.size + 2, 1, none⟩ = some C := (blk_cell hI.out 1).trans rfl
          have HI := Aside0.mk hI
          obtain ⟨ra, rb, hres⟩ := hI.res
          obtain ⟨AG, cG, hGv, _⟩ := Kd.Q_slice hI.two.qG.q
          obtain ⟨AC, cC, hCv, _⟩ := Kd.Q_slice hI.two.qC.q
          subst hGv hCv
          have r0 : wr.cell? ⟨w.heap.size + 1, 0, none⟩ = some ra := (blk_cell hres 0).trans rfl
          have r1 : wr.cell? ⟨w.heap.size + 1, 1, none⟩ = some rb := (blk_cell hres 1).trans rfl
          have f0 := blk_frozen hres 0
          have f1 := blk_frozen hres 1
          have HRES := Aside0.mk hres
          clear hI hres
          go_wp2
          have b2 := blk_set (blk_set HRES.out 0 (.slice AG gs.length cG)) 1 (.slice AC cs.length cC)
          refine bodyPost_ret (results_cell_row rfl _ _ (w.heap.size + 1) 32 #[.slice AG gs.length cG, .slice AC cs.length cC] (0, 0) _ rfl (b2.trans (by simp)) Try.underlying32 rfl (by kernel_rfl)) rfl ?_
          exact ⟨_, _, rfl, ⟨gs, cs, (HI.out.two.set HRES.out (by decide) (by decide) 0 _).set (blk_set HRES.out 0 _) (by decide) (by decide) 1 _⟩, (HI.out.B.setCell (p := ⟨w.heap.size + 1, 0, none⟩) (Nat.le_add_right _ _) _).setCell (p := ⟨w.heap.size + 1, 1, none⟩) (Nat.le_add_right _ _) _⟩
end Go.Proofs.Yteonloecenodbaa.PX
/- Rows whose elements are written; what is older than they stays. -/
namespace Go.Proofs.Yteonloecenodbaa.PX
open Go.RowKit Go.Shelf Go.Proofs.YteonloecenodbaaW.PrintWords Go.Proofs.YteonloecenodbaaW.PrintLast Go.Proofs.YteonloecenodbaaW.PrintMore
set_option linter.unusedVariables false
structure Inc (W0 wr : World) (n0 : Nat) (v : Value) (ss : List Sl) : Prop where
  q : QQ kSl 33 wr n0 v ss
  r : ∃ xss, WRows wr n0 ss xss
  a : Apart (ss.map Sl.v)
  b : Below n0 W0 wr
theorem Inc.row {W0 wr : World} {n0 : Nat} {A : Option Addr} {n c : Nat} {ss : List Sl} (h : Inc W0 wr n0 (.slice A n c) ss) (i : Nat) (hi : i < ss.length) :
    ∃ ad A1 n1 c1, A = some ad ∧ ss[i]? = some ⟨A1, n1, c1⟩ ∧ wr.cell? (ad.add i) = some (.slice A1 n1 c1) ∧ n1 ≤ 9223372036854775807 := by
  obtain ⟨xss, hx⟩ := h.r
  have hl := hx.len
  obtain ⟨ad, e, hn, A1, c1, hs, hc, hq⟩ := row_of h.q hx (i : Int) (by omega) (by omega)
  rw [Int.toNat_natCast] at hs hc hq
  obtain ⟨_, _, hC⟩ := Kd.Q_reads' hq.q
  exact ⟨ad, A1, _, c1, e, hs, hc, hC.2.1⟩
theorem Inc.elem {W0 wr : World} {n0 : Nat} {v : Value} {ss : List Sl} (h : Inc W0 wr n0 v ss) {i j : Nat} {A1 : Option Addr} {n1 c1 : Nat} (hs : ss[i]? = some ⟨A1, n1, c1⟩) (hj : j < n1) :
    ∃ ad x, A1 = some ad ∧ wr.cell? (ad.add j) = some (.int .i16 x) ∧ wr.frozen? (ad.add j) = false ∧ ∀ y, Inc W0 (wr.setCell (ad.add j) (.int .i16 y)) n0 v ss := by
  obtain ⟨xss, hx⟩ := h.r
  have hlt : i < ss.length := (List.getElem?_eq_some_iff.1 hs).1
  have hxi : xss[i]? = some (xss[i]'(hx.len ▸ hlt)) := List.getElem?_eq_getElem _
  generalize xss[i]'(hx.len ▸ hlt) = xs at hxi
  have hq := hx.row _ _ _ hs hxi
  have hn : n1 = xs.length := (Kd.Q_reads' hq.q).1
  obtain ⟨g, o, cap, e, hb, hglt, _⟩ := Kd.Q_form hq.q (by omega)
  simp only [Sl.v, Value.slice.injEq] at e
  obtain ⟨e1, e2, e3⟩ := e
  subst e1 e2 e3
  have hq2 : (Kd.scalar (Value.int .i16) (fun _ => rfl)).Q 29 wr n0 (fun _ => True) (.slice (some ⟨g, o, none⟩) xs.length c1) xs := hq.q
  have hi : ((j : Nat) : Int) < (xs.length : Int) := Int.ofNat_lt.2 hj
  obtain ⟨hc, hf⟩ := Kd.Q_cell 0 hq2 (j : Int) (by omega) hi
  rw [Int.toNat_natCast] at hc hf
  refine ⟨⟨g, o, none⟩, _, rfl, by rw [add_norm]; exact hc, by rw [add_norm]; exact hf, fun y => ?_⟩
  obtain ⟨hp, hgr⟩ := Kd.Q_putg hq2 (j : Int) (by omega) hi y
  rw [Int.toNat_natCast] at hp hgr
  rw [add_norm]
  have ht : Turn wr (wr.setCell ⟨g, o + j, none⟩ (.int .i16 y)) (fun k => k = g) := fun k hk hn => hgr.block k hk (fun e => hn (Option.some.inj e))
  have hown : (Sl.v ⟨some ⟨g, o, none⟩, xs.length, c1⟩).ownBlock = some g := by
    show (Value.slice (some ⟨g, o, none⟩) xs.length c1).ownBlock = some g
    simp [Value.ownBlock]
  refine ⟨h.q.turn ht (fun k hk e => ?_), ⟨xss.set i (xs.set j y), by rw [List.length_set]; exact hx.len, fun i' s' xs' h1 h2 => ?_⟩, h.a, h.b.setCell hb _⟩
  · subst e
    exact h.q.ne hq (by decide) k hk hown
  · by_cases e : i' = i
    · subst e
      rw [List.getElem?_set_self (hx.len ▸ hlt)] at h2
      obtain rfl := Option.some.inj h2
      rw [hs] at h1
      obtain rfl := Option.some.inj h1
      exact QQ.mk rfl hp
    · rw [List.getElem?_set_ne (fun e' => e e'.symm)] at h2
      refine (hx.row _ _ _ h1 h2).turn ht (fun k hk e2 => ?_)
      subst e2
      have hlt' : i' < ss.length := (List.getElem?_eq_some_iff.1 h1).1
      have h1' : (ss.map Sl.v)[i']? = some s'.v := by rw [List.getElem?_map, h1]; rfl
      have hs' : (ss.map Sl.v)[i]? = some (Sl.v ⟨some ⟨k, o, none⟩, xs.length, c1⟩) := by rw [List.getElem?_map, hs]; rfl
      have hpw := List.pairwise_iff_getElem.1 h.a
      have hl1 : i' < (ss.map Sl.v).length := by rw [List.length_map]; exact hlt'
      have hl2 : i < (ss.map Sl.v).length := by rw [List.length_map]; exact hlt
      have g1 := (List.getElem?_eq_some_iff.1 h1').2
      have g2 := (List.getElem?_eq_some_iff.1 hs').2
      rcases Nat.lt_or_gt_of_ne e with hl | hl
      · have := hpw i' i hl1 hl2 hl k (by rw [g1]; exact hk)
        exact this (by rw [g2]; exact hown)
      · have := hpw i i' hl2 hl1 hl k (by rw [g2]; exact hown)
        exact this (by rw [g1]; exact hk)
/-- A state that was copied, told as rows of rows. -/
theorem two_read {W : World} {n0 : Nat} {A : Option Addr} {n c : Nat} {ss : List Sl} {xss : List (List Int)} (hG : QQ kSl 33 W n0 (.slice A n c) ss) (hr : WRows W n0 ss xss) : n = xss.length ∧ n ≤ c ∧ Kd.C (Kd.slice 29 (Kd.int .i16)) W A xss.length xss := by
  obtain ⟨hn, hnc, hC⟩ := Kd.Q_reads' hG.q
  have hl := hr.len
  refine ⟨hn.trans hl, hnc, rfl, by have := hC.2.1; omega, fun h0 => ?_⟩
  obtain ⟨ad, e, hc⟩ := hC.2.2 (by omega)
  refine ⟨ad, e, fun j p hj => ?_⟩
  have hjl : j < xss.length := (List.getElem?_eq_some_iff.1 hj).1
  have hjs : j < ss.length := by omega
  obtain ⟨cs, hcl, hK, hcc⟩ := hc j _ (List.getElem?_eq_getElem hjs)
  have hq := hr.row _ _ _ (List.getElem?_eq_getElem hjs) hj
  refine ⟨cs, hcl, ?_, hcc⟩
  have hK' : cs = [Sl.v ss[j]] := hK
  subst hK'
  obtain ⟨A1, c1, e1, hl1, hC1⟩ := Kd.Q_reads hq.q
  exact ⟨A1, c1, by rw [e1], hl1, hC1⟩
end Go.Proofs.Yteonloecenodbaa.PX
/- interp.consume (gen_cons.py). -/
namespace Go.Proofs.Yteonloecenodbaa.PX
open Go.RowKit Go.Shelf Go.Proofs.YteonloecenodbaaW.PrintWords Go.Proofs.YteonloecenodbaaW.PrintLast Go.Proofs.YteonloecenodbaaW.PrintMore
set_option linter.unusedVariables false
/-- What consume leaves of the channels. -/
def consE (E : Env) (cl : List (List Int)) (task : Nat) : Option (List (List Int)) :=
  (lookE E (E.l5.getD task z61).f3).bind fun r =>
    if r.1 = 6 then (if 0 ≤ r.2.1 ∧ r.2.1 < (cl.length : Int) then (if (cl.getD r.2.1.toNat []).length = 0 then some cl else some (cl.set r.2.1.toNat ((cl.getD r.2.1.toNat []).drop 1))) else none)
    else some cl
set_option maxRecDepth 100000 in
set_option maxHeartbeats 4000000 in
theorem consume_calls {w0 W : World} {p : PV} {E : Env} (hP : PC w0 p E) (hB : Below w0.heap.size w0 W) {A5 : Option Addr} {c5 : Nat} (hp5 : p.v5 = .slice A5 E.l5.length c5) (hC5 : Kd.C k61 w0 A5 E.l5.length E.l5) (sb so : Nat) {n0 : Nat} {Cv : Value} {cs : List Sl} {cl cl' : List (List Int)} (hcell : W.cell? ⟨sb, so + 1, none⟩ = some Cv) (hQ : QQ kSl 33 W n0 Cv cs) (hR : WRows W n0 cs cl)
    (task : Nat) (ht : task < E.l5.length) (hv : consE E cl task = some cl') :
    Calls Try.prog 50 #[.agg #[p.v0, p.v1, p.v2, p.v3, p.v4, p.v5], .int .i64 (task : Int), .pointer (some ⟨sb, so, none⟩)] W fun e W' => e = .returned (.tuple #[]) ∧ ∃ W1, Below W.heap.size W W1 ∧ ((W' = W1 ∧ cl' = cl) ∨
      ∃ i s s1 ad c, Cv = .slice (some ad) cl.length c ∧ cs[i]? = some s ∧ cl' = cl.set i ((cl.getD i []).drop 1) ∧ W' = W1.setCell (ad.add i) (Sl.v s1) ∧ kI.Q 29 W1 n0 (fun _ => True) (Sl.v s1) ((cl.getD i []).drop 1) ∧ (Sl.v s1).ownBlock = (Sl.v s).ownBlock) := by
  have HP := Aside0.mk hP
  have HB := Aside0.mk hB
  have HQC := Aside0.mk hQ
  have HRC := Aside0.mk hR
  have hlt : ((task : Nat) : Int) < (E.l5.length : Int) := by omega
  have hge : (0 : Int) ≤ ((task : Nat) : Int) := by omega
  obtain ⟨adT, A6, c6, rfl, q0, q1, q2, q3, q4, q5, q6, q7, _, _⟩ := at_T61 hC5 (task : Int) hge hlt
  simp only [show rd_T61 E.l5 (task : Int) = E.l5.getD task z61 from rfl, Int.toNat_natCast] at q3
  unfold consE at hv
  obtain ⟨⟨r1, r2, r3⟩, hr, hv⟩ := Option.bind_eq_some_iff.1 hv
  simp only at hv
  generalize (E.l5.getD task z61).f3 = nm at q3 hr
  obtain ⟨v0, v1, v2, v3, v4, v5⟩ := p
  simp only at hp5
  subst hp5
  have HR := Aside0.mk hr
  have ql := cell_up HB.out q3
  have qm := cell_up (below_alloc (Below.refl W.heap.size W) (.cells #[v0, v1, v2, v3, v4, .slice (some adT) E.l5.length c5] 28)) ql
  clear hP hB hQ hR hr hC5 q0 q1 q2 q3 q4 q5 q6 q7 ql
  obtain ⟨W2, hW2⟩ : ∃ W2, W2 = W.alloc (.cells #[v0, v1, v2, v3, v4, .slice (some adT) E.l5.length c5] 28) := ⟨_, rfl⟩
  have hk : W2.heap[W.heap.size]? = some (.cells #[v0, v1, v2, v3, v4, .slice (some adT) E.l5.length c5] 28 (0, 0)) := by rw [hW2]; exact World.alloc_heap_new W _
  have hB2 : Below W.heap.size W W2 := by rw [hW2]; exact below_alloc (Below.refl _ _) _
  have hcell2 := cell_up hB2 hcell
  have HK := Aside0.mk hk
  have HB2 := Aside0.mk hB2
  clear hk hB2 hcell
  have b0 : W2.cell? ⟨W.heap.size, 0, none⟩ = some v0 := (blk_cell HK.out 0).trans rfl
  have b1 : W2.cell? ⟨W.heap.size, 1, none⟩ = some v1 := (blk_cell HK.out 1).trans rfl
  have b2 : W2.cell? ⟨W.heap.size, 2, none⟩ = some v2 := (blk_cell HK.out 2).trans rfl
  have b3 : W2.cell? ⟨W.heap.size, 3, none⟩ = some v3 := (blk_cell HK.out 3).trans rfl
  have b4 : W2.cell? ⟨W.heap.size, 4, none⟩ = some v4 := (blk_cell HK.out 4).trans rfl
  have b5 : W2.cell? ⟨W.heap.size, 5, none⟩ = some (.slice (some adT) E.l5.length c5) := (blk_cell HK.out 5).trans rfl
  go_enter Try.func50, Try.ntmps50
  go_wp2
  rw [← hW2] at qm ⊢
  clear hW2
  go_region_held3 (fun w' => w'.cell? ⟨W.heap.size, 0, none⟩ = some v0 ∧ w'.cell? ⟨W.heap.size, 1, none⟩ = some v1 ∧ w'.cell? ⟨W.heap.size, 2, none⟩ = some v2 ∧ w'.cell? ⟨W.heap.size, 3, none⟩ = some v3 ∧ w'.cell? ⟨W.heap.size, 4, none⟩ = some v4 ∧ w'.cell? ⟨W.heap.size, 5, none⟩ = some (.slice (some adT) E.l5.length c5) ∧ w'.cell? ⟨(adT.add (task * 8)).block, (adT.add (task * 8)).off + 3, none⟩ = some (.string nm)) (go_keep)
    (first
      | (go_at_call 74; refine (HP.out.look (HB.out.trans ((HB2.out.trans ((below_drew1 (Below.refl _ _)).mono HB2.out.size)).mono HB.out.size)) HR.out).mono ?_; rintro e W3 ⟨rfl, hB3⟩; have hB4 := (below_drew1 (Below.refl W2.heap.size W2)).trans (hB3.mono (below_drew1 (Below.refl W2.heap.size W2)).size); replace b0 := cell_up hB4 b0; replace b1 := cell_up hB4 b1; replace b2 := cell_up hB4 b2; replace b3 := cell_up hB4 b3; replace b4 := cell_up hB4 b4; replace b5 := cell_up hB4 b5; replace qm := cell_up hB4 qm; have c0 := cell_up hB4 hcell2; have HB3 : Aside0 (Below W.heap.size W W3) := ⟨HB2.out.trans (hB4.mono HB2.out.size)⟩; clear hcell2 hB3 hB4))
  clear b0 b1 b2 b3 b4 b5 qm
  by_cases k6 : r1 = 6
  · rw [if_pos k6] at hv
    subst k6
    split at hv
    case isFalse => cases hv
    rename_i hi
    obtain ⟨hi0, hi1⟩ := hi
    obtain ⟨AC, cC, hCv, _⟩ := Kd.Q_slice HQC.out.q
    subst hCv
    have hqc3 : QQ kSl 33 W3 n0 (.slice AC cs.length cC) cs := HQC.out.step (fun k hk => HB3.out.block k (HQC.out.lt k hk))
    have hrc3 : WRows W3 n0 cs cl := HRC.out.imp (fun _ _ _ hq => hq.step (fun k hk => HB3.out.block k (hq.lt k hk)))
    obtain ⟨ad, rfl, hn, A1, c1, hs, hx0, hq⟩ := row_of hqc3 hrc3 r2 hi0 hi1
    rw [hn] at c0 hqc3
    have hQg : (Kd.scalar Sl.v (fun _ => rfl)).Q 33 W3 n0 (fun _ => True) (.slice (some ad) cl.length cC) cs := hqc3.q
    obtain ⟨gg, oo, cap, ee, hgg⟩ := Kd.Q_form hqc3.q (by omega)
    simp only [Value.slice.injEq] at ee
    obtain ⟨ee1, ee2, ee3⟩ := ee
    have had : ad = ⟨gg, oo, none⟩ := Option.some.inj ee1
    have hfz : W3.frozen? (ad.add r2.toNat) = false := by
      rw [had] at hQg
      obtain ⟨_, hf⟩ := Kd.Q_cell ⟨none, 0, 0⟩ hQg r2 hi0 (by omega)
      rw [had, add_norm]
      exact hf
    have HCV : Aside0 (Value.slice (some ad) cs.length cC = Value.slice (some ad) cl.length cC) := ⟨by rw [hn]⟩
    have HFZ := Aside0.mk hfz
    have HS := Aside0.mk hs
    have HQ := Aside0.mk hq
    clear hqc3 hrc3 hQg hfz hs hq ee1 ee2 ee3 hn hgg had
    generalize hrow : cl.getD r2.toNat [] = row at *
    by_cases hz : row.length = 0
    · rw [if_pos hz] at hv
      obtain rfl := Option.some.inj hv
      have hzz : decide ((row.length : Int) > 0) = false := decide_eq_false (by omega)
      rw [hz] at hx0
      go_wp2
      go_end0
      exact ⟨rfl, W3, HB3.out, .inl (by first | exact ⟨rfl, rfl⟩ | rfl)⟩
    · rw [if_neg hz] at hv
      obtain rfl := Option.some.inj hv
      have hpos : 1 ≤ row.length := by omega
      have hpi : (0 : Int) < (row.length : Int) := by omega
      have hsl : ∀ W : World, (Instr.slice 33 (.slice A1 row.length c1) (some (.int .i64 1)) none none).run Try.prog W = .ok (.slice (if c1 = 1 then A1 else A1.map (·.add (1 * 1))) (row.length - 1) (c1 - 1)) W := fun W => by
        obtain ⟨i0, hi, hzz⟩ := Option.map_eq_some_iff.1 info29
        simp only [Prod.mk.injEq] at hzz
        exact cut_from (P := Try.prog) 33 29 .i64 Try.underlying33 hi 1 hzz.2.1 A1 row.length c1 1 (by omega) (by omega) W
      go_wp2
      have e0 := c0
      have e1 := hx0
      refine start_ (n := 15) (S := (fun w' => w'.cell? ⟨sb, so + 1, none⟩ = some (.slice (some ad) cl.length cC) ∧ w'.cell? (ad.add r2.toNat) = some (.slice A1 row.length c1))) (ds := [14]) #[false, false, false, false, false, false, false, false, false, false, false, false, false, false, false] (by kernel_rfl) rfl rfl ⟨e0, e1⟩ (fun hHeld => ?_)
      refine pure_ (i := 0) (N := some 34) (v := ?_) (a' := ?_) #[true, false, false, false, false, false, false, false, false, false, false, false, false, false, false] rfl rfl (by kernel_rfl) (fun _ _ _ h => h) (Or.inl ⟨by rfl, ?_⟩) ?_ ?_
      rotate_left
      · intro w'
        go_simp
        with_reducible rfl
      rotate_left
      · simp only [Act.put, List.setIfInBounds_toArray, List.set_cons_zero, List.set_cons_succ]
        rfl
      refine pure_ (i := 1) (N := some 35) (v := ?_) (a' := ?_) #[true, true, false, false, false, false, false, false, false, false, false, false, false, false, false] rfl rfl (by kernel_rfl) (fun _ _ _ h => h) (Or.inl ⟨by rfl, ?_⟩) ?_ ?_
      rotate_left
      · intro w'
        go_simp
        with_reducible rfl
      rotate_left
      · simp only [Act.put, List.setIfInBounds_toArray, List.set_cons_zero, List.set_cons_succ]
        rfl
      refine pure_ (i := 2) (N := some 36) (v := ?_) (a' := ?_) #[true, true, true, false, false, false, false, false, false, false, false, false, false, false, false] rfl rfl (by kernel_rfl) (fun _ _ _ h => h) (Or.inl ⟨by rfl, ?_⟩) ?_ ?_
      rotate_left
      · intro w'
        go_simp
        with_reducible rfl
      rotate_left
      · simp only [Act.put, List.setIfInBounds_toArray, List.set_cons_zero, List.set_cons_succ]
        rfl
      refine take_ (i := 3) (N := some 37) (v := ?_) (a' := ?_) #[true, true, true, true, false, false, false, false, false, false, false, false, false, false, false] rfl rfl (by kernel_rfl) (fun _ _ _ h => h) (Or.inl ⟨by rfl, ?_⟩) hHeld ?_ ?_
      rotate_left
      · rintro w' ⟨s0, s1⟩
        go_simp
        with_reducible rfl
      rotate_left
      · simp only [Act.put, List.setIfInBounds_toArray, List.set_cons_zero, List.set_cons_succ]
        rfl
      refine pure_ (i := 4) (N := some 38) (v := ?_) (a' := ?_) #[true, true, true, true, true, false, false, false, false, false, false, false, false, false, false] rfl rfl (by kernel_rfl) (fun _ _ _ h => h) (Or.inl ⟨by rfl, ?_⟩) ?_ ?_
      rotate_left
      · intro w'
        go_simp
        with_reducible rfl
      rotate_left
      · simp only [Act.put, List.setIfInBounds_toArray, List.set_cons_zero, List.set_cons_succ]
        rfl
      refine pure_ (i := 5) (N := some 39) (v := ?_) (a' := ?_) #[true, true, true, true, true, true, false, false, false, false, false, false, false, false, false] rfl rfl (by kernel_rfl) (fun _ _ _ h => h) (Or.inl ⟨by rfl, ?_⟩) ?_ ?_
      rotate_left
      · intro w'
        go_simp
        with_reducible rfl
      rotate_left
      · simp only [Act.put, List.setIfInBounds_toArray, List.set_cons_zero, List.set_cons_succ]
        rfl
      refine pure_ (i := 6) (N := some 40) (v := ?_) (a' := ?_) #[true, true, true, true, true, true, true, false, false, false, false, false, false, false, false] rfl rfl (by kernel_rfl) (fun _ _ _ h => h) (Or.inl ⟨by rfl, ?_⟩) ?_ ?_
      rotate_left
      · intro w'
        go_simp
        with_reducible rfl
      rotate_left
      · simp only [Act.put, List.setIfInBounds_toArray, List.set_cons_zero, List.set_cons_succ]
        rfl
      refine pure_ (i := 7) (N := some 41) (v := ?_) (a' := ?_) #[true, true, true, true, true, true, true, true, false, false, false, false, false, false, false] rfl rfl (by kernel_rfl) (fun _ _ _ h => h) (Or.inl ⟨by rfl, ?_⟩) ?_ ?_
      rotate_left
      · intro w'
        go_simp
        with_reducible rfl
      rotate_left
      · simp only [Act.put, List.setIfInBounds_toArray, List.set_cons_zero, List.set_cons_succ]
        rfl
      refine take_ (i := 8) (N := some 42) (v := ?_) (a' := ?_) #[true, true, true, true, true, true, true, true, true, false, false, false, false, false, false] rfl rfl (by kernel_rfl) (fun _ _ _ h => h) (Or.inl ⟨by rfl, ?_⟩) hHeld ?_ ?_
      rotate_left
      · rintro w' ⟨s0, s1⟩
        go_simp
        with_reducible rfl
      rotate_left
      · simp only [Act.put, List.setIfInBounds_toArray, List.set_cons_zero, List.set_cons_succ]
        rfl
      refine pure_ (i := 9) (N := some 43) (v := ?_) (a' := ?_) #[true, true, true, true, true, true, true, true, true, true, false, false, false, false, false] rfl rfl (by kernel_rfl) (fun _ _ _ h => h) (Or.inl ⟨by rfl, ?_⟩) ?_ ?_
      rotate_left
      · intro w'
        go_simp
        with_reducible rfl
      rotate_left
      · simp only [Act.put, List.setIfInBounds_toArray, List.set_cons_zero, List.set_cons_succ]
        rfl
      refine pure_ (i := 10) (N := some 44) (v := ?_) (a' := ?_) #[true, true, true, true, true, true, true, true, true, true, true, false, false, false, false] rfl rfl (by kernel_rfl) (fun _ _ _ h => h) (Or.inl ⟨by rfl, ?_⟩) ?_ ?_
      rotate_left
      · intro w'
        go_simp
        with_reducible rfl
      rotate_left
      · simp only [Act.put, List.setIfInBounds_toArray, List.set_cons_zero, List.set_cons_succ]
        rfl
      refine take_ (i := 11) (N := some 45) (v := ?_) (a' := ?_) #[true, true, true, true, true, true, true, true, true, true, true, true, false, false, false] rfl rfl (by kernel_rfl) (fun _ _ _ h => h) (Or.inl ⟨by rfl, ?_⟩) hHeld ?_ ?_
      rotate_left
      · rintro w' ⟨s0, s1⟩
        go_simp
        with_reducible rfl
      rotate_left
      · simp only [Act.put, List.setIfInBounds_toArray, List.set_cons_zero, List.set_cons_succ]
        rfl
      refine pure_ (i := 12) (N := some 46) (v := ?_) (a' := ?_) #[true, true, true, true, true, true, true, true, true, true, true, true, true, false, false] rfl rfl (by kernel_rfl) (fun _ _ _ h => h) (Or.inl ⟨by rfl, ?_⟩) ?_ ?_
      rotate_left
      · intro w'
        go_simp
        with_reducible rfl
      rotate_left
      · simp only [Act.put, List.setIfInBounds_toArray, List.set_cons_zero, List.set_cons_succ]
        rfl
      refine pure_ (i := 13) (N := some 47) (v := ?_) (a' := ?_) #[true, true, true, true, true, true, true, true, true, true, true, true, true, true, false] rfl rfl (by kernel_rfl) (fun _ _ _ h => h) (Or.inl ⟨by rfl, ?_⟩) ?_ ?_
      rotate_left
      · intro w'
        go_simp
        with_reducible rfl
      rotate_left
      · simp only [Act.put, List.setIfInBounds_toArray, List.set_cons_zero, List.set_cons_succ]
        rfl
      refine last_ (i := 14) (N := none) #[true, true, true, true, true, true, true, true, true, true, true, true, true, true, true] rfl rfl (by kernel_rfl) (by decide) (fun K hK => ?_)
      have e1' := cell_up (below_drew1 (Below.refl _ W3)) e1
      have fz : W3.drew.frozen? (ad.add r2.toNat) = false := HFZ.out
      go_simp
      refine hK.out _ _ ?_
      clear hK K
      refine done_ (by kernel_rfl) ?_
      go_end0
      refine ⟨rfl, W3.drew, HB3.out.trans ((below_drew1 (Below.refl _ W3)).mono HB3.out.size), .inr ⟨r2.toNat, _, ⟨if c1 = 1 then A1 else A1.map (·.add (1 * 1)), row.length - 1, c1 - 1⟩, ad, cC, HCV.out, HS.out, by rw [hrow], rfl, ?_, ?_⟩⟩
      · rw [hrow]; exact Kd.Q_drop (Kd.Q_drew HQ.out.q) hpos
      · show (Value.slice (if c1 = 1 then A1 else A1.map (·.add (1 * 1))) (row.length - 1) (c1 - 1)).ownBlock = (Value.slice A1 row.length c1).ownBlock
        split
        · cases A1 <;> rfl
        · cases A1 with
          | none => rfl
          | some a1 => simp [Value.ownBlock, Addr.add]
  · rw [if_neg k6] at hv
    obtain rfl := Option.some.inj hv
    have k6b : (r1 == 6) = false := beq_eq_false_iff_ne.mpr k6
    go_wp2
    go_end0
    exact ⟨rfl, W3, HB3.out, .inl (by first | exact ⟨rfl, rfl⟩ | rfl)⟩
end Go.Proofs.Yteonloecenodbaa.PX
