/- Parts of the proof, merged in build order: Dg1, PureDiagFormat, PureDiagList, MLawO, MLawO2, PureDiagOrder, Handed. -/
import Derived.Test.YtahgghbhpmpgfaaDoorO2
import Derived.Test.YtahgghbhpmpgfaaDoorO1
import Derived.Handed
import Derived.SevenTiedAt
import Derived.ProofKit
import Derived.ChangeOld
/- Position in plain words: the line and the column behind a text. -/
namespace Go.Proofs.YtahgghbhpmpgfaaDoor.PX
open Go.RowKit Go.Proofs.YtahgghbhpmpgfaaDoorW.PrintWords Go.Proofs.YtahgghbhpmpgfaaDoorW.PrintLast Go.Proofs.YtahgghbhpmpgfaaDoorW.PrintMore
set_option linter.unusedVariables false
set_option linter.unusedSimpArgs false
def bs (s : ByteArray) : List UInt8 := s.data.toList
theorem bs_size (s : ByteArray) : s.size = (bs s).length := rfl
theorem bs_take (s : ByteArray) (j : Nat) : bs (s.extract 0 j) = (bs s).take j := by show (s.extract 0 j).data.toList = _; rw [Lib.extract_data]; simp [bs]
theorem bt_bs (s : ByteArray) (j : Nat) (h : j < (bs s).length) : bt s (j : Int) = (((bs s)[j]).toNat : Int) := by
  unfold bt
  rw [Int.toNat_natCast, dif_pos (show j < s.size from h)]
  rfl
/-- One byte further. -/
def stepP (p : Nat × Nat) (c : UInt8) : Nat × Nat := if c = 10 then (p.1 + 1, 1) else (p.1, p.2 + 1)
/-- The line and the column behind a text. -/
def posOf (l : List UInt8) : Nat × Nat := l.foldl stepP (1, 1)
theorem posOf_nil : posOf [] = (1, 1) := rfl
theorem posOf_snoc (l : List UInt8) (c : UInt8) : posOf (l ++ [c]) = stepP (posOf l) c := by
  unfold posOf
  rw [List.foldl_append]
  rfl
theorem snoc_ind {P : List UInt8 → Prop} (h0 : P []) (h1 : ∀ l c, P l → P (l ++ [c])) (l : List UInt8) : P l := by
  have : ∀ n (l : List UInt8), l.length = n → P l := by
    intro n
    induction n with
    | zero => intro l hl; rw [List.length_eq_zero_iff.mp hl]; exact h0
    | succ n ih =>
      intro l hl
      have hne : l ≠ [] := by rintro rfl; cases hl
      rw [← List.dropLast_concat_getLast hne]
      exact h1 _ _ (ih _ (by rw [List.length_dropLast]; omega))
  exact this _ l rfl
theorem pos_range (l : List UInt8) : 1 ≤ (posOf l).1 ∧ (posOf l).1 ≤ l.length + 1 ∧ 1 ≤ (posOf l).2 ∧ (posOf l).2 ≤ l.length + 1 := by
  refine snoc_ind (P := fun l => 1 ≤ (posOf l).1 ∧ (posOf l).1 ≤ l.length + 1 ∧ 1 ≤ (posOf l).2 ∧ (posOf l).2 ≤ l.length + 1) ?_ ?_ l
  · rw [posOf_nil]; simp
  · intro l c ih
    rw [posOf_snoc, List.length_append, List.length_singleton]
    unfold stepP
    split
    · dsimp only; omega
    · dsimp only; omega
theorem pos_lines (l : List UInt8) : (posOf l).1 = Lib.countByte l 10 + 1 := by
  refine snoc_ind (P := fun l => (posOf l).1 = Lib.countByte l 10 + 1) rfl ?_ l
  intro l c ih
  rw [posOf_snoc]
  unfold stepP Lib.countByte at *
  rw [List.count_append, List.count_singleton]
  split
  · rename_i hc; rw [ih, hc]; rfl
  · rename_i hc
    rw [ih, if_neg (by simpa using hc)]
/-- The place of the last line feed, or -1. -/
theorem last_loop (s : ByteArray) (hn : (bs s).length ≤ 1000000) : ∀ j, j ≤ (bs s).length → Ev (fun k => bytealg_LastIndexByteString.l0 k s 10 ((j : Int) - 1)) ((j : Int) - ((posOf ((bs s).take j)).2 : Int))
  | 0, _ => by
    refine Ev.step (fun k => by rw [bytealg_LastIndexByteString.l0]) ?_
    refine Ev.neg (by omega) ?_
    rw [List.take_zero, posOf_nil]
    exact Ev.now _
  | j + 1, hj => by
    have hjl : j < (bs s).length := by omega
    have e : ((j + 1 : Nat) : Int) - 1 = (j : Int) := by omega
    rw [e]
    refine Ev.step (fun k => by rw [bytealg_LastIndexByteString.l0]) ?_
    rw [bt_bs s j hjl, List.take_succ_eq_append_getElem hjl, posOf_snoc]
    refine Ev.pos (by omega) (Ev.pos (by omega) (Ev.pos (by rw [bs_size]; omega) ?_))
    unfold stepP
    by_cases hc : (bs s)[j] = 10
    · rw [if_pos hc, hc]
      refine Ev.pos rfl (Ev.cast (Ev.now _) ?_)
      show (j : Int) = ((j + 1 : Nat) : Int) - ((1 : Nat) : Int)
      omega
    · rw [if_neg hc]
      have hw : wrap64 ((j : Int) - 1) = (j : Int) - 1 := wrap_id (by omega) (by omega)
      rw [hw]
      refine Ev.neg ?_ (Ev.cast (last_loop s hn j (by omega)) ?_)
      · intro h
        apply hc
        apply UInt8.toNat_inj.mp
        have h10 : (10 : UInt8).toNat = 10 := rfl
        rw [h10]
        omega
      · show (j : Int) - _ = ((j + 1 : Nat) : Int) - ((_ + 1 : Nat) : Int)
        omega
theorem last_ev (s : ByteArray) (hn : (bs s).length ≤ 1000000) : Ev (fun k => strings_LastIndexByte.f k s 10) (((bs s).length : Int) - ((posOf (bs s)).2 : Int)) := by
  refine Ev.congr (fun k => by rw [strings_LastIndexByte.f]) (Ev.bind (a := ((bs s).length : Int) - ((posOf (bs s)).2 : Int)) ?_ (Ev.now _))
  refine Ev.congr (fun k => by rw [bytealg_LastIndexByteString.f, bs_size]) ?_
  rw [wrap_id (by omega) (by omega)]
  have h := last_loop s hn (bs s).length (Nat.le_refl _)
  rw [List.take_length] at h
  exact h
theorem lines_f (s : ByteArray) (hn : (bs s).length ≤ 1000000) : diag_Lines.f s = some ((posOf (bs s)).1 : Int) := by
  have h := pos_range (bs s)
  have h2 := pos_lines (bs s)
  unfold diag_Lines.f strings_Count.f
  show some (wrap64 ((Lib.countByte (bs s) 10 : Nat) + 1 : Int)) = _
  rw [wrap_id (by omega) (by omega), h2]
  rfl
/-- An offset, brought into the text. -/
def clampN (n : Nat) (p : Int) : Nat := min p.toNat n
theorem clamp_f (s : ByteArray) (p : Int) : diag_clamp.f s p = some ((clampN (bs s).length p : Nat) : Int) := by
  unfold diag_clamp.f clampN
  rw [bs_size]
  simp only [mn, mx]
  congr 1
  omega
theorem rclamp_f (s : ByteArray) (p : Int) : trickleref14_Clamp.f s p = some ((clampN (bs s).length p : Nat) : Int) := by
  unfold trickleref14_Clamp.f clampN
  rw [bs_size]
  split
  · congr 1; omega
  · split
    · congr 1; omega
    · congr 1; omega
theorem position_ev (s : ByteArray) (hn : (bs s).length ≤ 1000000) (p : Int) : Ev (fun k => diag_Position.f k s p) (((posOf ((bs s).take (clampN (bs s).length p))).1 : Int), ((posOf ((bs s).take (clampN (bs s).length p))).2 : Int)) := by
  refine Ev.congr (fun k => by rw [diag_Position.f]) (Ev.const (clamp_f s p) ?_)
  have hc : clampN (bs s).length p ≤ (bs s).length := Nat.min_le_right _ _
  generalize clampN (bs s).length p = c at *
  have hx : bs (s.extract 0 ((c : Int)).toNat) = (bs s).take c := by rw [Int.toNat_natCast, bs_take]
  have hl : ((bs s).take c).length = c := by rw [List.length_take]; omega
  have hr := pos_range ((bs s).take c)
  refine Ev.pos (by omega) (Ev.pos (by rw [bs_size]; omega) (Ev.const (a := ((posOf ((bs s).take c)).1 : Int)) (by rw [lines_f _ (by rw [hx]; omega), hx]) ?_))
  refine Ev.bind (a := (c : Int) - ((posOf ((bs s).take c)).2 : Int) + 1) ?_ ?_
  · refine Ev.congr (fun k => by rw [diag_start.f]) (Ev.pos (by omega) (Ev.pos (by rw [bs_size]; omega) ?_))
    refine Ev.bind (last_ev _ (by rw [hx]; omega)) ?_
    rw [hx, hl, wrap_id (by omega) (by omega)]
    exact Ev.now _
  · refine Ev.cast (Ev.now _) ?_
    rw [wrap_id (i := (c : Int) - _) (by omega) (by omega), wrap_id (by omega) (by omega)]
    congr 1
    omega
theorem rpos_loop (s : ByteArray) (hn : (bs s).length ≤ 1000000) (p : Int) : ∀ (d j : Nat), j + d = clampN (bs s).length p → Ev (fun k => trickleref14_Position.l0 k s p ((posOf ((bs s).take j)).1 : Int) ((posOf ((bs s).take j)).2 : Int) (j : Int)) (((posOf ((bs s).take (clampN (bs s).length p))).1 : Int), ((posOf ((bs s).take (clampN (bs s).length p))).2 : Int))
  | 0, j, hj => by
    refine Ev.step (fun k => by rw [trickleref14_Position.l0]) ?_
    refine Ev.const (rclamp_f s p) ?_
    refine Ev.neg (show ¬ (j : Int) < ((clampN (bs s).length p : Nat) : Int) by omega) ?_
    rw [← hj]
    exact Ev.now _
  | d + 1, j, hj => by
    have hc : clampN (bs s).length p ≤ (bs s).length := Nat.min_le_right _ _
    have hjl : j < (bs s).length := by omega
    have hr := pos_range ((bs s).take j)
    rw [List.length_take] at hr
    have ih := rpos_loop s hn p d (j + 1) (by omega)
    rw [List.take_succ_eq_append_getElem hjl, posOf_snoc] at ih
    have w0 : wrap64 ((j : Int) + 1) = ((j + 1 : Nat) : Int) := wrap_nat hjl (by omega)
    have w1 : wrap64 (((posOf ((bs s).take j)).1 : Int) + 1) = (((posOf ((bs s).take j)).1 + 1 : Nat) : Int) := by rw [wrap_id (by omega) (by omega)]; omega
    have w2 : wrap64 (((posOf ((bs s).take j)).2 : Int) + 1) = (((posOf ((bs s).take j)).2 + 1 : Nat) : Int) := by rw [wrap_id (by omega) (by omega)]; omega
    refine Ev.step (fun k => by rw [trickleref14_Position.l0]) (Ev.const (rclamp_f s p) ?_)
    rw [bt_bs s j hjl, w0, w1, w2]
    clear w0 w1 w2
    refine Ev.pos (by omega) (Ev.pos (by omega) (Ev.pos (by rw [bs_size]; omega) ?_))
    unfold stepP at ih
    by_cases hc : (bs s)[j] = 10
    · rw [if_pos hc] at ih
      rw [hc]
      exact Ev.pos rfl ih
    · rw [if_neg hc] at ih
      refine Ev.neg ?_ ih
      intro h
      apply hc
      apply UInt8.toNat_inj.mp
      have h10 : (10 : UInt8).toNat = 10 := rfl
      rw [h10]
      omega
theorem rposition_ev (s : ByteArray) (hn : (bs s).length ≤ 1000000) (p : Int) : Ev (fun k => trickleref14_Position.f k s p) (((posOf ((bs s).take (clampN (bs s).length p))).1 : Int), ((posOf ((bs s).take (clampN (bs s).length p))).2 : Int)) := by
  refine Ev.congr (fun k => by rw [trickleref14_Position.f]) ?_
  have h := rpos_loop s hn p (clampN (bs s).length p) 0 (by omega)
  rw [List.take_zero, posOf_nil] at h
  exact h
theorem examples_ev : Ev (fun k => tricklelaw14_examples.f k) true := Ev.of (k := 20) (fun k => tricklelaw14_examples.mono k) (by kernel_rfl)
end Go.Proofs.YtahgghbhpmpgfaaDoor.PX
/- DiagFormat in plain words: what the reference writes is what Format writes. -/
namespace Go.Proofs.YtahgghbhpmpgfaaDoor.PX
open Go.RowKit Go.Proofs.YtahgghbhpmpgfaaDoorW.PrintWords Go.Proofs.YtahgghbhpmpgfaaDoorW.PrintLast Go.Proofs.YtahgghbhpmpgfaaDoorW.PrintMore
set_option linter.unusedVariables false
set_option linter.unusedSimpArgs false
def mk (l : List UInt8) : ByteArray := ⟨l.toArray⟩
theorem mk_app (a b : List UInt8) : mk a ++ mk b = mk (a ++ b) := by
  refine ByteArray.ext (Array.ext' ?_)
  rw [ByteArray.data_append, Array.toList_append]
  rfl
theorem mk_size (a : List UInt8) : (mk a).size = a.length := rfl
theorem mk_bs (s : ByteArray) : mk (bs s) = s := rfl
theorem dec_len : ∀ (f u : Nat), u < f → (Lib.decDigits u).length ≤ u + 1
  | 0, u, h => by omega
  | f + 1, u, h => by
    rw [Lib.decDigits]
    split
    · simp
    · have := dec_len f (u / 10) (by omega)
      rw [List.length_append, List.length_singleton]
      omega
theorem dig : ∀ d : Fin 10, (⟨#[48, 49, 50, 51, 52, 53, 54, 55, 56, 57]⟩ : ByteArray).extract d.val (d.val + 1) = mk [UInt8.ofNat (48 + d.val)] := by decide +kernel
theorem dig_at (n : Nat) (h : n < 10) : (⟨#[48, 49, 50, 51, 52, 53, 54, 55, 56, 57]⟩ : ByteArray).extract ((n : Int)).toNat ((wrap64 ((n : Int) + 1)) : Int).toNat = mk [UInt8.ofNat (48 + n)] := by
  rw [wrap_id (by omega) (by omega), Int.toNat_natCast, show ((n : Int) + 1).toNat = n + 1 by omega]
  exact dig ⟨n, h⟩
theorem num_ev : ∀ (f n : Nat), n < f → n ≤ 1000000 → Ev (fun k => trickleref14_Num.f k (n : Int)) (mk (Lib.decDigits n))
  | 0, n, h, _ => by omega
  | f + 1, n, h, hn => by
    refine Ev.step (fun k => by rw [trickleref14_Num.f]) ?_
    rw [Lib.decDigits]
    by_cases h10 : n < 10
    · have w1 : wrap64 ((n : Int) + 1) = (n : Int) + 1 := wrap_id (by omega) (by omega)
      rw [dif_pos h10, dig_at n h10, w1]
      clear w1
      refine Ev.pos (show (n : Int) < 10 by omega) ?_
      refine Ev.pos (show 0 ≤ (n : Int) by omega) ?_
      refine Ev.pos (show (n : Int) ≤ (n : Int) + 1 by omega) ?_
      exact Ev.pos (show (n : Int) + 1 ≤ 10 by omega) (Ev.now _)
    · have e1 : wrap64 (Int.tdiv (n : Int) 10) = ((n / 10 : Nat) : Int) := by
        rw [Int.tdiv_eq_ediv_of_nonneg (by omega), wrap_id (by omega) (by omega)]; omega
      have e2 : Int.tmod (n : Int) 10 = ((n % 10 : Nat) : Int) := by
        rw [Int.tmod_eq_emod_of_nonneg (by omega)]; omega
      have w1 : wrap64 (((n % 10 : Nat) : Int) + 1) = ((n % 10 : Nat) : Int) + 1 := wrap_id (by omega) (by omega)
      rw [dif_neg h10, e1, e2, dig_at (n % 10) (by omega), w1]
      clear e1 e2 w1
      refine Ev.neg (show ¬ (n : Int) < 10 by omega) ?_
      refine Ev.bind (num_ev f (n / 10) (by omega) (by omega)) ?_
      rw [mk_size, mk_size, mk_app]
      have hl := dec_len (n / 10 + 1) (n / 10) (by omega)
      refine Ev.pos (show 0 ≤ ((n % 10 : Nat) : Int) by omega) ?_
      refine Ev.pos (show ((n % 10 : Nat) : Int) ≤ ((n % 10 : Nat) : Int) + 1 by omega) ?_
      refine Ev.pos (show ((n % 10 : Nat) : Int) + 1 ≤ 10 by omega) ?_
      exact Ev.pos (by rw [List.length_singleton]; omega) (Ev.now _)
def sumT (l : List S39) : Nat := (l.map (fun x => x.f1.size)).sum
theorem sumT_app (a b : List S39) : sumT (a ++ b) = sumT a + sumT b := by unfold sumT; rw [List.map_append, List.sum_append]
theorem sumT_cons (x : S39) (r : List S39) : sumT (x :: r) = x.f1.size + sumT r := by unfold sumT; rw [List.map_cons, List.sum_cons]
theorem rd_nat39 (l : List S39) (j : Nat) (h : j < l.length) : rd_T39 l (j : Int) = l[j] := by
  unfold rd_T39
  rw [Int.toNat_natCast, List.getD_eq_getElem?_getD, List.getElem?_eq_getElem h, Option.getD_some]
theorem great_loop (l : List S39) (hl : l.length ≤ 140737488355328) (hw : ∀ x ∈ l, x.f1.size ≤ 140737488355328) : ∀ (d j n : Nat), j + d = l.length → n ≤ 1000 → Ev (fun k => trickleref14_Great.l0 k l (n : Int) l (l.length : Int) (j : Int)) (decide (n + sumT (l.drop j) > 1000) || decide (l.length > 40))
  | 0, j, n, hj, hn => by
    refine Ev.step (fun k => by rw [trickleref14_Great.l0]) (Ev.neg (by omega) ?_)
    rw [List.drop_of_length_le (by omega)]
    refine Ev.cast (Ev.now _) ?_
    rw [show decide (n + sumT [] > 1000) = false by rw [decide_eq_false_iff_not]; show ¬ n + 0 > 1000; omega, Bool.false_or]
    exact decide_eq_decide.mpr (by omega)
  | d + 1, j, n, hj, hn => by
    have hjl : j < l.length := by omega
    have hx := hw _ (List.getElem_mem hjl)
    have w0 : wrap64 ((j : Int) + 1) = ((j + 1 : Nat) : Int) := wrap_nat hjl (by omega)
    have w1 : wrap64 ((n : Int) + (((l[j]).f1).size : Int)) = ((n + (l[j]).f1.size : Nat) : Int) := by rw [wrap_id (by omega) (by omega)]; omega
    refine Ev.step (fun k => by rw [trickleref14_Great.l0]) ?_
    rw [rd_nat39 l j hjl, w0, w1]
    clear w0 w1
    refine Ev.pos (by omega) (Ev.pos (by omega) (Ev.pos (by omega) ?_))
    rw [List.drop_eq_getElem_cons hjl, sumT_cons]
    by_cases h : n + (l[j]).f1.size > 1000
    · refine Ev.pos (by omega) (Ev.cast (Ev.now _) ?_)
      rw [show decide (n + ((l[j]).f1.size + sumT (l.drop (j + 1))) > 1000) = true by rw [decide_eq_true_eq]; omega, Bool.true_or]
    · refine Ev.neg (by omega) (Ev.cast (great_loop l hl hw d (j + 1) _ (by omega) (by omega)) ?_)
      rw [Nat.add_assoc]
theorem great_ev (l : List S39) (hl : l.length ≤ 140737488355328) (hw : ∀ x ∈ l, x.f1.size ≤ 140737488355328) : Ev (fun k => trickleref14_Great.f k l) (decide (sumT l > 1000) || decide (l.length > 40)) := by
  have h := great_loop l hl hw l.length 0 0 (by omega) (by omega)
  rw [List.drop_zero, Nat.zero_add] at h
  exact Ev.congr (fun k => by rw [trickleref14_Great.f]; rfl) h
/-- One line. -/
def lineL (s : ByteArray) (x : S39) : List UInt8 :=
  Lib.decDigits (posOf ((bs s).take (clampN (bs s).length x.f0))).1 ++ (58 :: (Lib.decDigits (posOf ((bs s).take (clampN (bs s).length x.f0))).2 ++ (58 :: 32 :: (bs x.f1 ++ [10]))))
def linesL (s : ByteArray) (l : List S39) : List UInt8 := l.flatMap (lineL s)
theorem line_mk (a b t : List UInt8) : lineF (mk a) (mk b) (mk t) = mk (a ++ (58 :: (b ++ (58 :: 32 :: (t ++ [10]))))) := by
  unfold lineF
  rw [show (⟨#[58]⟩ : ByteArray) = mk [58] from rfl, show (⟨#[58, 32]⟩ : ByteArray) = mk [58, 32] from rfl, show (⟨#[10]⟩ : ByteArray) = mk [10] from rfl]
  rw [mk_app, mk_app, mk_app, mk_app, mk_app]
  simp only [List.append_assoc, List.cons_append, List.nil_append]
theorem small_dec (u : Nat) (h : u ≤ 1001) : (Lib.decDigits u).length ≤ 21 := by
  have := Lib.itoa_length_le (u : Int) (by omega) (by omega)
  unfold Lib.itoa at this
  rw [if_neg (by omega), Int.toNat_natCast] at this
  exact this
theorem pos_small (s : ByteArray) (hs : (bs s).length ≤ 300) (p : Int) : (posOf ((bs s).take (clampN (bs s).length p))).1 ≤ 301 ∧ (posOf ((bs s).take (clampN (bs s).length p))).2 ≤ 301 := by
  have h := pos_range ((bs s).take (clampN (bs s).length p))
  rw [List.length_take] at h
  omega
theorem line_len (s : ByteArray) (hs : (bs s).length ≤ 300) (x : S39) : (lineL s x).length ≤ 100 + x.f1.size := by
  obtain ⟨h1, h2⟩ := pos_small s hs x.f0
  have d1 := small_dec _ (Nat.le_trans h1 (by omega))
  have d2 := small_dec _ (Nat.le_trans h2 (by omega))
  unfold lineL
  simp only [List.length_append, List.length_cons, List.length_nil]
  have : (bs x.f1).length = x.f1.size := rfl
  omega
theorem itoa_f (n : Nat) (h : n ≤ 1000) : strconv_Itoa.f (n : Int) = some (mk (Lib.decDigits n)) := by
  unfold strconv_Itoa.f itoaB
  rw [if_pos (by omega)]
  unfold Lib.itoa
  rw [if_neg (by omega), Int.toNat_natCast]
  rfl
theorem fmt_loop (s : ByteArray) (hs : (bs s).length ≤ 300) (l : List S39) (h40 : l.length ≤ 40) (ht : sumT l ≤ 1000) : ∀ (d j : Nat) (acc : List UInt8), j + d = l.length → acc.length ≤ 100 * j + sumT (l.take j) → Ev (fun k => diag_Format.l0 k s l acc (j : Int)) (mk (acc ++ linesL s (l.drop j)))
  | 0, j, acc, hj, ha => by
    refine Ev.step (fun k => by rw [diag_Format.l0]) (Ev.neg (by omega) ?_)
    rw [List.drop_of_length_le (by omega)]
    show Ev _ (mk (acc ++ []))
    rw [List.append_nil]
    exact Ev.now _
  | d + 1, j, acc, hj, ha => by
    have hjl : j < l.length := by omega
    have w0 : wrap64 ((j : Int) + 1) = ((j + 1 : Nat) : Int) := wrap_nat hjl (by omega)
    obtain ⟨p1, p2⟩ := pos_small s hs (l[j]).f0
    have hsum : sumT (l.take (j + 1)) = sumT (l.take j) + (l[j]).f1.size := by
      rw [List.take_succ_eq_append_getElem hjl, sumT_app, sumT_cons]; rfl
    have hsum2 : sumT (l.take (j + 1)) ≤ sumT l := by
      have := sumT_app (l.take (j + 1)) (l.drop (j + 1))
      rw [List.take_append_drop] at this
      omega
    have hln := line_len s hs (l[j])
    have d1 := small_dec _ (Nat.le_trans p1 (by omega))
    have d2 := small_dec _ (Nat.le_trans p2 (by omega))
    refine Ev.step (fun k => by rw [diag_Format.l0]) ?_
    rw [rd_nat39 l j hjl, w0]
    clear w0
    refine Ev.pos (by omega) (Ev.pos (by omega) ?_)
    refine Ev.bind (position_ev s (by omega) (l[j]).f0) ?_
    refine Ev.const (itoa_f _ (by omega)) ?_
    refine Ev.const (itoa_f _ (by omega)) ?_
    refine Ev.pos ?_ ?_
    · rw [mk_size, mk_size]; omega
    · have hline : (lineF (mk (Lib.decDigits (posOf ((bs s).take (clampN (bs s).length (l[j]).f0))).1)) (mk (Lib.decDigits (posOf ((bs s).take (clampN (bs s).length (l[j]).f0))).2)) (l[j]).f1).data.toList = lineL s (l[j]) := by
        have h := line_mk (Lib.decDigits (posOf ((bs s).take (clampN (bs s).length (l[j]).f0))).1) (Lib.decDigits (posOf ((bs s).take (clampN (bs s).length (l[j]).f0))).2) (bs (l[j]).f1)
        rw [mk_bs] at h
        rw [h]
        rfl
      rw [hline]
      refine Ev.cast (fmt_loop s hs l h40 ht d (j + 1) _ (by omega) (by rw [List.length_append]; omega)) ?_
      rw [List.drop_eq_getElem_cons hjl]
      unfold linesL
      rw [List.flatMap_cons, List.append_assoc]
theorem rfmt_loop (s : ByteArray) (hs : (bs s).length ≤ 300) (l : List S39) (h40 : l.length ≤ 40) (ht : sumT l ≤ 1000) : ∀ (d j : Nat) (acc : List UInt8), j + d = l.length → acc.length ≤ 100 * j + sumT (l.take j) → Ev (fun k => trickleref14_Format.l0 k s (mk acc) l (l.length : Int) (j : Int)) (mk (acc ++ linesL s (l.drop j)))
  | 0, j, acc, hj, ha => by
    refine Ev.step (fun k => by rw [trickleref14_Format.l0]) (Ev.neg (by omega) ?_)
    rw [List.drop_of_length_le (by omega)]
    show Ev _ (mk (acc ++ []))
    rw [List.append_nil]
    exact Ev.now _
  | d + 1, j, acc, hj, ha => by
    have hjl : j < l.length := by omega
    have w0 : wrap64 ((j : Int) + 1) = ((j + 1 : Nat) : Int) := wrap_nat hjl (by omega)
    obtain ⟨p1, p2⟩ := pos_small s hs (l[j]).f0
    have hsum : sumT (l.take (j + 1)) = sumT (l.take j) + (l[j]).f1.size := by
      rw [List.take_succ_eq_append_getElem hjl, sumT_app, sumT_cons]; rfl
    have hsum2 : sumT (l.take (j + 1)) ≤ sumT l := by
      have := sumT_app (l.take (j + 1)) (l.drop (j + 1))
      rw [List.take_append_drop] at this
      omega
    have hln := line_len s hs (l[j])
    have d1 := small_dec _ (Nat.le_trans p1 (by omega))
    have d2 := small_dec _ (Nat.le_trans p2 (by omega))
    refine Ev.step (fun k => by rw [trickleref14_Format.l0]) ?_
    rw [rd_nat39 l j hjl, w0]
    clear w0
    refine Ev.pos (by omega) (Ev.pos (by omega) (Ev.pos (by omega) ?_))
    refine Ev.bind (rposition_ev s (by omega) (l[j]).f0) ?_
    refine Ev.bind (num_ev _ _ (Nat.lt_succ_self _) (by omega)) ?_
    rw [show (⟨#[58]⟩ : ByteArray) = mk [58] from rfl, show (⟨#[58, 32]⟩ : ByteArray) = mk [58, 32] from rfl, show (⟨#[10]⟩ : ByteArray) = mk [10] from rfl]
    refine Ev.pos (by rw [mk_size]; omega) ?_
    refine Ev.bind (num_ev _ _ (Nat.lt_succ_self _) (by omega)) ?_
    have hf : (l[j]).f1 = mk (bs (l[j]).f1) := rfl
    have hfl : (bs (l[j]).f1).length = (l[j]).f1.size := rfl
    rw [hf, mk_app, mk_app, mk_app, mk_app, mk_app, mk_app]
    simp only [mk_size]
    refine Ev.pos (by simp only [List.length_append, List.length_cons, List.length_nil]; omega) ?_
    refine Ev.pos (by simp only [List.length_append, List.length_cons, List.length_nil]; omega) ?_
    refine Ev.pos (by simp only [List.length_append, List.length_cons, List.length_nil]; omega) ?_
    refine Ev.pos (by simp only [List.length_append, List.length_cons, List.length_nil]; omega) ?_
    refine Ev.pos (by simp only [List.length_append, List.length_cons, List.length_nil]; omega) ?_
    have hline : Lib.decDigits (posOf ((bs s).take (clampN (bs s).length (l[j]).f0))).1 ++ [58] ++ Lib.decDigits (posOf ((bs s).take (clampN (bs s).length (l[j]).f0))).2 ++ [58, 32] ++ bs (l[j]).f1 ++ [10] = lineL s (l[j]) := by
      unfold lineL
      simp only [List.append_assoc, List.cons_append, List.nil_append]
    rw [hline]
    refine Ev.cast (rfmt_loop s hs l h40 ht d (j + 1) _ (by omega) (by rw [List.length_append]; omega)) ?_
    rw [List.drop_eq_getElem_cons hjl]
    unfold linesL
    rw [List.flatMap_cons, List.append_assoc]
end Go.Proofs.YtahgghbhpmpgfaaDoor.PX
namespace Go.Proofs.YtahgghbhpmpgfaaDoor.Pure
open Go.RowKit Go.Proofs.YtahgghbhpmpgfaaDoor.PX Go.Proofs.YtahgghbhpmpgfaaDoorW.PrintWords Go.Proofs.YtahgghbhpmpgfaaDoorW.PrintLast
set_option linter.unusedVariables false
theorem DiagFormat (s : ByteArray) (l : List S39) (hs : s.size ≤ 140737488351232) (hw : ∀ x ∈ l, x.f1.size ≤ 140737488355328) (hl : l.length ≤ 140737488355328) : ∃ n, tricklelaw14_DiagFormat.f n s l = some true := by
  have yes : Ev (fun n => tricklelaw14_DiagFormat.j0 n s l true) true := Ev.step (fun n => by rw [tricklelaw14_DiagFormat.j0]) (Ev.pos rfl (Ev.bind examples_ev (Ev.now _)))
  refine Ev.rounds (Ev.congr (fun n => by rw [tricklelaw14_DiagFormat.f, bs_size]) ?_)
  by_cases h : ((bs s).length : Int) > 300
  · exact Ev.pos h yes
  refine Ev.neg h (Ev.bind (great_ev l hl hw) ?_)
  by_cases hg : (decide (sumT l > 1000) || decide (l.length > 40)) = true
  · rw [hg]; exact yes
  · rw [Bool.not_eq_true] at hg
    rw [hg]
    rw [Bool.or_eq_false_iff, decide_eq_false_iff_not, decide_eq_false_iff_not] at hg
    have h1 := fmt_loop s (by omega) l (by omega) (by omega) l.length 0 [] (by omega) (by simp)
    have h2 := rfmt_loop s (by omega) l (by omega) (by omega) l.length 0 [] (by omega) (by simp)
    rw [List.drop_zero, List.nil_append] at h1 h2
    refine Ev.step (fun n => by rw [tricklelaw14_DiagFormat.j0]) ?_
    refine Ev.neg (by decide) ?_
    refine Ev.bind (a := mk (linesL s l)) (Ev.congr (fun n => by rw [diag_Format.f]; rfl) h1) ?_
    refine Ev.bind (a := mk (linesL s l)) (Ev.congr (fun n => by rw [trickleref14_Format.f]; rfl) h2) ?_
    exact Ev.pos rfl (Ev.bind examples_ev (Ev.now _))
end Go.Proofs.YtahgghbhpmpgfaaDoor.Pure
/- DiagList in plain words. -/
namespace Go.Proofs.YtahgghbhpmpgfaaDoor.PX
open Go.RowKit Go.Sort Go.Proofs.YtahgghbhpmpgfaaDoorW.PrintWords Go.Proofs.YtahgghbhpmpgfaaDoorW.PrintLast Go.Proofs.YtahgghbhpmpgfaaDoorW.PrintMore
set_option linter.unusedVariables false
def addD (l : List S39) (x : S39) : List S39 := if x ∈ l then l else l ++ [x]
/-- The list without repeats. -/
def ded (l : List S39) : List S39 := l.foldl addD []
theorem ded_snoc (l : List S39) (x : S39) : ded (l ++ [x]) = addD (ded l) x := by unfold ded; rw [List.foldl_append]; rfl
theorem addD_mem (l : List S39) (x y : S39) : y ∈ addD l x ↔ (y ∈ l ∨ y = x) := by
  unfold addD
  split
  · rename_i h
    exact ⟨Or.inl, fun k => k.elim id (fun e => e ▸ h)⟩
  · rw [List.mem_append, List.mem_singleton]
theorem addD_nodup (l : List S39) (x : S39) (h : l.Nodup) : (addD l x).Nodup := by
  unfold addD
  split
  · exact h
  · rename_i hx
    rw [List.nodup_append]
    exact ⟨h, List.pairwise_singleton _ _, fun a ha b hb e => hx (by rw [List.mem_singleton.1 hb] at e; rw [← e]; exact ha)⟩
theorem addD_len (l : List S39) (x : S39) : (addD l x).length ≤ l.length + 1 ∧ 0 < (addD l x).length := by
  unfold addD
  split
  · rename_i h
    exact ⟨by omega, List.length_pos_of_mem h⟩
  · rw [List.length_append, List.length_singleton]; omega
theorem ded_take (l : List S39) (i : Nat) (h : i < l.length) : ded (l.take (i + 1)) = addD (ded (l.take i)) l[i] := by rw [take_snoc' _ _ h, ded_snoc]
theorem ded_facts (l : List S39) : ∀ i, i ≤ l.length → (ded (l.take i)).Nodup ∧ (ded (l.take i)).length ≤ i ∧ (0 < i → 0 < (ded (l.take i)).length)
  | 0, h => by rw [List.take_zero]; exact ⟨List.nodup_nil, Nat.le_refl _, fun h => by omega⟩
  | i + 1, h => by
    obtain ⟨h1, h2, h3⟩ := ded_facts l i (by omega)
    have hl := addD_len (ded (l.take i)) l[i]
    rw [ded_take l i h]
    exact ⟨addD_nodup _ _ h1, by omega, fun _ => hl.2⟩
theorem all_rounds {α : Type} (g : Nat → Nat → Option α) (a : Nat → α) : ∀ n, (∀ i, i < n → Ev (g i) (a i)) → ∃ K, ∀ k, K ≤ k → ∀ i, i < n → g i k = some (a i)
  | 0, h => ⟨0, fun k _ i hi => by omega⟩
  | n + 1, h => by
    obtain ⟨K1, h1⟩ := all_rounds g a n (fun i hi => h i (by omega))
    obtain ⟨K2, h2⟩ := h n (by omega)
    refine ⟨max K1 K2, fun k hk i hi => ?_⟩
    by_cases e : i = n
    · rw [e]; exact h2 k (by omega)
    · exact h1 k (by omega) i (by omega)
theorem ins_ev (l : List S39) (x : S39) (hn : l.Nodup) (hl : l.length ≤ 1000) : Ev (fun k => trickleref14_Add.f k (sortD l) x.f0 x.f1) (sortD (addD l x)) := by
  obtain ⟨r, r1, r2, r3⟩ := radd_ev (sortD l) x (by rw [sortD_length]; exact hl) (sortD_asc l hn)
  have e : r = sortD (addD l x) := ascD_eq _ _ r2 (sortD_asc _ (addD_nodup l x hn)) (fun y => by rw [r3, sortD_mem, sortD_mem, addD_mem])
  rw [← e]
  exact r1
end Go.Proofs.YtahgghbhpmpgfaaDoor.PX
namespace Go.Proofs.YtahgghbhpmpgfaaDoor.Pure
open Go.RowKit Go.Sort Go.Proofs.YtahgghbhpmpgfaaDoor.PX Go.Proofs.YtahgghbhpmpgfaaDoorW.PrintWords Go.Proofs.YtahgghbhpmpgfaaDoorW.PrintLast Go.Proofs.YtahgghbhpmpgfaaDoorW.PrintMore
set_option linter.unusedVariables false
theorem DiagList (l : List S39) (hw : ∀ x ∈ l, x.f1.size ≤ 140737488355328) (hl : l.length ≤ 140737488355328) : ∃ n, tricklelaw14_DiagList.f n l = some true := by
  suffices h : ∃ n, ListOk n l by
    obtain ⟨n, h⟩ := h
    exact ⟨n, by unfold tricklelaw14_DiagList.f; rw [if_pos h]⟩
  obtain ⟨K1, h1⟩ := examples_ev
  obtain ⟨K2, h2⟩ := great_ev l hl hw
  by_cases hg : (decide (sumT l > 1000) || decide (l.length > 40)) = true
  · refine ⟨max K1 K2, h1 _ (by omega), Or.inl ?_⟩
    exact (h2 _ (by omega)).trans (congrArg some hg)
  · rw [Bool.not_eq_true] at hg
    have hg2 := hg
    rw [Bool.or_eq_false_iff, decide_eq_false_iff_not, decide_eq_false_iff_not] at hg2
    have hn : l.length ≤ 40 := by omega
    have hf := ded_facts l
    obtain ⟨K3, h3⟩ := all_rounds (fun i k => trickleref14_Add.f k (sortD (ded (l.take i))) (rd_T39 l (i : Int)).f0 (rd_T39 l (i : Int)).f1) (fun i => sortD (ded (l.take (i + 1)))) l.length (fun i hi => by
      rw [rd39 l i hi, ded_take l i hi]
      have := hf i (by omega)
      exact ins_ev _ _ this.1 (by omega))
    obtain ⟨K4, h4⟩ := all_rounds (fun i k => api_Diagnostic_38.f k (ded (l.take i)) (rd_T39 l (i : Int)).f0 (rd_T39 l (i : Int)).f1) (fun i => decide (rd_T39 l (i : Int) ∈ ded (l.take i))) l.length (fun i hi => by
      have := hf i (by omega)
      exact contains_ev _ _ (by omega))
    obtain ⟨K5, h5⟩ := same_ev (sortD (ded (l.take l.length))) (by rw [sortD_length]; have := hf l.length (Nat.le_refl _); omega)
    refine ⟨K1 + K2 + K3 + K4 + K5, h1 _ (by omega), Or.inr ⟨(h2 _ (by omega)).trans (congrArg some hg), hn, fun i => sortD (ded (l.take i)), fun i => ded (l.take i), fun i => decide (rd_T39 l (i : Int) ∈ ded (l.take i)), ?_, ?_, fun i hi => ?_, fun i hi => ?_, fun i hi => ?_, fun i hi => ?_, h5 _ (by omega)⟩⟩
    · show sortD (ded (l.take 0)) = []
      rw [List.take_zero]
      exact List.length_eq_zero_iff.1 (by rw [sortD_length]; rfl)
    · show ded (l.take 0) = []
      rw [List.take_zero]; rfl
    · have := h3 (K1 + K2 + K3 + K4 + K5) (by omega) i hi
      rw [rd39 l i hi] at this
      exact this
    · have := h4 (K1 + K2 + K3 + K4 + K5) (by omega) i hi
      show api_Diagnostic_38.f (K1 + K2 + K3 + K4 + K5) (ded (l.take i)) l[i].f0 l[i].f1 = some (decide (rd_T39 l (i : Int) ∈ ded (l.take i)))
      rw [rd39 l i hi] at this ⊢
      exact this
    · show ded (l.take (i + 1)) = if decide (rd_T39 l (i : Int) ∈ ded (l.take i)) = true then ded (l.take i) else ded (l.take i) ++ [l[i]]
      rw [rd39 l i hi, ded_take l i hi]
      unfold addD
      by_cases hm : l[i] ∈ ded (l.take i)
      · rw [if_pos hm, if_pos (decide_eq_true hm)]
      · rw [if_neg hm, if_neg (by rw [decide_eq_false hm]; decide)]
    · obtain ⟨g1, g2, g3⟩ := hf i hi
      exact ⟨Nat.le_trans g2 (by omega), fun h => g3 h, fun h => Nat.lt_of_lt_of_le h g2⟩
end Go.Proofs.YtahgghbhpmpgfaaDoor.Pure
/- DiagOrder, walked by hand. -/
namespace Go.Proofs.YtahgghbhpmpgfaaDoor.PX
open Go.RowKit Go.Sort Go.Shelf Go.Lib Go.Proofs.YtahgghbhpmpgfaaDoorW.PrintWords Go.Proofs.YtahgghbhpmpgfaaDoorW.PrintLast Go.Proofs.YtahgghbhpmpgfaaDoorW.PrintMore
set_option linter.unusedVariables false
set_option linter.unusedSimpArgs false
/-- Two lists whose rows are apart. -/
structure Ls2 (W : World) (base A B : Nat) (va vb : Value) (la lb : List S39) : Prop where
  a : Ls W base A va la
  b : Ls W base B vb lb
  ap : ∀ k, va.ownBlock = some k → vb.ownBlock ≠ some k
theorem Ls2.below {W W' : World} {base A B : Nat} {va vb : Value} {la lb : List S39} (h : Ls2 W base A B va vb la lb) (hb : Below W.heap.size W W') : Ls2 W' base A B va vb la lb := ⟨h.a.below hb, h.b.below hb, h.ap⟩
theorem Ls2.swap {W : World} {base A B : Nat} {va vb : Value} {la lb : List S39} (h : Ls2 W base A B va vb la lb) : Ls2 W base B A vb va lb la := ⟨h.b, h.a, fun k h1 h2 => h.ap k h2 h1⟩
theorem Ls2.added {W W' : World} {base A B : Nat} {va va' vb : Value} {la la' lb : List S39} (hAB : A ≠ B) (h : Ls2 W base A B va vb la lb) (ha : Ls W' base A va' la') (hk : KeepBut W W' A va.ownBlock) (hat : va'.ownBlock = va.ownBlock ∨ ∃ b, va'.ownBlock = some b ∧ W.heap.size ≤ b) : Ls2 W' base A B va' vb la' lb := by
  have hB := blk_lt h.b.blk
  have hne : some B ≠ va.ownBlock := Kd.R_ne h.a.row h.b.blk (by decide)
  have hneA : some A ≠ vb.ownBlock := Kd.R_ne h.b.row h.a.blk (by decide)
  refine ⟨ha, ⟨(hk.2 B hB (Ne.symm hAB) hne).trans h.b.blk, ?_⟩, fun k h1 h2 => ?_⟩
  · refine Kd.R_mono (Kd.R_step (Kd.R_tight rfl h.b.row) (fun k hk1 hlt => hk.2 k hlt (fun e => hneA (by rw [← e]; exact hk1)) (fun e => h.ap k e.symm hk1.symm))) (fun k hk1 => Kd.R_base h.b.row k hk1.symm)
  · rcases hat with e | ⟨b, e, hge⟩
    · rw [e] at h1; exact h.ap k h1 h2
    · rw [e] at h1
      injection h1 with h1
      have := Kd.R_lt h.b.row k h2
      omega
set_option maxHeartbeats 8000000 in
set_option maxRecDepth 100000 in
theorem order_walk (k : Nat) (A0 : Option Addr) (c0 : Nat) (l0 : List S39) (s : Int) (w : World) (hr0 : Kd.C k39 w A0 l0.length l0) (hc0 : l0.length ≤ c0) (hG : GW w) (hgr : trickleref14_Great.f k l0 = some false) (hex : tricklelaw14_examples.f k = some true) (hn : l0.length ≤ 40) (hs0 : 0 ≤ s) (hs1 : s ≤ 255)
    (Da Db : Nat → List S39) (Dc : List S39) (ra rb : Nat → Bool) (rc : Bool) (hA0 : Da 0 = []) (hB0 : Db 0 = [])
    (hra : ∀ i (h : i < l0.length), api_Diagnostic_38.f k (Da i) l0[i].f0 l0[i].f1 = some (ra i)) (hDa : ∀ i (h : i < l0.length), Da (i + 1) = if ra i = true then Da i else Da i ++ [l0[i]])
    (hrb : ∀ i (h : l0.length - 1 - i < l0.length), i < l0.length → api_Diagnostic_38.f k (Db i) l0[l0.length - 1 - i].f0 l0[l0.length - 1 - i].f1 = some (rb i)) (hDb : ∀ i (h : l0.length - 1 - i < l0.length), i < l0.length → Db (i + 1) = if rb i = true then Db i else Db i ++ [l0[l0.length - 1 - i]])
    (hDl : ∀ i, i ≤ l0.length → (Da i).length ≤ 100000 ∧ (Db i).length ≤ 100000) (hDc : Dc.length ≤ 100000) (hC0 : l0.length = 0 → Dc = Db l0.length)
    (hrc : ∀ (h : s.toNat % l0.length < l0.length), api_Diagnostic_38.f k (Db l0.length) l0[s.toNat % l0.length].f0 l0[s.toNat % l0.length].f1 = some rc ∧ Dc = if rc = true then Db l0.length else Db l0.length ++ [l0[s.toNat % l0.length]])
    (hS : trickleref14_Same.f k (sortD (Da l0.length)) (sortD Dc) = some true) :
    Calls Tryd.prog 8 #[.slice A0 l0.length c0, .int .u8 s] w fun e w' => e = .returned (.bool true) ∧ Below w.heap.size w w' := by
  have HG := Aside0.mk hG
  have HR0 := Aside0.mk hr0
  have HEX := Aside0.mk hex
  have HN := Aside0.mk hn
  have HRA := Aside0.mk hra
  have HDA := Aside0.mk hDa
  have HRB := Aside0.mk hrb
  have HDB := Aside0.mk hDb
  have HDL := Aside0.mk hDl
  have HRC := Aside0.mk hrc
  have HC0 := Aside0.mk hC0
  have HDC := Aside0.mk hDc
  have HS := Aside0.mk hS
  have HA0 := Aside0.mk hA0
  have HB0 := Aside0.mk hB0
  have HS0 := Aside0.mk hs0
  have HS1 := Aside0.mk hs1
  clear hG hr0 hex hn hra hDa hrb hDb hDl hrc hC0 hDc hS hA0 hB0 hs0 hs1
  go_enter Tryd.func8, Tryd.ntmps8
  go_wp2_with (go_at_call 16; refine (trickleref14_Great.calls k _ _ l0 false _ HR0.out hc0 hgr).mono ?_; rintro e w1 ⟨rfl, hb1⟩; have HB1 := Aside0.mk hb1; clear hb1)
  have HSZ : Aside0 (w.heap.size ≤ w1.heap.size) := ⟨below_size HB1.out⟩
  have ba := blk_alloc (blk_new w1 (.cells #[.slice none 0 0] 37)) (.cells #[.slice none 0 0] 37)
  have bb := blk_new (w1.alloc (.cells #[.slice none 0 0] 37)) (.cells #[.slice none 0 0] 37)
  simp only [World.size_alloc] at bb
  have HB2 := Aside0.mk (below_alloc (below_alloc HB1.out (.cells #[.slice none 0 0] 37)) (.cells #[.slice none 0 0] 37))
  generalize w1.heap.size = A at *
  generalize ((w1.alloc (.cells #[.slice none 0 0] 37)).alloc (.cells #[.slice none 0 0] 37)) = wl at *
  have HBA := Aside0.mk ba
  have HBB := Aside0.mk bb
  clear ba bb HB1
  go_loopw [16] (fun v16 wr => ∃ (i : Nat) (va vb : Value), v16 = .int .i64 (i : Int) ∧ Aside0 (i ≤ l0.length) ∧ Aside0 (Ls2 wr w.heap.size A (A + 1) va vb (Da i) (Db i)) ∧ Aside0 (Below w.heap.size w wr)) (fun v16 _ => l0.length - (intOf v16).toNat)
  case atStart => exact ⟨0, .slice none 0 0, .slice none 0 0, rfl, ⟨Nat.zero_le _⟩, ⟨⟨⟨HBA.out, by rw [HA0.out]; exact Kd.R_nil _ _ _ _ _⟩, ⟨HBB.out, by rw [HB0.out]; exact Kd.R_nil _ _ _ _ _⟩, fun k h => by simp [Value.ownBlock] at h⟩⟩, HB2⟩
  case round =>
    obtain ⟨i, va, vb, rfl, HI, HL, HB⟩ := hrel
    by_cases hlt : i < l0.length
    · have HLT := Aside0.mk hlt
      have HWR : Aside0 (wrap64 ((i : Int) + 1) = ((i + 1 : Nat) : Int)) := ⟨wrap_nat hlt (by have := HN.out; omega)⟩
      have hj : l0.length - 1 - i < l0.length := by omega
      have wj1 : wrap64 ((l0.length : Int) - 1) = ((l0.length - 1 : Nat) : Int) := by rw [wrap_id (by omega) (by have := HN.out; omega)]; omega
      have wj2 : wrap64 (((l0.length - 1 : Nat) : Int) - (i : Int)) = ((l0.length - 1 - i : Nat) : Int) := by rw [wrap_id (by omega) (by have := HN.out; omega)]; omega
      obtain ⟨ad, e0, hx0, hx1⟩ := at_T39 HR0.out (i : Int) (by omega) (by omega)
      cases e0
      obtain ⟨ad2, e02, hy0, hy1⟩ := at_T39 HR0.out ((l0.length - 1 - i : Nat) : Int) (by omega) (by omega)
      cases e02
      have hrd : rd_T39 l0 (i : Int) = l0[i] := by unfold rd_T39; rw [Int.toNat_natCast, List.getD_eq_getElem?_getD, List.getElem?_eq_getElem hlt, Option.getD_some]
      have hrd2 : rd_T39 l0 ((l0.length - 1 - i : Nat) : Int) = l0[l0.length - 1 - i] := by unfold rd_T39; rw [Int.toNat_natCast, List.getD_eq_getElem?_getD, List.getElem?_eq_getElem hj, Option.getD_some]
      rw [hrd] at hx0 hx1
      rw [hrd2] at hy0 hy1
      simp only [Int.toNat_natCast] at hx0 hx1 hy0 hy1
      have ra1 := HRA.out i hlt
      have da1 := HDA.out i hlt
      have rb1 := HRB.out i hj hlt
      have db1 := HDB.out i hj hlt
      obtain ⟨la1, lb1⟩ := HDL.out i (by omega)
      obtain ⟨j, hjj⟩ : ∃ j, j = l0.length - 1 - i := ⟨_, rfl⟩
      obtain ⟨y, hy⟩ : ∃ y, y = l0[l0.length - 1 - i] := ⟨_, rfl⟩
      obtain ⟨x, hx⟩ : ∃ x, x = l0[i] := ⟨_, rfl⟩
      rw [← hx] at hx0 hx1 ra1 da1
      rw [← hy] at hy0 hy1 rb1 db1
      rw [← hjj] at hy0 hy1 wj2
      have hj2 : j < l0.length := by omega
      clear hrd hrd2 hx hy hjj hj
      have HX0 := Aside0.mk hx0
      have HY0 := Aside0.mk hy0
      have HY1 := Aside0.mk hy1
      replace hx0 := (HB.out.cell (World.block_lt_of_cell? w _ hx0)).trans hx0
      replace hx1 := (HB.out.cell (World.block_lt_of_cell? w _ hx1)).trans hx1
      clear hy0 hy1
      have hlt2 : (i : Int) < (l0.length : Int) := by omega
      have hge0 : (0 : Int) ≤ (i : Int) := by omega
      have hlt3 : (j : Int) < (l0.length : Int) := by omega
      have hge3 : (0 : Int) ≤ (j : Int) := by omega
      have RA1 := Aside0.mk ra1
      have DA1 := Aside0.mk da1
      have RB1 := Aside0.mk rb1
      have DB1 := Aside0.mk db1
      have LA1 := Aside0.mk la1
      have LB1 := Aside0.mk lb1
      clear ra1 da1 rb1 db1 la1 lb1
      have HS2 : Aside0 (w.heap.size ≤ wr.heap.size) := ⟨below_size HB.out⟩
      go_wp2_with (first
        | (go_at_call 23; refine (add_calls w.heap.size A HSZ.out x.f0 x.f1 va (Da i) _ (HL.out.a.below (below_alloc (Below.refl _ _) _)) (Nat.le_trans HS2.out (by simp)) LA1.out k (ra i) RA1.out).mono ?_; rintro e w2 ⟨rfl, va', hLs, hb2, hk2, hat2⟩;
            have HL2 : Aside0 (Ls2 w2 w.heap.size A (A + 1) va' vb (Da (i + 1)) (Db i)) := (⟨by rw [DA1.out]; exact Ls2.added (by omega) (HL.out.below (below_alloc (Below.refl _ _) _)) hLs hk2 hat2⟩);
            have HB2' : Aside0 (Below w.heap.size w w2) := (⟨(below_alloc HB.out _).trans hb2⟩);
            have y0 := (HB2'.out.cell (World.block_lt_of_cell? w _ HY0.out)).trans HY0.out; have y1 := (HB2'.out.cell (World.block_lt_of_cell? w _ HY1.out)).trans HY1.out;
            clear hLs hb2 hk2 hat2 HL HB hx0 hx1)
        | (go_at_call 23; refine (add_calls w.heap.size (A + 1) (Nat.le_trans HSZ.out (by omega)) y.f0 y.f1 vb (Db i) _ (HL2.out.b.below (below_alloc (Below.refl _ _) _)) (Nat.le_trans (below_size HB2'.out) (by simp)) LB1.out k (rb i) RB1.out).mono ?_; rintro e w3 ⟨rfl, vb', hLs, hb3, hk3, hat3⟩;
            have HL3 : Aside0 (Ls2 w3 w.heap.size A (A + 1) va' vb' (Da (i + 1)) (Db (i + 1))) := (⟨by rw [DB1.out]; exact (Ls2.added (by omega) (HL2.out.below (below_alloc (Below.refl _ _) _)).swap hLs hk3 hat3).swap⟩);
            have HB3 : Aside0 (Below w.heap.size w w3) := (⟨(below_alloc HB2'.out _).trans hb3⟩);
            clear hLs hb3 hk3 hat3 HL2 HB2'))
      go_roundw
      case rel => exact ⟨i + 1, va', vb', by rw [HWR.out], ⟨by have := HLT.out; omega⟩, HL3, HB3⟩
      case measure => exact meas2 i _ _ HLT.out HWR.out
    · have hin : i = l0.length := by have := HI.out; omega
      subst hin
      have hnlt : ¬ ((l0.length : Int) < (l0.length : Int)) := by omega
      have HDLA := Aside0.mk (HDL.out l0.length (Nat.le_refl _)).1
      have HDLB := Aside0.mk (HDL.out l0.length (Nat.le_refl _)).2
      by_cases h0 : 0 < l0.length
      · have hq : s.toNat % l0.length < l0.length := Nat.mod_lt _ h0
        obtain ⟨rc1, dc1⟩ := HRC.out hq
        have wq : Int.tmod (wrap64 s) (l0.length : Int) = ((s.toNat % l0.length : Nat) : Int) := by
          have := HS0.out; have := HS1.out
          rw [wrap_id (by omega) (by omega), Int.tmod_eq_emod_of_nonneg (by omega)]
          obtain ⟨t, rfl⟩ := Int.eq_ofNat_of_zero_le HS0.out
          rw [Int.toNat_natCast]
          rfl
        obtain ⟨ad, e0, hx0, hx1⟩ := at_T39 HR0.out ((s.toNat % l0.length : Nat) : Int) (by omega) (by omega)
        cases e0
        have hrd : rd_T39 l0 ((s.toNat % l0.length : Nat) : Int) = l0[s.toNat % l0.length] := by unfold rd_T39; rw [Int.toNat_natCast, List.getD_eq_getElem?_getD, List.getElem?_eq_getElem hq, Option.getD_some]
        rw [hrd] at hx0 hx1
        simp only [Int.toNat_natCast] at hx0 hx1
        obtain ⟨x, hx⟩ : ∃ x, x = l0[s.toNat % l0.length] := ⟨_, rfl⟩
        rw [← hx] at hx0 hx1 rc1 dc1
        clear hrd hx
        obtain ⟨q, hqq⟩ : ∃ q, q = s.toNat % l0.length := ⟨_, rfl⟩
        rw [← hqq] at hq hx0 hx1 wq
        clear hqq
        replace hx0 := (HB.out.cell (World.block_lt_of_cell? w _ hx0)).trans hx0
        replace hx1 := (HB.out.cell (World.block_lt_of_cell? w _ hx1)).trans hx1
        have hlt2 : (q : Int) < (l0.length : Int) := by omega
        have hge0 : (0 : Int) ≤ (q : Int) := by omega
        have h0i : (0 : Int) < (l0.length : Int) := by omega
        have h0n : ((l0.length : Int) == 0) = false := beq_eq_false_iff_ne.mpr (by omega)
        have h0m : ¬ ((l0.length : Int) = 0) := by omega
        have h0k : ¬ (l0.length = 0) := by omega
        have RC1 := Aside0.mk rc1
        have DC1 := Aside0.mk dc1
        clear rc1 dc1
        have HS2 : Aside0 (w.heap.size ≤ wr.heap.size) := ⟨below_size HB.out⟩
        go_wp2_with (first
            | (go_at_call 23; refine (add_calls w.heap.size (A + 1) (Nat.le_trans HSZ.out (by omega)) x.f0 x.f1 vb (Db l0.length) _ (HL.out.b.below (below_alloc (Below.refl _ _) _)) (Nat.le_trans HS2.out (by simp)) HDLB.out k rc RC1.out).mono ?_; rintro e w3 ⟨rfl, vb', hLs, hb3, hk3, hat3⟩;
                have HL3 : Aside0 (Ls2 w3 w.heap.size A (A + 1) va vb' (Da l0.length) Dc) := (⟨by rw [DC1.out]; exact (Ls2.added (by omega) (HL.out.below (below_alloc (Below.refl _ _) _)).swap hLs hk3 hat3).swap⟩);
                have HB3 : Aside0 (Below w.heap.size w w3) := (⟨(below_alloc HB.out _).trans hb3⟩);
                clear hLs hb3 hk3 hat3 HL HB hx0 hx1)
            | (go_at_call 25; refine (all_calls w.heap.size A va (Da l0.length) w3 HL3.out.a HDLA.out).mono ?_; rintro e w5 ⟨A5, c5, rfl, h51, h52, hb5, -⟩;
                have HC5 := Aside0.mk h52; have HCL5 := Aside0.mk h51; have HL5 := Aside0.mk (HL3.out.below hb5); have HB5 := Aside0.mk (below_step HB3.out hb5); clear h51 h52 hb5 HL3 HB3)
            | (go_at_call 25; refine (all_calls w.heap.size (A + 1) vb' Dc w5 HL5.out.b HDC.out).mono ?_; rintro e w6 ⟨A6, c6, rfl, h61, h62, hb6, -⟩;
                have HC6 := Aside0.mk h62; have HCL6 := Aside0.mk h61; have HC5' := Aside0.mk (Kd.C_below HC5.out hb6); have HB6 := Aside0.mk (below_step HB5.out hb6); clear h61 h62 hb6 HL5 HB5 HC5)
            | (go_at_call 24; refine (show Calls Tryd.prog 24 #[.slice A5 (Da l0.length).length c5, .slice A6 Dc.length c6] w6 (fun e w' => e = .returned (.bool true) ∧ Drawn0 w6 w') from by
                  have h := trickleref14_Same.calls k A5 c5 (sortD (Da l0.length)) A6 c6 (sortD Dc) true w6 (by rw [sortD_length]; exact HC5'.out) (by rw [sortD_length]; exact HCL5.out) (by rw [sortD_length]; exact HC6.out) (by rw [sortD_length]; exact HCL6.out) HS.out
                  rw [sortD_length, sortD_length] at h
                  exact h).mono ?_; rintro e w7 ⟨rfl, nd, rfl⟩;
                have HB7 := Aside0.mk (pw_below_drewN HB6.out nd); clear HB6 HC5' HC6; generalize w6.drewN nd = w7 at HB7 ⊢)
            | (go_at_call 11; refine (tricklelaw14_examples.calls k true w7 (HG.out.below HB7.out) HEX.out).mono ?_; rintro e w8 ⟨rfl, hb8⟩; have HB8 := Aside0.mk (below_step HB7.out hb8); clear hb8))
        go_ret
        exact ⟨rfl, HB8.out⟩
      · have h00 : l0.length = 0 := by omega
        have hnp : ¬ ((0 : Int) < (l0.length : Int)) := by omega
        have hnp2 : ¬ (0 < l0.length) := h0
        have HL3 : Aside0 (Ls2 wr w.heap.size A (A + 1) va vb (Da l0.length) Dc) := ⟨by rw [HC0.out h00]; exact HL.out⟩
        have HB3 := Aside0.mk HB.out
        clear HL HB h00
        go_wp2_with (first
            | (go_at_call 25; refine (all_calls w.heap.size A va (Da l0.length) wr HL3.out.a HDLA.out).mono ?_; rintro e w5 ⟨A5, c5, rfl, h51, h52, hb5, -⟩;
                have HC5 := Aside0.mk h52; have HCL5 := Aside0.mk h51; have HL5 := Aside0.mk (HL3.out.below hb5); have HB5 := Aside0.mk (below_step HB3.out hb5); clear h51 h52 hb5 HL3 HB3)
            | (go_at_call 25; refine (all_calls w.heap.size (A + 1) vb Dc w5 HL5.out.b HDC.out).mono ?_; rintro e w6 ⟨A6, c6, rfl, h61, h62, hb6, -⟩;
                have HC6 := Aside0.mk h62; have HCL6 := Aside0.mk h61; have HC5' := Aside0.mk (Kd.C_below HC5.out hb6); have HB6 := Aside0.mk (below_step HB5.out hb6); clear h61 h62 hb6 HL5 HB5 HC5)
            | (go_at_call 24; refine (show Calls Tryd.prog 24 #[.slice A5 (Da l0.length).length c5, .slice A6 Dc.length c6] w6 (fun e w' => e = .returned (.bool true) ∧ Drawn0 w6 w') from by
                  have h := trickleref14_Same.calls k A5 c5 (sortD (Da l0.length)) A6 c6 (sortD Dc) true w6 (by rw [sortD_length]; exact HC5'.out) (by rw [sortD_length]; exact HCL5.out) (by rw [sortD_length]; exact HC6.out) (by rw [sortD_length]; exact HCL6.out) HS.out
                  rw [sortD_length, sortD_length] at h
                  exact h).mono ?_; rintro e w7 ⟨rfl, nd, rfl⟩;
                have HB7 := Aside0.mk (pw_below_drewN HB6.out nd); clear HB6 HC5' HC6; generalize w6.drewN nd = w7 at HB7 ⊢)
            | (go_at_call 11; refine (tricklelaw14_examples.calls k true w7 (HG.out.below HB7.out) HEX.out).mono ?_; rintro e w8 ⟨rfl, hb8⟩; have HB8 := Aside0.mk (below_step HB7.out hb8); clear hb8))
        go_ret
        exact ⟨rfl, HB8.out⟩
end Go.Proofs.YtahgghbhpmpgfaaDoor.PX
/- DiagOrder in the form of the printed laws, where it returns true. -/
namespace Go.Proofs.YtahgghbhpmpgfaaDoor.PX
open Go.RowKit Go.Sort Go.Shelf Go.Lib Go.Proofs.YtahgghbhpmpgfaaDoorW.PrintWords Go.Proofs.YtahgghbhpmpgfaaDoorW.PrintLast Go.Proofs.YtahgghbhpmpgfaaDoorW.PrintMore
set_option linter.unusedVariables false
set_option maxHeartbeats 4000000 in
set_option maxRecDepth 100000 in
theorem order_great (k : Nat) (A0 : Option Addr) (c0 : Nat) (l0 : List S39) (s : Int) (w : World) (hr0 : Kd.C k39 w A0 l0.length l0) (hc0 : l0.length ≤ c0) (hG : GW w) (hgr : trickleref14_Great.f k l0 = some true) (hex : tricklelaw14_examples.f k = some true) :
    Calls Tryd.prog 8 #[.slice A0 l0.length c0, .int .u8 s] w fun e w' => e = .returned (.bool true) ∧ Below w.heap.size w w' := by
  have HG := Aside0.mk hG
  have HR0 := Aside0.mk hr0
  have HEX := Aside0.mk hex
  clear hG hr0 hex
  go_enter Tryd.func8, Tryd.ntmps8
  go_wp2_with (first
    | (go_at_call 16; refine (trickleref14_Great.calls k _ _ l0 true _ HR0.out hc0 hgr).mono ?_; rintro e w1 ⟨rfl, hb1⟩; have HB1 := Aside0.mk hb1; clear hb1)
    | (go_at_call 11; refine (tricklelaw14_examples.calls k true w1 (HG.out.below HB1.out) HEX.out).mono ?_; rintro e w5 ⟨rfl, hb5⟩; have HB5 := Aside0.mk (below_step HB1.out hb5); clear hb5))
  go_ret
  exact ⟨rfl, HB5.out⟩
/-- What makes the walk return true. -/
def OrderOk (k : Nat) (l0 : List S39) (s : Int) : Prop :=
  tricklelaw14_examples.f k = some true ∧ (trickleref14_Great.f k l0 = some true ∨ (trickleref14_Great.f k l0 = some false ∧ l0.length ≤ 40 ∧ 0 ≤ s ∧ s ≤ 255 ∧ ∃ (Da Db : Nat → List S39) (Dc : List S39) (ra rb : Nat → Bool) (rc : Bool), Da 0 = [] ∧ Db 0 = [] ∧
    (∀ i (h : i < l0.length), api_Diagnostic_38.f k (Da i) l0[i].f0 l0[i].f1 = some (ra i)) ∧ (∀ i (h : i < l0.length), Da (i + 1) = if ra i = true then Da i else Da i ++ [l0[i]]) ∧
    (∀ i (h : l0.length - 1 - i < l0.length), i < l0.length → api_Diagnostic_38.f k (Db i) l0[l0.length - 1 - i].f0 l0[l0.length - 1 - i].f1 = some (rb i)) ∧ (∀ i (h : l0.length - 1 - i < l0.length), i < l0.length → Db (i + 1) = if rb i = true then Db i else Db i ++ [l0[l0.length - 1 - i]]) ∧
    (∀ i, i ≤ l0.length → (Da i).length ≤ 100000 ∧ (Db i).length ≤ 100000) ∧ Dc.length ≤ 100000 ∧ (l0.length = 0 → Dc = Db l0.length) ∧
    (∀ (h : s.toNat % l0.length < l0.length), api_Diagnostic_38.f k (Db l0.length) l0[s.toNat % l0.length].f0 l0[s.toNat % l0.length].f1 = some rc ∧ Dc = if rc = true then Db l0.length else Db l0.length ++ [l0[s.toNat % l0.length]]) ∧
    trickleref14_Same.f k (sortD (Da l0.length)) (sortD Dc) = some true))
open Classical in
noncomputable def tricklelaw14_DiagOrder.f (k : Nat) (l0 : List S39) (s : Int) : Option Bool := if OrderOk k l0 s then some true else none
theorem tricklelaw14_DiagOrder.calls (k : Nat) (A0 : Option Addr) (c0 : Nat) (l0 : List S39) (s : Int) (r : Bool) (hrt : r = true) (w : World) (hr0 : Kd.C k39 w A0 l0.length l0) (hc0 : l0.length ≤ c0) (hG : GW w) (h : tricklelaw14_DiagOrder.f k l0 s = some r) :
    Calls Tryd.prog 8 #[.slice A0 l0.length c0, .int .u8 s] w fun e w' => e = .returned (.bool r) ∧ Below w.heap.size w w' := by
  subst hrt
  unfold tricklelaw14_DiagOrder.f at h
  split at h
  case isFalse => cases h
  rename_i hh
  obtain ⟨hex, hgr | ⟨hgr, hn, hs0, hs1, Da, Db, Dc, ra, rb, rc, h1, h2, h3, h4, h5, h6, h7, h8, h9, h10, h11⟩⟩ := hh
  · exact order_great k A0 c0 l0 s w hr0 hc0 hG hgr hex
  · exact order_walk k A0 c0 l0 s w hr0 hc0 hG hgr hex hn hs0 hs1 Da Db Dc ra rb rc h1 h2 h3 h4 h5 h6 h7 h8 h9 h10 h11
end Go.Proofs.YtahgghbhpmpgfaaDoor.PX
/- DiagOrder in plain words: the same elements, the same list. -/
namespace Go.Proofs.YtahgghbhpmpgfaaDoor.PX
open Go.RowKit Go.Sort
set_option linter.unusedVariables false
theorem ded_mem (l : List S39) (y : S39) : y ∈ ded l ↔ y ∈ l := by
  have key : ∀ (l acc : List S39), y ∈ l.foldl addD acc ↔ (y ∈ acc ∨ y ∈ l) := by
    intro l
    induction l with
    | nil => intro acc; simp
    | cons x l ih =>
      intro acc
      rw [List.foldl_cons, ih, addD_mem, List.mem_cons]
      exact or_assoc
  unfold ded
  rw [key]
  simp
theorem u8_bd {v : Int} (h : (Lit.int .u8 v).wf = true) : 0 ≤ v ∧ v ≤ 255 := by
  have h1 : IntKind.u8.min = 0 := by decide
  have h2 : IntKind.u8.max = 255 := by decide
  simp only [Lit.wf, h1, h2, Bool.and_eq_true, decide_eq_true_eq] at h
  exact h
end Go.Proofs.YtahgghbhpmpgfaaDoor.PX
namespace Go.Proofs.YtahgghbhpmpgfaaDoor.Pure
open Go.RowKit Go.Sort Go.Proofs.YtahgghbhpmpgfaaDoor.PX Go.Proofs.YtahgghbhpmpgfaaDoorW.PrintWords Go.Proofs.YtahgghbhpmpgfaaDoorW.PrintLast Go.Proofs.YtahgghbhpmpgfaaDoorW.PrintMore
set_option linter.unusedVariables false
theorem step_eq (l : List S39) (i : Nat) (h : i < l.length) : ded (l.take (i + 1)) = if decide (rd_T39 l (i : Int) ∈ ded (l.take i)) = true then ded (l.take i) else ded (l.take i) ++ [l[i]] := by
  rw [rd39 l i h, ded_take l i h]
  unfold addD
  by_cases hm : l[i] ∈ ded (l.take i)
  · rw [if_pos hm, if_pos (decide_eq_true hm)]
  · rw [if_neg hm, if_neg (by rw [decide_eq_false hm]; decide)]
theorem rev_at (l : List S39) (i : Nat) (h : l.length - 1 - i < l.length) (hi : i < l.length) : l.reverse[i]'(by rw [List.length_reverse]; exact hi) = l[l.length - 1 - i] := by
  rw [List.getElem_reverse]
theorem DiagOrder (l : List S39) (s : Int) (hw : ∀ x ∈ l, x.f1.size ≤ 140737488355328) (hl : l.length ≤ 140737488355328) (hs : 0 ≤ s ∧ s ≤ 255) : ∃ n, tricklelaw14_DiagOrder.f n l s = some true := by
  suffices h : ∃ n, OrderOk n l s by
    obtain ⟨n, h⟩ := h
    exact ⟨n, by unfold tricklelaw14_DiagOrder.f; rw [if_pos h]⟩
  obtain ⟨K1, h1⟩ := examples_ev
  obtain ⟨K2, h2⟩ := great_ev l hl hw
  by_cases hg : (decide (sumT l > 1000) || decide (l.length > 40)) = true
  · refine ⟨max K1 K2, h1 _ (by omega), Or.inl ?_⟩
    exact (h2 _ (by omega)).trans (congrArg some hg)
  · rw [Bool.not_eq_true] at hg
    have hg2 := hg
    rw [Bool.or_eq_false_iff, decide_eq_false_iff_not, decide_eq_false_iff_not] at hg2
    have hn : l.length ≤ 40 := by omega
    have hrl : l.reverse.length = l.length := List.length_reverse
    have hf := ded_facts l
    have hf2 := ded_facts l.reverse
    rw [hrl] at hf2
    obtain ⟨K3, h3⟩ := all_rounds (fun i k => api_Diagnostic_38.f k (ded (l.take i)) (rd_T39 l (i : Int)).f0 (rd_T39 l (i : Int)).f1) (fun i => decide (rd_T39 l (i : Int) ∈ ded (l.take i))) l.length (fun i hi => by
      have := hf i (by omega)
      exact contains_ev _ _ (by omega))
    obtain ⟨K4, h4⟩ := all_rounds (fun i k => api_Diagnostic_38.f k (ded (l.reverse.take i)) (rd_T39 l.reverse (i : Int)).f0 (rd_T39 l.reverse (i : Int)).f1) (fun i => decide (rd_T39 l.reverse (i : Int) ∈ ded (l.reverse.take i))) l.length (fun i hi => by
      have := hf2 i (by omega)
      exact contains_ev _ _ (by omega))
    obtain ⟨fa1, fa2, fa3⟩ := hf l.length (Nat.le_refl _)
    obtain ⟨fb1, fb2, fb3⟩ := hf2 l.length (Nat.le_refl _)
    have ta : l.take l.length = l := List.take_of_length_le (Nat.le_refl _)
    have tb : l.reverse.take l.length = l.reverse := List.take_of_length_le (by omega)
    rw [ta] at fa1 fa2
    rw [tb] at fb1 fb2
    let Dc : List S39 := if h : 0 < l.length then addD (ded l.reverse) (l[s.toNat % l.length]'(Nat.mod_lt _ h)) else ded l.reverse
    have hDcn : Dc.Nodup := by
      by_cases h0 : 0 < l.length
      · show (if h : 0 < l.length then _ else _ : List S39).Nodup
        rw [dif_pos h0]; exact addD_nodup _ _ fb1
      · show (if h : 0 < l.length then _ else _ : List S39).Nodup
        rw [dif_neg h0]; exact fb1
    have hDcm : ∀ y, y ∈ Dc ↔ y ∈ l := by
      intro y
      by_cases h0 : 0 < l.length
      · show y ∈ (if h : 0 < l.length then _ else _ : List S39) ↔ _
        rw [dif_pos h0, addD_mem, ded_mem, List.mem_reverse]
        exact ⟨fun h => h.elim id (fun e => by rw [e]; exact List.getElem_mem _), Or.inl⟩
      · show y ∈ (if h : 0 < l.length then _ else _ : List S39) ↔ _
        rw [dif_neg h0, ded_mem, List.mem_reverse]
    have hDcl : Dc.length ≤ 100000 := by
      by_cases h0 : 0 < l.length
      · show (if h : 0 < l.length then _ else _ : List S39).length ≤ 100000
        rw [dif_pos h0]
        have := (addD_len (ded l.reverse) (l[s.toNat % l.length]'(Nat.mod_lt _ h0))).1
        omega
      · show (if h : 0 < l.length then _ else _ : List S39).length ≤ 100000
        rw [dif_neg h0]; omega
    have hE : sortD (ded l) = sortD Dc := ascD_eq _ _ (sortD_asc _ fa1) (sortD_asc _ hDcn) (fun y => by rw [sortD_mem, sortD_mem, ded_mem, hDcm])
    obtain ⟨K5, h5⟩ := same_ev (sortD (ded l)) (by rw [sortD_length]; omega)
    obtain ⟨K6, h6⟩ : ∃ K, ∀ k, K ≤ k → api_Diagnostic_38.f k (ded l.reverse) (rd_T39 l ((s.toNat % l.length : Nat) : Int)).f0 (rd_T39 l ((s.toNat % l.length : Nat) : Int)).f1 = some (decide (rd_T39 l ((s.toNat % l.length : Nat) : Int) ∈ ded l.reverse)) := contains_ev _ _ (by omega)
    generalize hK : K1 + K2 + K3 + K4 + K5 + K6 = K
    refine ⟨K, h1 _ (by omega), Or.inr ⟨(h2 _ (by omega)).trans (congrArg some hg), hn, hs.1, hs.2, fun i => ded (l.take i), fun i => ded (l.reverse.take i), Dc, fun i => decide (rd_T39 l (i : Int) ∈ ded (l.take i)), fun i => decide (rd_T39 l.reverse (i : Int) ∈ ded (l.reverse.take i)), decide (rd_T39 l ((s.toNat % l.length : Nat) : Int) ∈ ded l.reverse),
      ?_, ?_, fun i hi => ?_, fun i hi => step_eq l i hi, fun i hj hi => ?_, fun i hj hi => ?_, fun i hi => ?_, hDcl, fun h0 => ?_, fun hq => ⟨?_, ?_⟩, ?_⟩⟩
    · show ded (l.take 0) = []
      rw [List.take_zero]; rfl
    · show ded (l.reverse.take 0) = []
      rw [List.take_zero]; rfl
    · have := h3 K (by omega) i hi
      show api_Diagnostic_38.f K (ded (l.take i)) l[i].f0 l[i].f1 = some (decide (rd_T39 l (i : Int) ∈ ded (l.take i)))
      rw [rd39 l i hi] at this ⊢
      exact this
    · have := h4 K (by omega) i hi
      show api_Diagnostic_38.f K (ded (l.reverse.take i)) l[l.length - 1 - i].f0 l[l.length - 1 - i].f1 = some (decide (rd_T39 l.reverse (i : Int) ∈ ded (l.reverse.take i)))
      rw [rd39 l.reverse i (by omega), rev_at l i hj hi] at this ⊢
      exact this
    · have := step_eq l.reverse i (by omega)
      rw [rev_at l i hj hi] at this
      exact this
    · obtain ⟨_, g2, _⟩ := hf i hi
      obtain ⟨_, g4, _⟩ := hf2 i hi
      exact ⟨Nat.le_trans g2 (by omega), Nat.le_trans g4 (by omega)⟩
    · show (if h : 0 < l.length then _ else _ : List S39) = ded (l.reverse.take l.length)
      rw [dif_neg (by omega), tb]
    · show api_Diagnostic_38.f K (ded (l.reverse.take l.length)) _ _ = _
      have := h6 K (by omega)
      rw [rd39 l _ hq] at this
      rw [tb, rd39 l _ hq]
      exact this
    · have h0 : 0 < l.length := by omega
      show (if h : 0 < l.length then _ else _ : List S39) = if decide _ = true then ded (l.reverse.take l.length) else ded (l.reverse.take l.length) ++ _
      rw [dif_pos h0, tb, rd39 l _ hq]
      unfold addD
      by_cases hm : l[s.toNat % l.length] ∈ ded l.reverse
      · rw [if_pos hm, if_pos (decide_eq_true hm)]
      · rw [if_neg hm, if_neg (by rw [decide_eq_false hm]; decide)]
    · show trickleref14_Same.f K (sortD (ded (l.take l.length))) (sortD Dc) = some true
      rw [ta, ← hE]
      exact h5 _ (by omega)
end Go.Proofs.YtahgghbhpmpgfaaDoor.Pure
/- As the library's returnsInHanded_of_change_and, and the contract also gets that the world is shaped. -/
namespace Go.Proofs.YtahgghbhpmpgfaaDoor.PX
open Go Go.ChangeShapes Go.WideShapes Go.RowKit
theorem handed_shaped {H : Type} {enc : TypeId × Value → H} {a : Assume} {C : Checked} {os : Os} {f : FuncId} {fn : Func} {s : ChangeSpec} {conds : List PathCond} {apart fresh handsOn again : Bool} {X : World → Array Value → Prop}
    (hX : ∀ (w w' : World) (args : Array Value), w.heap = w'.heap → X w args → X w' args)
    (own : ownKnob C.prog.godebug = none) (started : os.Started) (noInit : C.prog.inits.idxOf? f = none) (hfn : C.prog.funcs[f]? = some fn)
    (witness : ∃ (w : World) (tape : Tape) (i : Input), w.os = os ∧ (w.forCall tape i).Shaped C.prog ∧ i.vars = [] ∧ Input.okWide C.prog (w.forCall tape i) .any w.heap.size f i ∧
      ((s.pre enc C.prog fn conds apart (w.forCall tape i).memory i.args ∧ X (w.forCall tape i).memory i.args) ∧ sizedMet enc C.prog fn (OpenSpec.ofChange s) apart (w.forCall tape i).memory i.args) ∧ a.holds C.prog (lone (Frame.enter C.prog f i.args .normal) [] (w.forCall tape i)))
    (contract : ∀ (W : World) (base : Nat) (args : Array Value) (ds gs : List (DataW H)) (before : List MemPlace), W.ShapedOpen C.prog →
      (∀ (j : Nat) t v, fn.params[j]? = some t → args[j]? = some v → Value.okWide C.prog W .any base t v) →
      DataW.Whole enc C.prog fn.params.toList s.vars apart W args.toList ds gs before →
      conds.all (PathCond.test C.prog ⟨fn.params.toList, ds, s.plain.varTypes C.prog, gs⟩) = true →
      (DataW.weightsEach C.prog (fn.params.toList ++ s.plain.varTypes C.prog) (ds ++ gs)).all (· ≤ reachBytes) = true → X W args →
      a.holds C.prog (lone (Frame.enter C.prog f args .normal) [] W) →
      Calls C.prog f args W fun e W' => ∃ v, e = .returned v ∧ s.post enc C.prog fn apart fresh handsOn again W args v W') :
    ReturnsInHanded a C os f .any (fun w args => (s.pre enc C.prog fn conds apart w args ∧ X w args) ∧ sizedMet enc C.prog fn (OpenSpec.ofChange s) apart w args) (s.post enc C.prog fn apart fresh handsOn again) := by
  refine returnsInHanded_of_calls own started noInit witness ?_
  intro w tape i _ hsh _ hok hpre hholds
  obtain ⟨_, _, _, fn', hfn', _, _, _, _, hval⟩ := hok
  have e : fn' = fn := Option.some.inj (hfn'.symm.trans hfn)
  subst e
  obtain ⟨⟨⟨ds, gs, before, hw, hc⟩, hx⟩, hz⟩ := hpre
  have hw' := DataW.Whole.of_heap (w' := w.forCall tape i) (by rfl) hw
  refine (contract (w.forCall tape i) w.heap.size i.args ds gs before hsh hval hw' hc (hz.weights hw) (hX _ _ _ (by rfl) hx) hholds).mono fun e W' ⟨v, he, hp⟩ => ?_
  subst he
  exact ChangeSpec.post_blind hp
end Go.Proofs.YtahgghbhpmpgfaaDoor.PX
