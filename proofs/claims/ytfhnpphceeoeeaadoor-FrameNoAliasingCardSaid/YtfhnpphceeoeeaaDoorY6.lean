/- Parts of the proof, merged in build order: Cr2, PXx13, PXx32, Cr3. -/
import Derived.Test.YtfhnpphceeoeeaaDoorY1
import Derived.Test.YtfhnpphceeoeeaaDoorY2
import Derived.Test.YtfhnpphceeoeeaaDoorY4
import Derived.Test.YtfhnpphceeoeeaaDoorY5
/- Frames in plain words, 1: numbers as bytes, the packet of a frame, what is decoded of bytes. -/
namespace Go.Proofs.YtfhnpphceeoeeaaDoor.PX
open Go.RowKit Go.Proofs.YtfhnpphceeoeeaaDoorW.PrintWords Go.Proofs.YtfhnpphceeoeeaaDoorW.PrintLast Go.Proofs.YtfhnpphceeoeeaaDoorW.PrintMore
set_option linter.unusedVariables false
set_option linter.unusedSimpArgs false
/-- The bytes of a number, the low one first. -/
def leN : Nat → Int → List Int
  | 0, _ => []
  | n + 1, a => a % 256 :: leN n (a / 256)
theorem leN_length (n : Nat) : ∀ a, (leN n a).length = n := by
  induction n with
  | zero => intro a; rfl
  | succ n ih => intro a; rw [leN, List.length_cons, ih]
theorem leN_bytes (n : Nat) : ∀ a, Bytes (leN n a) := by
  induction n with
  | zero => intro a x h; cases h
  | succ n ih =>
    intro a x h
    rw [leN] at h
    rcases List.mem_cons.mp h with rfl | h
    · omega
    · exact ih _ x h
theorem number_loop (n : Nat) (hn : n ≤ 100) : ∀ (m i : Nat) (a : Int) (acc : List Int), i + m = n → acc.length = i → Ev (fun k => frame_number.l0 k a acc (n : Int) (i : Int)) (acc ++ leN m a)
  | 0, i, a, acc, hi, ha => by
    refine Ev.step (fun k => by rw [frame_number.l0]) ?_
    rw [leN, List.append_nil]
    exact Ev.neg (by omega) (Ev.now _)
  | m + 1, i, a, acc, hi, ha => by
    refine Ev.step (fun k => by rw [frame_number.l0]) (Ev.pos (by omega) (Ev.pos (by omega) ?_))
    rw [wrap_nat (n := n) (by omega) (by omega)]
    refine Ev.cast (number_loop n hn m (i + 1) (a / 256) _ (by omega) (by rw [List.length_append, ha]; rfl)) ?_
    rw [leN, List.append_assoc]
    rfl
theorem number_ev (n : Nat) (hn : n ≤ 100) (a : Int) : Ev (fun k => frame_number.f k a (n : Int)) (leN n a) :=
  Ev.congr (f := fun k => frame_number.l0 k a [] (n : Int) ((0 : Nat) : Int)) (fun k => by rw [frame_number.f]; rfl) (number_loop n hn n 0 a [] (by omega) rfl)
/-- The number of bytes, the low one first. -/
def val : List Int → Int
  | [] => 0
  | x :: r => x + 256 * val r
theorem val_range : ∀ (l : List Int), Bytes l → 0 ≤ val l ∧ val l < 256 ^ l.length := by
  intro l
  induction l with
  | nil => intro _; exact ⟨Int.le_refl _, by decide⟩
  | cons x r ih =>
    intro h
    obtain ⟨h0, h1⟩ := h x (.head _)
    obtain ⟨i0, i1⟩ := ih (fun y hy => h y (.tail _ hy))
    rw [val, List.length_cons, Int.pow_succ]
    constructor <;> omega
theorem val_leN (n : Nat) : ∀ a : Int, 0 ≤ a → a < 256 ^ n → val (leN n a) = a := by
  induction n with
  | zero => intro a h0 h1; rw [leN, val]; simp at h1; omega
  | succ n ih =>
    intro a h0 h1
    rw [Int.pow_succ] at h1
    rw [leN, val, ih (a / 256) (by omega) (by omega)]
    omega
theorem leN_val : ∀ (l : List Int), Bytes l → leN l.length (val l) = l := by
  intro l
  induction l with
  | nil => intro _; rfl
  | cons x r ih =>
    intro h
    obtain ⟨h0, h1⟩ := h x (.head _)
    rw [List.length_cons, val, leN, show (x + 256 * val r) % 256 = x by omega, show (x + 256 * val r) / 256 = val r by omega, ih (fun y hy => h y (.tail _ hy))]
theorem or_nat (X Y : Nat) (hY : Y < 256) : X * 256 ||| Y = X * 256 + Y := by
  have := Nat.two_pow_add_eq_or_of_lt (i := 8) hY X
  rw [show 2 ^ 8 * X = X * 256 by omega] at this
  exact this.symm
theorem or16 (x y : Int) (hx0 : 0 ≤ x) (hx1 : x ≤ 255) (hy0 : 0 ≤ y) (hy1 : y ≤ 255) : Go.bits .or .u16 (IntKind.u16.wrap (IntKind.u16.wrap x * 256)) (IntKind.u16.wrap y) = x * 256 + y := by
  obtain ⟨X, rfl⟩ := Int.eq_ofNat_of_zero_le hx0
  obtain ⟨Y, rfl⟩ := Int.eq_ofNat_of_zero_le hy0
  have e1 : IntKind.u16.wrap (IntKind.u16.wrap (X : Int) * 256) = ((X * 256 : Nat) : Int) := by rw [wrap_u16, wrap_u16]; omega
  have e2 : IntKind.u16.wrap (Y : Int) = (Y : Int) := by rw [wrap_u16]; omega
  rw [e1, e2]
  show IntKind.u16.wrap (((BitVec.ofInt 16 ((X * 256 : Nat) : Int)) ||| (BitVec.ofInt 16 (Y : Int))).toNat : Int) = _
  rw [BitVec.ofInt_natCast, BitVec.ofInt_natCast, BitVec.toNat_or, BitVec.toNat_ofNat, BitVec.toNat_ofNat, Nat.mod_eq_of_lt (by omega), Nat.mod_eq_of_lt (by omega), or_nat X Y (by omega), wrap_u16]
  omega
theorem or64 (x y : Int) (hx0 : 0 ≤ x) (hx1 : x < 1099511627776) (hy0 : 0 ≤ y) (hy1 : y ≤ 255) : Go.bits .or .i64 (wrap64 (x * 256)) (wrap64 y) = x * 256 + y := by
  obtain ⟨X, rfl⟩ := Int.eq_ofNat_of_zero_le hx0
  obtain ⟨Y, rfl⟩ := Int.eq_ofNat_of_zero_le hy0
  have e1 : wrap64 ((X : Int) * 256) = ((X * 256 : Nat) : Int) := by rw [wrap_id (by omega) (by omega)]; omega
  have e2 : wrap64 (Y : Int) = (Y : Int) := wrap_id (by omega) (by omega)
  rw [e1, e2]
  show IntKind.i64.wrap (((BitVec.ofInt 64 ((X * 256 : Nat) : Int)) ||| (BitVec.ofInt 64 (Y : Int))).toNat : Int) = _
  rw [BitVec.ofInt_natCast, BitVec.ofInt_natCast, BitVec.toNat_or, BitVec.toNat_ofNat, BitVec.toNat_ofNat, Nat.mod_eq_of_lt (by omega), Nat.mod_eq_of_lt (by omega), or_nat X Y (by omega), i64_w, wrap_id (by omega) (by omega)]
  omega
theorem val_small (l : List Int) (hb : Bytes l) (hl : l.length ≤ 5) : 0 ≤ val l ∧ val l < 1099511627776 := by
  obtain ⟨h0, h1⟩ := val_range l hb
  refine ⟨h0, Int.lt_of_lt_of_le h1 ?_⟩
  rcases (by omega : l.length = 0 ∨ l.length = 1 ∨ l.length = 2 ∨ l.length = 3 ∨ l.length = 4 ∨ l.length = 5) with e | e | e | e | e | e <;> rw [e] <;> decide
theorem Bytes.drop {l : List Int} (h : Bytes l) (n : Nat) : Bytes (l.drop n) := fun x hx => h x (List.mem_of_mem_drop hx)
theorem Bytes.take {l : List Int} (h : Bytes l) (n : Nat) : Bytes (l.take n) := fun x hx => h x (List.mem_of_mem_take hx)
theorem Bytes.append {a b : List Int} (h : Bytes a) (k : Bytes b) : Bytes (a ++ b) := fun x hx => (List.mem_append.mp hx).elim (h x) (k x)
theorem value_loop (l : List Int) (hb : Bytes l) (hl : l.length ≤ 6) : ∀ m, m ≤ l.length → Ev (fun k => frame_value.l0 k l (val (l.drop m)) ((m : Int) - 1)) (val l)
  | 0, hm => by
    refine Ev.step (fun k => by rw [frame_value.l0]) ?_
    rw [List.drop_zero]
    exact Ev.neg (show ¬ (((0 : Nat) : Int) - 1 ≥ 0) by omega) (Ev.now _)
  | m + 1, hm => by
    have hlt : m < l.length := by omega
    obtain ⟨b0, b1⟩ := hb _ (List.getElem_mem hlt)
    obtain ⟨v0, v1⟩ := val_small (l.drop (m + 1)) (hb.drop _) (by rw [List.length_drop]; omega)
    refine Ev.step (fun k => by rw [frame_value.l0]) ?_
    rw [show ((m + 1 : Nat) : Int) - 1 = (m : Int) by omega]
    refine Ev.pos (by omega) (Ev.pos (by omega) (Ev.pos (by omega) ?_))
    rw [rd_nat l m hlt, or64 _ _ v0 v1 b0 b1, wrap_id (i := (m : Int) - 1) (by omega) (by omega)]
    have ih := value_loop l hb hl m (by omega)
    rw [drop_cons l m hlt, val] at ih
    rw [show val (l.drop (m + 1)) * 256 + l[m] = l[m] + 256 * val (l.drop (m + 1)) by omega]
    exact ih
theorem value_ev (l : List Int) (hb : Bytes l) (hl : l.length ≤ 6) : Ev (fun k => frame_value.f k l) (val l) := by
  have h := value_loop l hb hl l.length (Nat.le_refl _)
  rw [List.drop_length] at h
  exact Ev.congr (f := fun k => frame_value.l0 k l 0 ((l.length : Int) - 1)) (fun k => by rw [frame_value.f, wrap_id (by omega) (by omega)]) h
theorem rnumber_ev (l : List Int) (hb : Bytes l) (hl : 4 ≤ l.length) : trickleref43_number.f l = some (val (l.take 4)) := by
  obtain ⟨a, b, c, d, r, rfl⟩ : ∃ a b c d r, l = a :: b :: c :: d :: r := by
    match l, hl with
    | a :: b :: c :: d :: r, _ => exact ⟨a, b, c, d, r, rfl⟩
  obtain ⟨a0, a1⟩ := hb a (by simp)
  obtain ⟨b0, b1⟩ := hb b (by simp)
  obtain ⟨c0, c1⟩ := hb c (by simp)
  obtain ⟨d0, d1⟩ := hb d (by simp)
  unfold trickleref43_number.f
  simp only [List.length_cons] at hl ⊢
  rw [if_pos (by omega), if_pos (by omega), if_pos (by omega), if_pos (by omega)]
  show some (wrap64 (wrap64 (wrap64 (wrap64 a + wrap64 (256 * wrap64 b)) + wrap64 (65536 * wrap64 c)) + wrap64 (16777216 * wrap64 d))) = some (a + 256 * (b + 256 * (c + 256 * (d + 256 * 0))))
  rw [wrap_id (i := a) (by omega) (by omega), wrap_id (i := b) (by omega) (by omega), wrap_id (i := c) (by omega) (by omega), wrap_id (i := d) (by omega) (by omega), wrap_id (i := 256 * b) (by omega) (by omega), wrap_id (i := 65536 * c) (by omega) (by omega), wrap_id (i := 16777216 * d) (by omega) (by omega), wrap_id (i := a + 256 * b) (by omega) (by omega), wrap_id (i := a + 256 * b + 65536 * c) (by omega) (by omega), wrap_id (by omega) (by omega)]
  congr 1
  omega
/-- Whether a frame is valid. -/
def validB (k s : Int) (b : List Int) : Bool := decide (1 ≤ k ∧ k ≤ 6 ∧ 0 ≤ s ∧ s ≤ 2147483647 ∧ b.length ≤ 40)
theorem validB_iff (k s : Int) (b : List Int) : validB k s b = true ↔ (1 ≤ k ∧ k ≤ 6 ∧ 0 ≤ s ∧ s ≤ 2147483647 ∧ b.length ≤ 40) := decide_eq_true_iff
theorem seq_ev (s : Int) : frame_seq.f s = some (decide (0 ≤ s ∧ s ≤ 2147483647)) := by
  unfold frame_seq.f
  by_cases h : s ≥ 0
  · rw [if_pos h]; congr 1; rw [Bool.eq_iff_iff, decide_eq_true_eq, decide_eq_true_eq]; omega
  · rw [if_neg h]; congr 1; symm; rw [decide_eq_false_iff_not]; omega
theorem valid_ev (k s : Int) (b : List Int) : frame_Valid.f k s b = some (validB k s b) := by
  unfold frame_Valid.f
  rw [seq_ev, Option.bind_some]
  unfold validB
  by_cases h1 : k ≥ 1
  case neg => rw [if_neg h1]; congr 1; symm; rw [decide_eq_false_iff_not]; omega
  by_cases h2 : k ≤ 6
  case neg => rw [if_pos h1, if_neg h2]; congr 1; symm; rw [decide_eq_false_iff_not]; omega
  rw [if_pos h1, if_pos h2]
  by_cases h3 : 0 ≤ s ∧ s ≤ 2147483647
  · rw [if_pos (decide_eq_true h3)]; congr 1; rw [Bool.eq_iff_iff, decide_eq_true_eq, decide_eq_true_eq]; omega
  · rw [if_neg (by rw [decide_eq_true_eq]; exact h3)]; congr 1; symm; rw [decide_eq_false_iff_not]; omega
theorem rvalid_ev (k s : Int) (b : List Int) : trickleref43_Valid.f k s b = some (validB k s b) := by
  unfold trickleref43_Valid.f validB
  by_cases h1 : k ≥ 1
  case neg => rw [if_neg h1]; congr 1; symm; rw [decide_eq_false_iff_not]; omega
  by_cases h2 : k ≤ 6
  case neg => rw [if_pos h1, if_neg h2]; congr 1; symm; rw [decide_eq_false_iff_not]; omega
  by_cases h3 : s ≥ 0
  case neg => rw [if_pos h1, if_pos h2, if_neg h3]; congr 1; symm; rw [decide_eq_false_iff_not]; omega
  by_cases h4 : s ≤ 2147483647
  case neg => rw [if_pos h1, if_pos h2, if_pos h3, if_neg h4]; congr 1; symm; rw [decide_eq_false_iff_not]; omega
  rw [if_pos h1, if_pos h2, if_pos h3, if_pos h4]; congr 1; rw [Bool.eq_iff_iff, decide_eq_true_eq, decide_eq_true_eq]; omega
/-- The packet of a frame: its head and body, and the checksum of both. -/
def pk (k s : Int) (b : List Int) : List Int := (k % 256 :: leN 4 s) ++ b
def tailB (l : List Int) : List Int := [I16 (crc l) / 256 % 256, I16 (crc l) % 256]
def enc (k s : Int) (b : List Int) : List Int := pk k s b ++ tailB (pk k s b)
theorem pk_bytes (k s : Int) (b : List Int) (h : Bytes b) : Bytes (pk k s b) := by
  refine Bytes.append ?_ h
  intro x hx
  rcases List.mem_cons.mp hx with rfl | hx
  · omega
  · exact leN_bytes 4 s x hx
theorem pk_length (k s : Int) (b : List Int) : (pk k s b).length = 5 + b.length := by
  unfold pk
  rw [List.length_append, List.length_cons, leN_length]
def encR (k s : Int) (b : List Int) : List Int × Int := if validB k s b = true then (enc k s b, 0) else ([], 1)
theorem clone_s (l : List Int) (h : l.length ≤ 140737488355328) : slices_Clone_byte.f l = some l := by unfold slices_Clone_byte.f cloneF; rw [if_pos h]
theorem clone_b (l : List Int) (h : l.length ≤ 140737488355328) : bytes_Clone.f l = some l := by unfold bytes_Clone.f cloneF; rw [if_pos h]
theorem append_ev (l : List Int) (hb : Bytes l) (hn : l.length ≤ 1000000) : Ev (fun k => crc16_Append.f k l) (l ++ tailB l) := by
  refine Ev.congr (fun k => by rw [crc16_Append.f]) (Ev.bind (sum_impl l hb hn) (Ev.const (a := l) (clone_s l (by omega)) (Ev.someb ?_)))
  exact Ev.pos (by simp only [List.length_cons, List.length_nil]; omega) (Ev.now _)
theorem encode_ev (k s : Int) (b : List Int) (hb : Bytes b) : Ev (fun n => frame_Encode.f n k s b) (encR k s b) := by
  refine Ev.congr (fun n => by rw [frame_Encode.f]) (Ev.const (valid_ev k s b) ?_)
  unfold encR
  by_cases h : validB k s b = true
  · have hl := ((validB_iff k s b).mp h).2.2.2.2
    rw [if_pos h]
    refine Ev.pos h (Ev.someb (Ev.bind (number_ev 4 (by omega) s) (Ev.pos (by rw [leN_length]; simp only [List.length_cons, List.length_nil]; omega) (Ev.someb (Ev.pos (by rw [List.length_append, leN_length]; simp only [List.length_cons, List.length_nil]; omega) ?_)))))
    have hp := pk_length k s b
    exact Ev.bind (append_ev (pk k s b) (pk_bytes k s b hb) (by omega)) (Ev.now _)
  · rw [if_neg h]
    exact Ev.neg h (Ev.now _)
/-- What is decoded of bytes. -/
def crcOK (l : List Int) : Bool := decide (I16 (crc (l.take (l.length - 2))) = rd l ((l.length - 2 : Nat) : Int) * 256 + rd l ((l.length - 1 : Nat) : Int))
def decR (l : List Int) : Int × Int × List Int × Int :=
  if l.length < 7 then (0, 0, [], 3)
  else if crcOK l = true then (if validB (rd l 0) (val ((l.take 5).drop 1)) ((l.take (l.length - 2)).drop 5) = true then (rd l 0, val ((l.take 5).drop 1), (l.take (l.length - 2)).drop 5, 0) else (0, 0, [], 2))
  else (0, 0, [], 4)
theorem rd_take (l : List Int) (n j : Nat) (h : j < n) : rd (l.take n) (j : Int) = rd l (j : Int) := by
  unfold rd
  rw [Int.toNat_natCast, List.getD_eq_getElem?_getD, List.getD_eq_getElem?_getD, List.getElem?_take_of_lt h]
theorem rd_drop (l : List Int) (n j : Nat) : rd (l.drop n) (j : Int) = rd l ((n + j : Nat) : Int) := by
  unfold rd
  rw [Int.toNat_natCast, Int.toNat_natCast, List.getD_eq_getElem?_getD, List.getD_eq_getElem?_getD, List.getElem?_drop]
theorem rd_byte (l : List Int) (hb : Bytes l) (j : Nat) (hj : j < l.length) : 0 ≤ rd l (j : Int) ∧ rd l (j : Int) ≤ 255 := by
  rw [rd_nat l j hj]
  exact hb _ (List.getElem_mem hj)
theorem check_ev (l : List Int) (hb : Bytes l) (h2 : 2 ≤ l.length) (hn : l.length ≤ 1000000) : Ev (fun k => crc16_Check.f k l) (if crcOK l = true then (l.take (l.length - 2), 0) else ([], 4)) := by
  have hw : wrap64 ((l.length : Int) - 2) = ((l.length - 2 : Nat) : Int) := by rw [wrap_id (by omega) (by omega)]; omega
  obtain ⟨x0, x1⟩ := rd_byte l hb (l.length - 2) (by omega)
  obtain ⟨y0, y1⟩ := rd_byte l hb (l.length - 1) (by omega)
  have e0 := rd_drop l (l.length - 2) 0
  have e1 := rd_drop l (l.length - 2) 1
  rw [show ((0 : Nat) : Int) = 0 from rfl, Nat.add_zero] at e0
  rw [show ((1 : Nat) : Int) = 1 from rfl, show l.length - 2 + 1 = l.length - 1 by omega] at e1
  refine Ev.congr (fun k => by rw [crc16_Check.f]) (Ev.neg (by omega) ?_)
  rw [hw, Int.toNat_natCast, e0, e1, or16 _ _ x0 x1 y0 y1]
  refine Ev.pos (by omega) (Ev.pos (by omega) (Ev.bind (sum_impl _ (hb.take _) (by rw [List.length_take]; omega)) (Ev.pos (by rw [List.length_drop]; omega) (Ev.pos (by rw [List.length_drop]; omega) ?_))))
  by_cases h : crcOK l = true
  · rw [if_pos h]
    exact Ev.pos (of_decide_eq_true h) (Ev.const (a := l.take (l.length - 2)) (clone_s _ (by rw [List.length_take]; omega)) (Ev.now _))
  · rw [if_neg h]
    exact Ev.neg (fun e => h (decide_eq_true e)) (Ev.now _)
theorem decode_ev (l : List Int) (hb : Bytes l) (hn : l.length ≤ 1000000) : Ev (fun k => frame_Decode.f k l) (decR l) := by
  unfold decR
  by_cases h7 : l.length < 7
  · rw [if_pos h7]
    exact Ev.congr (fun k => by rw [frame_Decode.f]) (Ev.pos (by omega) (Ev.now _))
  rw [if_neg h7]
  refine Ev.congr (fun k => by rw [frame_Decode.f]) (Ev.neg (by omega) (Ev.bind (check_ev l hb (by omega) hn) ?_))
  by_cases hc : crcOK l = true
  · rw [if_pos hc, if_pos hc]
    obtain ⟨x0, x1⟩ := rd_byte l hb 0 (by omega)
    rw [show ((0 : Nat) : Int) = 0 from rfl] at x0 x1
    have hr := rd_take l (l.length - 2) 0 (by omega)
    rw [show ((0 : Nat) : Int) = 0 from rfl] at hr
    have ht : (l.take (l.length - 2)).take 5 = l.take 5 := by rw [List.take_take]; congr 1; omega
    refine Ev.pos rfl (Ev.pos (by rw [List.length_take]; omega) (Ev.pos (by decide) (Ev.pos (by rw [List.length_take]; omega) ?_)))
    show Ev (fun k => (frame_value.f k (((l.take (l.length - 2)).take 5).drop 1)).bind fun t285 => (bytes_Clone.f ((l.take (l.length - 2)).drop 5)).bind fun t290 => (frame_Valid.f (wrap64 (rd (l.take (l.length - 2)) 0)) t285 t290).bind fun t294 => if t294 = true then some (wrap64 (rd (l.take (l.length - 2)) 0), t285, t290, 0) else some (0, 0, [], 2)) _
    rw [ht, hr, wrap_id (i := rd l 0) (by omega) (by omega)]
    refine Ev.bind (value_ev _ ((hb.take _).drop _) (by rw [List.length_drop, List.length_take]; omega)) (Ev.const (a := (l.take (l.length - 2)).drop 5) (clone_b _ (by rw [List.length_drop, List.length_take]; omega)) (Ev.const (valid_ev _ _ _) ?_))
    by_cases hv : validB (rd l 0) (val ((l.take 5).drop 1)) ((l.take (l.length - 2)).drop 5) = true
    · exact Ev.cast (Ev.pos hv (Ev.now _)) (if_pos hv).symm
    · exact Ev.cast (Ev.neg hv (Ev.now _)) (if_neg hv).symm
  · rw [if_neg hc, if_neg hc]
    exact Ev.neg (show ¬ ((4 : Int) = 0) by decide) (Ev.now _)
theorem rdecode_ev (l : List Int) (hb : Bytes l) (hn : l.length ≤ 1000000) : Ev (fun k => trickleref43_Decode.f k l) (decR l) := by
  have hw : wrap64 ((l.length : Int) - 2) = ((l.length - 2 : Nat) : Int) ∨ l.length < 7 := by
    by_cases h7 : l.length < 7
    · exact .inr h7
    · left; rw [wrap_id (by omega) (by omega)]; omega
  unfold decR
  by_cases h7 : l.length < 7
  · rw [if_pos h7]
    exact Ev.congr (fun k => by rw [trickleref43_Decode.f]) (Ev.pos (by omega) (Ev.now _))
  rw [if_neg h7]
  replace hw := hw.resolve_right h7
  have hw1 : wrap64 (((l.length - 2 : Nat) : Int) + 1) = ((l.length - 1 : Nat) : Int) := by rw [wrap_id (by omega) (by omega)]; omega
  obtain ⟨x0, x1⟩ := rd_byte l hb (l.length - 2) (by omega)
  obtain ⟨y0, y1⟩ := rd_byte l hb (l.length - 1) (by omega)
  obtain ⟨z0, z1⟩ := rd_byte l hb 0 (by omega)
  rw [show ((0 : Nat) : Int) = 0 from rfl] at z0 z1
  have hi := I16_range (crc (l.take (l.length - 2)))
  have tail : ∀ b : Bool, (b = true ↔ ¬ crcOK l = true) → Ev (fun k => trickleref43_Decode.j0 k l ((l.length - 2 : Nat) : Int) b) (if crcOK l = true then (if validB (rd l 0) (val ((l.take 5).drop 1)) ((l.take (l.length - 2)).drop 5) = true then (rd l 0, val ((l.take 5).drop 1), (l.take (l.length - 2)).drop 5, 0) else (0, 0, [], 2)) else (0, 0, [], 4)) := by
    intro b hbb
    refine Ev.step (fun k => by rw [trickleref43_Decode.j0]) ?_
    cases b with
    | true =>
      rw [if_neg (hbb.mp rfl)]
      exact Ev.pos rfl (Ev.now _)
    | false =>
      have hc : crcOK l = true := by
        cases h : crcOK l with
        | true => rfl
        | false => exact absurd (hbb.mpr (by rw [h]; decide)) (by decide)
      rw [if_pos hc, Int.toNat_natCast, wrap_id (i := rd l 0) (by omega) (by omega)]
      refine Ev.neg (by decide) (Ev.pos (by omega) (Ev.pos (by decide) (Ev.pos (by omega) (Ev.const (a := val ((l.take 5).drop 1)) ?_ (Ev.someb (Ev.pos (by omega) (Ev.pos (by omega) (Ev.pos ?_ (Ev.someb (Ev.const (rvalid_ev _ _ _) ?_))))))))))
      · rw [rnumber_ev _ ((hb.take _).drop _) (by rw [List.length_drop, List.length_take]; omega), List.take_of_length_le (by rw [List.length_drop, List.length_take]; omega)]
      · rw [List.length_nil, List.length_drop, List.length_take]; omega
      · rw [List.nil_append]
        by_cases hv : validB (rd l 0) (val ((l.take 5).drop 1)) ((l.take (l.length - 2)).drop 5) = true
        · exact Ev.cast (Ev.pos hv (Ev.now _)) (if_pos hv).symm
        · exact Ev.cast (Ev.neg hv (Ev.now _)) (if_neg hv).symm
  refine Ev.congr (fun k => by rw [trickleref43_Decode.f]) (Ev.neg (by omega) ?_)
  rw [hw, Int.toNat_natCast, hw1]
  refine Ev.pos (by omega) (Ev.pos (by omega) (Ev.bind (sum_ref _ (hb.take _) (by rw [List.length_take]; omega)) (Ev.pos (by omega) ?_)))
  by_cases h1 : rd l ((l.length - 2 : Nat) : Int) = I16 (crc (l.take (l.length - 2))) / 256 % 256
  · refine Ev.pos h1 (Ev.pos (by omega) (Ev.pos (by omega) (tail _ ?_)))
    unfold crcOK
    rw [bne_iff_ne, decide_eq_true_eq]
    omega
  · refine Ev.neg h1 (tail true ⟨fun _ => ?_, fun _ => rfl⟩)
    unfold crcOK
    rw [decide_eq_true_eq]
    omega
/-- A valid frame is decoded from its packet. -/
theorem decode_enc (k s : Int) (b : List Int) (hb : Bytes b) (hv : validB k s b = true) : decR (enc k s b) = (k, s, b, 0) := by
  obtain ⟨k0, k1, s0, s1, hl⟩ := (validB_iff k s b).mp hv
  have hp := pk_length k s b
  have hi := I16_range (crc (pk k s b))
  have hlen : (enc k s b).length = 7 + b.length := by
    unfold enc
    rw [List.length_append, hp]
    show 5 + b.length + 2 = _
    omega
  have ht : (enc k s b).take ((enc k s b).length - 2) = pk k s b := by
    rw [hlen]
    unfold enc
    rw [show 7 + b.length - 2 = (pk k s b).length by omega, List.take_left]
  have e2 : rd (enc k s b) (((enc k s b).length - 2 : Nat) : Int) = I16 (crc (pk k s b)) / 256 % 256 := by
    rw [hlen]
    unfold rd enc
    rw [Int.toNat_natCast, List.getD_eq_getElem?_getD, List.getElem?_append_right (by omega), show 7 + b.length - 2 - (pk k s b).length = 0 by omega]
    rfl
  have e1 : rd (enc k s b) (((enc k s b).length - 1 : Nat) : Int) = I16 (crc (pk k s b)) % 256 := by
    rw [hlen]
    unfold rd enc
    rw [Int.toNat_natCast, List.getD_eq_getElem?_getD, List.getElem?_append_right (by omega), show 7 + b.length - 1 - (pk k s b).length = 1 by omega]
    rfl
  have hc : crcOK (enc k s b) = true := by
    unfold crcOK
    rw [decide_eq_true_eq, ht, e1, e2]
    omega
  have h0 : rd (enc k s b) 0 = k := by show k % 256 = k; omega
  have h5 : ((enc k s b).take 5).drop 1 = leN 4 s := by
    unfold enc pk
    rw [List.append_assoc, List.take_append_of_le_length (by rw [List.length_cons, leN_length]; omega), List.take_of_length_le (by rw [List.length_cons, leN_length]; omega)]
    rfl
  have hd : ((enc k s b).take ((enc k s b).length - 2)).drop 5 = b := by
    rw [ht]
    unfold pk
    rw [show 5 = (k % 256 :: leN 4 s).length by rw [List.length_cons, leN_length], List.drop_left]
  unfold decR
  rw [if_neg (by omega), if_pos hc, h0, h5, hd, val_leN 4 s s0 (by omega), if_pos hv]
theorem enc_bytes (k s : Int) (b : List Int) (hb : Bytes b) : Bytes (enc k s b) := by
  refine Bytes.append (pk_bytes k s b hb) ?_
  have hi := I16_range (crc (pk k s b))
  intro x hx
  unfold tailB at hx
  rcases List.mem_cons.mp hx with rfl | hx
  · omega
  · rw [List.mem_singleton] at hx; omega
theorem enc_length (k s : Int) (b : List Int) : (enc k s b).length = 7 + b.length := by
  unfold enc
  rw [List.length_append, pk_length]
  show 5 + b.length + 2 = _
  omega
end Go.Proofs.YtfhnpphceeoeeaaDoor.PX
-- Written by a program of this session (wip/xprint.py, over the kit's print tool). Lean checks it.
namespace Go.Proofs.YtfhnpphceeoeeaaDoor.PX
open Go.RowKit Go.Proofs.YtfhnpphceeoeeaaDoorW.PrintWords Go.Proofs.YtfhnpphceeoeeaaDoorW.PrintLast Go.Proofs.YtfhnpphceeoeeaaDoorW.PrintMore
attribute [local go_sem] max2_int min2_int max_two min_two max_three min_three max_four min_four   -- for this text's walks alone
set_option linter.unusedVariables false
set_option linter.unusedSimpArgs false

/-! ### frame_Chunk: function 17 -/
def frame_Chunk.j0 : Nat → Int → Int → List Int → Bool → Option (Int × Int × List Int × Int)
  | 0, _, _, _, _ => none
  | k + 1, x0, x1, x2, x25 => if x25 = true then (some (0, 0, ([] : List Int), 1)) else ((frame_number.f k x0 4).bind fun t211 => (if t211.length + x2.length < 140737488355328 then (some (4, x1, (t211 ++ x2), 0)) else (none)))
def frame_Chunk.f (k : Nat) (a0 : Int) (a1 : Int) (l2 : List Int) : Option (Int × Int × List Int × Int) := (frame_seq.f a0).bind fun t209 => (if t209 = true then ((frame_seq.f a1).bind fun t210 => (if t210 = true then (if (l2.length : Int) < 1 then (frame_Chunk.j0 k a0 a1 l2 true) else (frame_Chunk.j0 k a0 a1 l2 (decide ((l2.length : Int) > 36)))) else (frame_Chunk.j0 k a0 a1 l2 true))) else (frame_Chunk.j0 k a0 a1 l2 true))
set_option maxHeartbeats 8000000 in
set_option maxRecDepth 100000 in
theorem frame_Chunk.calls (k : Nat) (a0 : Int) (a1 : Int) (A2 : Option Addr) (c2 : Nat) (l2 : List Int) (r1 : Int) (r2 : Int) (r3 : List Int) (r4 : Int) (w : World) (hr2 : Kd.C (Kd.int .u8) w A2 l2.length l2) (hc2 : l2.length ≤ c2) (h : frame_Chunk.f k a0 a1 l2 = some (r1, r2, r3, r4)) :
    Calls Tryd.prog 17 #[.int .i64 a0, .int .i64 a1, .slice A2 l2.length c2] w fun e w' => ∃ v2_ : Value, e = .returned (.tuple #[.agg #[.int .i64 r1, .int .i64 r2, v2_], .int .i64 r4]) ∧ Kd.R (Kd.int .u8) 5 w' w.heap.size (fun _ => True) v2_ r3 ∧ Below w.heap.size w w' := by
  have hu29 := Tryd.underlying29
  have HR2 := Aside0.mk hr2
  have HC2 := Aside0.mk hc2
  clear hr2 hc2
  have HB := Aside0.mk (Below.refl w.heap.size w)
  have H : ((frame_seq.f a0).bind fun t209 => (if t209 = true then ((frame_seq.f a1).bind fun t210 => (if t210 = true then (if (l2.length : Int) < 1 then (frame_Chunk.j0 k a0 a1 l2 true) else (frame_Chunk.j0 k a0 a1 l2 (decide ((l2.length : Int) > 36)))) else (frame_Chunk.j0 k a0 a1 l2 true))) else (frame_Chunk.j0 k a0 a1 l2 true))) = some (r1, r2, r3, r4) := h
  clear h
  have HC4 := Aside0.mk H
  clear H
  go_enter Tryd.func17, Tryd.ntmps17
  go_upto_region 1 with (first | ((with_reducible refine gate_dst (N := 6) rfl ?_); (try (refine gate_guard (by rfl) ?_; dsimp only)); refine box_event ?hg (N := 6) ?hd (cs := #[.int .i64 0, .int .i64 0, .slice none 0 0]) (t := 29) ?hr ?_; (case hd => rfl); (case hg => rfl); (case hr => first | (go_simp; done) | (go_simp; rfl)); intro gb208 hg w5 hbox hb; have n0_ := Aside0.mk (below_step (by repeat (first | (with_reducible first | exact HB.out | apply below_alloc | apply pw_below_drewN | apply below_drew1) | exact HB.out)) hb); have n1_ := Aside0.mk (hbox); have n2_ := Aside0.mk ((by rw [hg]; exact (below_size (by repeat (first | (with_reducible first | exact HB.out | apply below_alloc | apply pw_below_drewN | apply below_drew1) | exact HB.out))) : w.heap.size ≤ gb208)); have n3_ := Aside0.mk ((by rw [hg]; exact (below_size (by repeat (first | (with_reducible first | exact HB.out | apply below_alloc | apply pw_below_drewN | apply below_drew1) | exact HB.out))) : w.heap.size ≤ gb208)); clear HB; have HB := n0_; have BK208 := n1_; have GW208 := n2_; have GE208 := n3_; clear n0_ n1_ n2_ n3_; clear hb hbox hg))
  (try simp only [Act.put, List.setIfInBounds_toArray, List.set_cons_zero, List.set_cons_succ])
  go_cut [25] (fun v25 wc => ∃ (kq : Nat) (x25_3 : Bool), v25 = .bool x25_3 ∧ Aside0 (frame_Chunk.j0 kq a0 a1 l2 x25_3 = some (r1, r2, r3, r4)) ∧ Aside0 (kq ≤ k) ∧ Aside0 (wc.heap[gb208]? = some (.cells #[.int .i64 0, .int .i64 0, (.slice none 0 0)] 29 (0, 0))) ∧ Aside0 (Below w.heap.size w wc))
  case first =>
    have H := HC4.out
    clear HC4
    replace H := Option.bind_eq_some_iff.mp H
    obtain ⟨t209, A60, H⟩ := H
    replace H : (if t209 = true then ((frame_seq.f a1).bind fun t210 => (if t210 = true then (if (l2.length : Int) < 1 then (frame_Chunk.j0 k a0 a1 l2 true) else (frame_Chunk.j0 k a0 a1 l2 (decide ((l2.length : Int) > 36)))) else (frame_Chunk.j0 k a0 a1 l2 true))) else (frame_Chunk.j0 k a0 a1 l2 true)) = some (r1, r2, r3, r4) := H
    have A6 := Aside0.mk A60
    clear A60
    by_cases c7 : t209 = true
    · subst c7
      have H1 : ((frame_seq.f a1).bind fun t210 => (if t210 = true then (if (l2.length : Int) < 1 then (frame_Chunk.j0 k a0 a1 l2 true) else (frame_Chunk.j0 k a0 a1 l2 (decide ((l2.length : Int) > 36)))) else (frame_Chunk.j0 k a0 a1 l2 true))) = some (r1, r2, r3, r4) := by rw [if_pos rfl] at H; exact H
      clear H
      have H := H1
      clear H1
      replace H := Option.bind_eq_some_iff.mp H
      obtain ⟨t210, A80, H⟩ := H
      replace H : (if t210 = true then (if (l2.length : Int) < 1 then (frame_Chunk.j0 k a0 a1 l2 true) else (frame_Chunk.j0 k a0 a1 l2 (decide ((l2.length : Int) > 36)))) else (frame_Chunk.j0 k a0 a1 l2 true)) = some (r1, r2, r3, r4) := H
      have A8 := Aside0.mk A80
      clear A80
      by_cases c9 : t210 = true
      · subst c9
        have H1 : (if (l2.length : Int) < 1 then (frame_Chunk.j0 k a0 a1 l2 true) else (frame_Chunk.j0 k a0 a1 l2 (decide ((l2.length : Int) > 36)))) = some (r1, r2, r3, r4) := by rw [if_pos rfl] at H; exact H
        clear H
        have H := H1
        clear H1
        by_cases c10 : (l2.length : Int) < 1
        · rw [if_pos c10] at H
          have c10b0 : decide ((l2.length : Int) < 1) = true := decide_eq_true c10
          have c10b1 : decide (l2.length < 1) = true := decide_eq_true (by omega)
          clear c10
          (first | rw [c10b0] | (simp only [i64_w, i32_w]; rw [c10b0]) | skip)
          have H' := Aside0.mk H
          clear H
          go_wp2_with (first | ((with_reducible refine gate_callee (f := 42) rfl ?_); refine goesL_ (some 9) rfl rfl Tryd.func42 (by kernel_rfl) rfl #[.int .i64 a0] rfl (by (try simp only [List.map_toArray, List.map_cons, List.map_nil]); first | done | rfl | (simp only [List.length_drop, List.length_take]; rfl)) ?_; (with_reducible refine (frame_seq.calls a0 true _ A6.out).mono ?_); rintro e w' ⟨rfl, ⟨nd, rfl⟩⟩; refine ⟨_, rfl, ?_⟩) | (go_at_call 42; (with_reducible refine (frame_seq.calls a1 true _ A8.out).mono ?_); rintro e w' ⟨rfl, ⟨nd, rfl⟩⟩))
          go_meet
          case rel => exact ⟨_, (true), (by first | rfl | (simp; done) | (simp [*]; done)), H', ⟨by first | omega | exact Nat.le_refl _⟩, ⟨by (with_reducible repeat (first | refine blk_drewN ?_ _ | refine blk_drew ?_ | refine blk_alloc ?_ _)); exact BK208.out⟩, ⟨by repeat (first | (with_reducible first | exact HB.out | apply below_alloc | apply pw_below_drewN | apply below_drew1 | refine below_set ?_ GE208.out) | exact HB.out)⟩⟩
        · rw [if_neg c10] at H
          have c10b0 : decide ((l2.length : Int) < 1) = false := decide_eq_false c10
          have c10b1 : decide (l2.length < 1) = false := decide_eq_false (by omega)
          clear c10
          (first | rw [c10b0] | (simp only [i64_w, i32_w]; rw [c10b0]) | skip)
          have H' := Aside0.mk H
          clear H
          go_wp2_with (first | ((with_reducible refine gate_callee (f := 42) rfl ?_); refine goesL_ (some 9) rfl rfl Tryd.func42 (by kernel_rfl) rfl #[.int .i64 a0] rfl (by (try simp only [List.map_toArray, List.map_cons, List.map_nil]); first | done | rfl | (simp only [List.length_drop, List.length_take]; rfl)) ?_; (with_reducible refine (frame_seq.calls a0 true _ A6.out).mono ?_); rintro e w' ⟨rfl, ⟨nd, rfl⟩⟩; refine ⟨_, rfl, ?_⟩) | (go_at_call 42; (with_reducible refine (frame_seq.calls a1 true _ A8.out).mono ?_); rintro e w' ⟨rfl, ⟨nd, rfl⟩⟩))
          go_meet
          case rel => exact ⟨_, (decide ((l2.length : Int) > 36)), (by first | rfl | (simp; done) | (simp [*]; done)), H', ⟨by first | omega | exact Nat.le_refl _⟩, ⟨by (with_reducible repeat (first | refine blk_drewN ?_ _ | refine blk_drew ?_ | refine blk_alloc ?_ _)); exact BK208.out⟩, ⟨by repeat (first | (with_reducible first | exact HB.out | apply below_alloc | apply pw_below_drewN | apply below_drew1 | refine below_set ?_ GE208.out) | exact HB.out)⟩⟩
      · replace c9 := Bool.eq_false_iff.mpr c9
        subst c9
        have H1 : (frame_Chunk.j0 k a0 a1 l2 true) = some (r1, r2, r3, r4) := by rw [if_neg (show ¬ (false = true) by decide)] at H; exact H
        clear H
        have H := H1
        clear H1
        have H' := Aside0.mk H
        clear H
        go_wp2_with (first | ((with_reducible refine gate_callee (f := 42) rfl ?_); refine goesL_ (some 9) rfl rfl Tryd.func42 (by kernel_rfl) rfl #[.int .i64 a0] rfl (by (try simp only [List.map_toArray, List.map_cons, List.map_nil]); first | done | rfl | (simp only [List.length_drop, List.length_take]; rfl)) ?_; (with_reducible refine (frame_seq.calls a0 true _ A6.out).mono ?_); rintro e w' ⟨rfl, ⟨nd, rfl⟩⟩; refine ⟨_, rfl, ?_⟩) | (go_at_call 42; (with_reducible refine (frame_seq.calls a1 false _ A8.out).mono ?_); rintro e w' ⟨rfl, ⟨nd, rfl⟩⟩))
        go_meet
        case rel => exact ⟨_, (true), (by first | rfl | (simp; done) | (simp [*]; done)), H', ⟨by first | omega | exact Nat.le_refl _⟩, ⟨by (with_reducible repeat (first | refine blk_drewN ?_ _ | refine blk_drew ?_ | refine blk_alloc ?_ _)); exact BK208.out⟩, ⟨by repeat (first | (with_reducible first | exact HB.out | apply below_alloc | apply pw_below_drewN | apply below_drew1 | refine below_set ?_ GE208.out) | exact HB.out)⟩⟩
    · replace c7 := Bool.eq_false_iff.mpr c7
      subst c7
      have H1 : (frame_Chunk.j0 k a0 a1 l2 true) = some (r1, r2, r3, r4) := by rw [if_neg (show ¬ (false = true) by decide)] at H; exact H
      clear H
      have H := H1
      clear H1
      have H' := Aside0.mk H
      clear H
      go_wp2_with (first | ((with_reducible refine gate_callee (f := 42) rfl ?_); refine goesL_ (some 9) rfl rfl Tryd.func42 (by kernel_rfl) rfl #[.int .i64 a0] rfl (by (try simp only [List.map_toArray, List.map_cons, List.map_nil]); first | done | rfl | (simp only [List.length_drop, List.length_take]; rfl)) ?_; (with_reducible refine (frame_seq.calls a0 false _ A6.out).mono ?_); rintro e w' ⟨rfl, ⟨nd, rfl⟩⟩; refine ⟨_, rfl, ?_⟩))
      go_meet
      case rel => exact ⟨_, (true), (by first | rfl | (simp; done) | (simp [*]; done)), H', ⟨by first | omega | exact Nat.le_refl _⟩, ⟨by (with_reducible repeat (first | refine blk_drewN ?_ _ | refine blk_drew ?_ | refine blk_alloc ?_ _)); exact BK208.out⟩, ⟨by repeat (first | (with_reducible first | exact HB.out | apply below_alloc | apply pw_below_drewN | apply below_drew1 | refine below_set ?_ GE208.out) | exact HB.out)⟩⟩
  case rest =>
    clear HC4
    try clear c1
    try clear c2
    try clear p2
    try clear c4
    try clear c7
    try clear c9
    try clear c10
    try clear c10b0
    try clear c10b1
    obtain ⟨kq, x25_3, rfl, HA, HJ3, BK208, HB⟩ := hcut
    cases kq with
    | zero => exact absurd HA.out (by simp [frame_Chunk.j0])
    | succ kj3 =>
      have H := HA.out
      clear HA
      simp only [frame_Chunk.j0] at H
      by_cases c11 : x25_3 = true
      · subst c11
        have H1 : (some (0, 0, ([] : List Int), 1)) = some (r1, r2, r3, r4) := by rw [if_pos rfl] at H; exact H
        clear H
        have H := H1
        clear H1
        simp only [Option.some.injEq, Prod.mk.injEq] at H
        obtain ⟨rfl, rfl, rfl, rfl⟩ := H
        have hcz12_0 : wc.cell? ⟨gb208, 0, none⟩ = some (.int .i64 0) := (blk_cell BK208.out 0).trans rfl
        have hcz12_1 : wc.cell? ⟨gb208, 1, none⟩ = some (.int .i64 0) := (blk_cell BK208.out 1).trans rfl
        have hcz12_2 : wc.cell? ⟨gb208, 2, none⟩ = some (.slice none 0 0) := (blk_cell BK208.out 2).trans rfl
        have hfz12_0 := blk_frozen BK208.out 0
        have hfz12_1 := blk_frozen BK208.out 1
        have hfz12_2 := blk_frozen BK208.out 2
        go_wp2
        refine bodyPost_ret (results_ct rfl _ _ gb208 29 #[.int .i64 0, .int .i64 0, .slice none 0 0] (0, 0) _ rfl (by (with_reducible repeat (first | refine blk_drewN ?_ _ | refine blk_drew ?_ | refine blk_alloc ?_ _)); refine blk_put (cs := #[.int .i64 0, .int .i64 0, .slice none 0 0]) ?_ 2 _ rfl; (with_reducible repeat (first | refine blk_drewN ?_ _ | refine blk_drew ?_ | refine blk_alloc ?_ _)); refine blk_put (cs := #[.int .i64 0, .int .i64 0, .slice none 0 0]) ?_ 1 _ rfl; (with_reducible repeat (first | refine blk_drewN ?_ _ | refine blk_drew ?_ | refine blk_alloc ?_ _)); refine blk_put (cs := #[.int .i64 0, .int .i64 0, .slice none 0 0]) ?_ 0 _ rfl; (with_reducible repeat (first | refine blk_drewN ?_ _ | refine blk_drew ?_ | refine blk_alloc ?_ _)); exact BK208.out) Tryd.underlying29 rfl (by kernel_rfl)) rfl ?_
        exact ⟨_, by first | rfl | (simp [errW_none, errW_some] <;> rfl) | (simp [*, errW_none, errW_some] <;> rfl), by first | exact Kd.R_nil _ _ _ _ _ | exact Kd.N_nil _ _ _ _ _ | exact Kd.V_nil _ _ _ _ _ | exact Kd.Q_nil _ _ _ _ _ | exact Kd.S_nil _ _ _ _ _, by repeat (first | (with_reducible first | exact HB.out | apply below_alloc | apply pw_below_drewN | apply below_drew1 | refine below_set ?_ GE208.out) | exact HB.out)⟩
      · replace c11 := Bool.eq_false_iff.mpr c11
        subst c11
        have H1 : ((frame_number.f kj3 a0 4).bind fun t211 => (if t211.length + l2.length < 140737488355328 then (some (4, a1, (t211 ++ l2), 0)) else (none))) = some (r1, r2, r3, r4) := by rw [if_neg (show ¬ (false = true) by decide)] at H; exact H
        clear H
        have H := H1
        clear H1
        replace H := Option.bind_eq_some_iff.mp H
        obtain ⟨t211, A130, H⟩ := H
        replace H : (if t211.length + l2.length < 140737488355328 then (some (4, a1, (t211 ++ l2), 0)) else (none)) = some (r1, r2, r3, r4) := H
        have A13 := Aside0.mk A130
        clear A130
        by_cases c14 : t211.length + l2.length < 140737488355328
        · rw [if_pos c14] at H
          have LMc14 := Aside0.mk c14
          clear c14
          obtain ⟨y214, hy214⟩ : ∃ y_ : List Int, y_ = (t211 ++ l2) := ⟨_, rfl⟩
          replace H : (some (4, a1, y214, 0)) = some (r1, r2, r3, r4) := by first | (rw [hy214]; with_reducible exact H) | (have H2_ := (Option.bind_some _ _).symm.trans H; rw [hy214]; with_reducible exact H2_) | (have H2_ := (Option.bind_some _ _).symm.trans H; with_reducible exact H2_) | with_reducible exact H | (rw [hy214]; exact H) | exact H
          have Ny214 := Aside0.mk hy214
          clear hy214
          simp only [Option.some.injEq, Prod.mk.injEq] at H
          obtain ⟨rfl, rfl, rfl, rfl⟩ := H
          go_wp2_with (first | ((with_reducible refine gate_callee (f := 40) rfl ?_); refine goesL_ (some 29) rfl rfl Tryd.func40 (by kernel_rfl) rfl #[.int .i64 a0, .int .i64 4] rfl (by (try simp only [List.map_toArray, List.map_cons, List.map_nil]); first | done | rfl | (simp only [List.length_drop, List.length_take]; rfl)) ?_; (with_reducible refine (frame_number.calls kj3 a0 4 t211 _ A13.out).mono ?_); rintro e w15 ⟨v212, rfl, ho0, hb⟩; refine ⟨_, rfl, ?_⟩; have n0_ := Aside0.mk (Kd.R_lower ho0 (below_size (by repeat (first | (with_reducible first | exact HB.out | apply below_alloc | apply pw_below_drewN | apply below_drew1 | refine below_set ?_ GE208.out) | exact HB.out)))); have n1_ := Aside0.mk (blk_below (g := gb208) (o := .cells #[.int .i64 0, .int .i64 0, .slice none 0 0] 29 (0, 0)) (by (with_reducible repeat (first | refine blk_drewN ?_ _ | refine blk_drew ?_ | refine blk_alloc ?_ _)); exact BK208.out) hb); have n2_ := Aside0.mk (below_step (by repeat (first | (with_reducible first | exact HB.out | apply below_alloc | apply pw_below_drewN | apply below_drew1 | refine below_set ?_ GE208.out) | exact HB.out)) hb); clear BK208; clear HB; have HO213 := n0_; have BK208 := n1_; have HB := n2_; clear n0_ n1_ n2_; (try clear hb); (try clear hb2); (try clear hk); (try clear hi); (try clear ho0)) | ((with_reducible refine gate_builtin (b := .append) (xs := #[.tmp 29, .tmp 30]) rfl ?_); (try (refine gate_guard (by rfl) ?_; dsimp only)); at_builtin; refine Kd.R_append_rows (Kd.int .u8) (w0 := w) w.heap.size rfl (.tmp 29) (.tmp 30) 24 5 (.int .u8 0) 1 rfl Tryd.underlying24 info5 rfl (by decide) (by omega) v212 t211 l2 _ _ _ (fun _ => True) (fun _ => False) rfl rfl ?aO ?aR (fun _ _ h => h) (fun _ h => h.elim) ?aF ?aB ?aS ?aL ?_; (case aR => repeat (first | exact (Kd.C_below HR2.out HB.out) | (with_reducible refine Kd.C_alloc ?_ _) | (with_reducible refine Kd.C_drewN ?_ _) | (with_reducible refine Kd.C_drew ?_))); (case aB => exact (by repeat (first | (with_reducible first | exact HB.out | apply below_alloc | apply pw_below_drewN | apply below_drew1 | refine below_set ?_ GE208.out) | exact HB.out))); (case aF => exact (fun _ _ => trivial)); (case aO => exact (by (with_reducible repeat (first | apply Kd.R_alloc | apply Kd.R_drewN | apply Kd.R_drew)); exact HO213.out)); (case aS => exact (below_size (by repeat (first | (with_reducible first | exact HB.out | apply below_alloc | apply pw_below_drewN | apply below_drew1 | refine below_set ?_ GE208.out) | exact HB.out)))); (case aL => have := LMc14.out; omega); intro v215 w16 ho hb hg hat; rw [← Ny214.out] at ho; have n0_ := Aside0.mk (blk_grown (g := gb208) (o := .cells #[.int .i64 0, .int .i64 0, .slice none 0 0] 29 (0, 0)) (by (with_reducible repeat (first | refine blk_drewN ?_ _ | refine blk_drew ?_ | refine blk_alloc ?_ _)); exact BK208.out) hg (Kd.R_ne HO213.out BK208.out (by decide))); have n1_ := Aside0.mk (hb); have n2_ := Aside0.mk (ho); clear BK208; clear HB; clear HO213; have BK208 := n0_; have HB := n1_; have HO216 := n2_; clear n0_ n1_ n2_; clear ho hb hg hat; obtain ⟨Ao17, co17, eo17⟩ := Kd.R_slice HO216.out; subst eo17; have hcz18_0 : w16.cell? ⟨gb208, 0, none⟩ = some (.int .i64 0) := (blk_cell BK208.out 0).trans rfl; have hcz18_1 : w16.cell? ⟨gb208, 1, none⟩ = some (.int .i64 0) := (blk_cell BK208.out 1).trans rfl; have hcz18_2 : w16.cell? ⟨gb208, 2, none⟩ = some (.slice none 0 0) := (blk_cell BK208.out 2).trans rfl; have hfz18_0 := blk_frozen BK208.out 0; have hfz18_1 := blk_frozen BK208.out 1; have hfz18_2 := blk_frozen BK208.out 2))
          refine bodyPost_ret (results_ct rfl _ _ gb208 29 #[.int .i64 4, .int .i64 a1, .slice Ao17 y214.length co17] (0, 0) _ rfl (by (with_reducible repeat (first | refine blk_drewN ?_ _ | refine blk_drew ?_ | refine blk_alloc ?_ _)); refine blk_put (cs := #[.int .i64 4, .int .i64 a1, .slice none 0 0]) ?_ 2 _ rfl; (with_reducible repeat (first | refine blk_drewN ?_ _ | refine blk_drew ?_ | refine blk_alloc ?_ _)); refine blk_put (cs := #[.int .i64 4, .int .i64 0, .slice none 0 0]) ?_ 1 _ rfl; (with_reducible repeat (first | refine blk_drewN ?_ _ | refine blk_drew ?_ | refine blk_alloc ?_ _)); refine blk_put (cs := #[.int .i64 0, .int .i64 0, .slice none 0 0]) ?_ 0 _ rfl; (with_reducible repeat (first | refine blk_drewN ?_ _ | refine blk_drew ?_ | refine blk_alloc ?_ _)); exact BK208.out) Tryd.underlying29 rfl (by kernel_rfl)) rfl ?_
          exact ⟨_, by first | rfl | (simp [errW_none, errW_some] <;> rfl) | (simp [*, errW_none, errW_some] <;> rfl), by (with_reducible repeat (first | apply Kd.R_alloc | apply Kd.R_drewN | apply Kd.R_drew)); exact Kd.R_mono (Kd.R_far (p := ⟨gb208, 2, none⟩) (Kd.R_far (p := ⟨gb208, 1, none⟩) (Kd.R_far (p := ⟨gb208, 0, none⟩) (Kd.R_types HO216.out BK208.out (by decide)) (fun _ hk => hk.2) (.int .i64 4)) (fun _ hk => hk.2) (.int .i64 a1)) (fun _ hk => hk.2) (.slice Ao17 y214.length co17)) (fun _ hk => trivial), by repeat (first | (with_reducible first | exact HB.out | apply below_alloc | apply pw_below_drewN | apply below_drew1 | refine below_set ?_ GE208.out) | exact HB.out)⟩
        · rw [if_neg c14] at H
          exact absurd H (by simp)

end Go.Proofs.YtfhnpphceeoeeaaDoor.PX
-- Written by a program of this session (wip/xprint.py, over the kit's print tool). Lean checks it.
namespace Go.Proofs.YtfhnpphceeoeeaaDoor.PX
open Go.RowKit Go.Proofs.YtfhnpphceeoeeaaDoorW.PrintWords Go.Proofs.YtfhnpphceeoeeaaDoorW.PrintLast Go.Proofs.YtfhnpphceeoeeaaDoorW.PrintMore
attribute [local go_sem] max2_int min2_int max_two min_two max_three min_three max_four min_four   -- for this text's walks alone
set_option linter.unusedVariables false
set_option linter.unusedSimpArgs false

/-! ### frame_Chunked: function 32 -/
def frame_Chunked.j0 : Nat → Bool → Int → Int → List Int → Option (Int × List Int × Bool)
  | 0, _, _, _, _ => none
  | k + 1, x27, x390000, x390001, x390002 => if x27 = true then (some (0, ([] : List Int), false)) else (if 4 ≤ (x390002.length : Int) then ((frame_value.f k (x390002.take 4)).bind fun t394 => ((bytes_Clone.f (x390002.drop 4)).bind fun t396 => (some (t394, t396, true)))) else (none))
def frame_Chunked.f (k : Nat) (a0_0 : Int) (a0_1 : Int) (l0_2 : List Int) : Option (Int × List Int × Bool) := if a0_0 = 4 then (if (l0_2.length : Int) < 5 then (frame_Chunked.j0 k true a0_0 a0_1 l0_2) else (if (l0_2.length : Int) > 40 then (frame_Chunked.j0 k true a0_0 a0_1 l0_2) else (if 4 ≤ (l0_2.length : Int) then ((frame_value.f k (l0_2.take 4)).bind fun t391 => ((frame_seq.f t391).bind fun t392 => (frame_Chunked.j0 k (!t392) a0_0 a0_1 l0_2))) else (none)))) else (frame_Chunked.j0 k true a0_0 a0_1 l0_2)
def frame_Chunked.T3 : Bool × List (List Nat × List Nat) := (true, [([], []), ([0], [0]), ([1], [1]), ([2], [2]), ([], []), ([4], [4]), ([5], [5]), ([6, 3], [6]), ([3, 7, 0, 1, 2, 3], [3]), ([7, 8, 0, 1, 2, 3, 4, 5, 6, 7, 8], [7]), ([9, 0, 1, 2, 3, 4, 5, 6, 7, 8, 9], [])])
def frame_Chunked.B3 : List Nat := [0, 1, 3, 7, 0, 16, 48, 127, 255, 511, 1023]
theorem frame_Chunked.tab3 : rtab .any (opsOf Tryd.f32 3) = frame_Chunked.T3 := by kernel_rfl
theorem frame_Chunked.bits3 : waitsOk frame_Chunked.T3.2 frame_Chunked.B3 = true := by kernel_rfl
set_option maxHeartbeats 8000000 in
set_option maxRecDepth 100000 in
theorem frame_Chunked.calls (k : Nat) (a0_0 : Int) (a0_1 : Int) (A0_2 : Option Addr) (c0_2 : Nat) (l0_2 : List Int) (r1 : Int) (r2 : List Int) (r3 : Bool) (w : World) (hr0_2 : Kd.C (Kd.int .u8) w A0_2 l0_2.length l0_2) (hc0_2 : l0_2.length ≤ c0_2) (h : frame_Chunked.f k a0_0 a0_1 l0_2 = some (r1, r2, r3)) :
    Calls Tryd.prog 32 #[.agg #[.int .i64 a0_0, .int .i64 a0_1, .slice A0_2 l0_2.length c0_2]] w fun e w' => ∃ v1_ : Value, e = .returned (.tuple #[.int .i64 r1, v1_, .bool r3]) ∧ Kd.R (Kd.int .u8) 5 w' w.heap.size (fun _ => True) v1_ r2 ∧ Below w.heap.size w w' := by
  have hu29 := Tryd.underlying29
  have HR0_2 := Aside0.mk hr0_2
  have HC0_2 := Aside0.mk hc0_2
  clear hr0_2 hc0_2
  have HB := Aside0.mk (Below.refl w.heap.size w)
  have H : (if a0_0 = 4 then (if (l0_2.length : Int) < 5 then (frame_Chunked.j0 k true a0_0 a0_1 l0_2) else (if (l0_2.length : Int) > 40 then (frame_Chunked.j0 k true a0_0 a0_1 l0_2) else (if 4 ≤ (l0_2.length : Int) then ((frame_value.f k (l0_2.take 4)).bind fun t391 => ((frame_seq.f t391).bind fun t392 => (frame_Chunked.j0 k (!t392) a0_0 a0_1 l0_2))) else (none)))) else (frame_Chunked.j0 k true a0_0 a0_1 l0_2)) = some (r1, r2, r3) := h
  clear h
  have HC2 := Aside0.mk H
  clear H
  go_enter Tryd.func32, Tryd.ntmps32
  go_upto_region 1 with (first | ((with_reducible refine gate_dst (N := 1) rfl ?_); (try (refine gate_guard (by rfl) ?_; dsimp only)); refine box_event ?hg (N := 1) ?hd (cs := #[.int .i64 a0_0, .int .i64 a0_1, .slice A0_2 l0_2.length c0_2]) (t := 29) ?hr ?_; (case hd => rfl); (case hg => rfl); (case hr => first | (go_simp; done) | (go_simp; rfl)); intro gb389 hg w3 hbox hb; have n0_ := Aside0.mk (below_step (by repeat (first | (with_reducible first | exact HB.out | apply below_alloc | apply pw_below_drewN | apply below_drew1) | exact HB.out)) hb); have n1_ := Aside0.mk (hbox); have n2_ := Aside0.mk ((by rw [hg]; exact (below_size (by repeat (first | (with_reducible first | exact HB.out | apply below_alloc | apply pw_below_drewN | apply below_drew1) | exact HB.out))) : w.heap.size ≤ gb389)); have n3_ := Aside0.mk ((by rw [hg]; exact (below_size (by repeat (first | (with_reducible first | exact HB.out | apply below_alloc | apply pw_below_drewN | apply below_drew1) | exact HB.out))) : w.heap.size ≤ gb389)); clear HB; have HB := n0_; have BK389 := n1_; have GW389 := n2_; have GE389 := n3_; clear n0_ n1_ n2_ n3_; clear hb hbox hg))
  (try simp only [Act.put, List.setIfInBounds_toArray, List.set_cons_zero, List.set_cons_succ])
  go_cut [27] (fun v27 wc => ∃ (kq : Nat) (x27_1 : Bool), v27 = .bool x27_1 ∧ Aside0 (frame_Chunked.j0 kq x27_1 a0_0 a0_1 l0_2 = some (r1, r2, r3)) ∧ Aside0 (kq ≤ k) ∧ Aside0 (wc.heap[gb389]? = some (.cells #[.int .i64 a0_0, .int .i64 a0_1, (.slice A0_2 l0_2.length c0_2)] 29 (0, 0))) ∧ Aside0 (Below w.heap.size w wc))
  case first =>
    have H := HC2.out
    clear HC2
    by_cases c4 : a0_0 = 4
    · rw [if_pos c4] at H
      have c4b0 : (a0_0 == 4) = true := beq_iff_eq.mpr c4
      have c4b1 : (a0_0 != 4) = false := bne_eq_false_iff_eq.mpr c4
      clear c4
      (first | rw [c4b0] | (simp only [i64_w, i32_w]; rw [c4b0]) | skip)
      by_cases c5 : (l0_2.length : Int) < 5
      · rw [if_pos c5] at H
        have c5b0 : decide ((l0_2.length : Int) < 5) = true := decide_eq_true c5
        have c5b1 : decide (l0_2.length < 5) = true := decide_eq_true (by omega)
        clear c5
        have H' := Aside0.mk H
        clear H
        have hcz6_0 : w3.cell? ⟨gb389, 0, none⟩ = some (.int .i64 a0_0) := (blk_cell BK389.out 0).trans rfl
        have hcz6_1 : w3.cell? ⟨gb389, 1, none⟩ = some (.int .i64 a0_1) := (blk_cell BK389.out 1).trans rfl
        have hcz6_2 : w3.cell? ⟨gb389, 2, none⟩ = some (.slice A0_2 l0_2.length c0_2) := (blk_cell BK389.out 2).trans rfl
        have hfz6_0 := blk_frozen BK389.out 0
        have hfz6_1 := blk_frozen BK389.out 1
        have hfz6_2 := blk_frozen BK389.out 2
        go_wp2
        go_meet
        case rel => exact ⟨_, (true), (by first | rfl | (simp; done) | (simp [*]; done)), H', ⟨by first | omega | exact Nat.le_refl _⟩, ⟨by (with_reducible repeat (first | refine blk_drewN ?_ _ | refine blk_drew ?_ | refine blk_alloc ?_ _)); exact BK389.out⟩, ⟨by repeat (first | (with_reducible first | exact HB.out | apply below_alloc | apply pw_below_drewN | apply below_drew1 | refine below_set ?_ GE389.out) | exact HB.out)⟩⟩
      · rw [if_neg c5] at H
        have c5b0 : decide ((l0_2.length : Int) < 5) = false := decide_eq_false c5
        have c5b1 : decide (l0_2.length < 5) = false := decide_eq_false (by omega)
        clear c5
        by_cases c7 : (l0_2.length : Int) > 40
        · rw [if_pos c7] at H
          have c7b0 : decide (40 < (l0_2.length : Int)) = true := decide_eq_true c7
          have c7b1 : decide (40 < l0_2.length) = true := decide_eq_true (by omega)
          clear c7
          have H' := Aside0.mk H
          clear H
          have hcz8_0 : w3.cell? ⟨gb389, 0, none⟩ = some (.int .i64 a0_0) := (blk_cell BK389.out 0).trans rfl
          have hcz8_1 : w3.cell? ⟨gb389, 1, none⟩ = some (.int .i64 a0_1) := (blk_cell BK389.out 1).trans rfl
          have hcz8_2 : w3.cell? ⟨gb389, 2, none⟩ = some (.slice A0_2 l0_2.length c0_2) := (blk_cell BK389.out 2).trans rfl
          have hfz8_0 := blk_frozen BK389.out 0
          have hfz8_1 := blk_frozen BK389.out 1
          have hfz8_2 := blk_frozen BK389.out 2
          go_wp2
          go_meet
          case rel => exact ⟨_, (true), (by first | rfl | (simp; done) | (simp [*]; done)), H', ⟨by first | omega | exact Nat.le_refl _⟩, ⟨by (with_reducible repeat (first | refine blk_drewN ?_ _ | refine blk_drew ?_ | refine blk_alloc ?_ _)); exact BK389.out⟩, ⟨by repeat (first | (with_reducible first | exact HB.out | apply below_alloc | apply pw_below_drewN | apply below_drew1 | refine below_set ?_ GE389.out) | exact HB.out)⟩⟩
        · rw [if_neg c7] at H
          have c7b0 : decide (40 < (l0_2.length : Int)) = false := decide_eq_false c7
          have c7b1 : decide (40 < l0_2.length) = false := decide_eq_false (by omega)
          clear c7
          by_cases c9 : 4 ≤ (l0_2.length : Int)
          · rw [if_pos c9] at H
            have c9b0 := eq_true c9
            have c9b1 : decide (4 ≤ (l0_2.length : Int)) = true := decide_eq_true c9
            clear c9
            replace H := Option.bind_eq_some_iff.mp H
            obtain ⟨t391, A100, H⟩ := H
            replace H : ((frame_seq.f t391).bind fun t392 => (frame_Chunked.j0 k (!t392) a0_0 a0_1 l0_2)) = some (r1, r2, r3) := H
            have A10 := Aside0.mk A100
            clear A100
            replace H := Option.bind_eq_some_iff.mp H
            obtain ⟨t392, A110, H⟩ := H
            replace H : (frame_Chunked.j0 k (!t392) a0_0 a0_1 l0_2) = some (r1, r2, r3) := H
            have A11 := Aside0.mk A110
            clear A110
            have H' := Aside0.mk H
            clear H
            have hcz12_0 : w3.cell? ⟨gb389, 0, none⟩ = some (.int .i64 a0_0) := (blk_cell BK389.out 0).trans rfl
            have hcz12_1 : w3.cell? ⟨gb389, 1, none⟩ = some (.int .i64 a0_1) := (blk_cell BK389.out 1).trans rfl
            have hcz12_2 : w3.cell? ⟨gb389, 2, none⟩ = some (.slice A0_2 l0_2.length c0_2) := (blk_cell BK389.out 2).trans rfl
            have hfz12_0 := blk_frozen BK389.out 0
            have hfz12_1 := blk_frozen BK389.out 1
            have hfz12_2 := blk_frozen BK389.out 2
            obtain ⟨i013, hi013, _, hsz13, _⟩ := info_parts info5
            obtain ⟨hcut13, hA13, hC13⟩ := print_take_of (P := Tryd.prog) (Value.int .u8) 0 24 5 .i64 Tryd.underlying24 hi013 hsz13 A0_2 c0_2 l0_2 4 (by omega) (of_decide_eq_true (by first | (with_reducible assumption) | assumption)) HC0_2.out
            have HR390 := Aside0.mk (Kd.C_of_reads (h1 := fun _ => rfl) (hA13 _ (Kd.reads_of_C HR0_2.out)))
            have HC390 := Aside0.mk hC13
            clear hA13 hC13 hi013 hsz13
            go_wp2_with (first | (go_at_call 52; refine calls_of_args (args' := #[.slice A0_2 (l0_2.take 4).length c0_2]) (by rw [List.length_take]) ?_; (with_reducible refine (frame_value.calls k _ _ (l0_2.take 4) t391 _ ?side1 ?side2 A10.out).mono ?_); (case side1 => repeat (first | exact (Kd.C_below HR390.out HB.out) | (with_reducible refine Kd.C_alloc ?_ _) | (with_reducible refine Kd.C_drewN ?_ _) | (with_reducible refine Kd.C_drew ?_))); (case side2 => exact HC390.out); rintro e w' ⟨rfl, ⟨nd, rfl⟩⟩) | (go_at_call 42; (with_reducible refine (frame_seq.calls t391 t392 _ A11.out).mono ?_); rintro e w' ⟨rfl, ⟨nd, rfl⟩⟩))
            go_meet
            case rel => exact ⟨_, (!t392), (by first | rfl | (simp; done) | (simp [*]; done)), H', ⟨by first | omega | exact Nat.le_refl _⟩, ⟨by (with_reducible repeat (first | refine blk_drewN ?_ _ | refine blk_drew ?_ | refine blk_alloc ?_ _)); exact BK389.out⟩, ⟨by repeat (first | (with_reducible first | exact HB.out | apply below_alloc | apply pw_below_drewN | apply below_drew1 | refine below_set ?_ GE389.out) | exact HB.out)⟩⟩
          · rw [if_neg c9] at H
            exact absurd H (by simp)
    · rw [if_neg c4] at H
      have c4b0 : (a0_0 == 4) = false := beq_eq_false_iff_ne.mpr c4
      have c4b1 : (a0_0 != 4) = true := bne_iff_ne.mpr c4
      (first | rw [c4b0] | (simp only [i64_w, i32_w]; rw [c4b0]) | skip)
      have H' := Aside0.mk H
      clear H
      have hcz14_0 : w3.cell? ⟨gb389, 0, none⟩ = some (.int .i64 a0_0) := (blk_cell BK389.out 0).trans rfl
      have hcz14_1 : w3.cell? ⟨gb389, 1, none⟩ = some (.int .i64 a0_1) := (blk_cell BK389.out 1).trans rfl
      have hcz14_2 : w3.cell? ⟨gb389, 2, none⟩ = some (.slice A0_2 l0_2.length c0_2) := (blk_cell BK389.out 2).trans rfl
      have hfz14_0 := blk_frozen BK389.out 0
      have hfz14_1 := blk_frozen BK389.out 1
      have hfz14_2 := blk_frozen BK389.out 2
      go_wp2
      go_meet
      case rel => exact ⟨_, (true), (by first | rfl | (simp; done) | (simp [*]; done)), H', ⟨by first | omega | exact Nat.le_refl _⟩, ⟨by (with_reducible repeat (first | refine blk_drewN ?_ _ | refine blk_drew ?_ | refine blk_alloc ?_ _)); exact BK389.out⟩, ⟨by repeat (first | (with_reducible first | exact HB.out | apply below_alloc | apply pw_below_drewN | apply below_drew1 | refine below_set ?_ GE389.out) | exact HB.out)⟩⟩
  case rest =>
    clear HC2
    try clear p2
    try clear c3
    try clear c4
    try clear c4b0
    try clear c4b1
    try clear c5
    try clear c5b0
    try clear c5b1
    try clear c7
    try clear c7b0
    try clear c7b1
    try clear c9
    try clear c9b0
    try clear c9b1
    try clear hcz12_0
    try clear hcz12_1
    try clear hcz12_2
    try clear hcz14_0
    try clear hcz14_1
    try clear hcz14_2
    try clear hcz6_0
    try clear hcz6_1
    try clear hcz6_2
    try clear hcz8_0
    try clear hcz8_1
    try clear hcz8_2
    try clear hfz12_0
    try clear hfz12_1
    try clear hfz12_2
    try clear hfz14_0
    try clear hfz14_1
    try clear hfz14_2
    try clear hfz6_0
    try clear hfz6_1
    try clear hfz6_2
    try clear hfz8_0
    try clear hfz8_1
    try clear hfz8_2
    obtain ⟨kq, x27_1, rfl, HA, HJ1, BK389, HB⟩ := hcut
    cases kq with
    | zero => exact absurd HA.out (by simp [frame_Chunked.j0])
    | succ kj1 =>
      have H := HA.out
      clear HA
      simp only [frame_Chunked.j0] at H
      by_cases c15 : x27_1 = true
      · subst c15
        have H1 : (some (0, ([] : List Int), false)) = some (r1, r2, r3) := by rw [if_pos rfl] at H; exact H
        clear H
        have H := H1
        clear H1
        simp only [Option.some.injEq, Prod.mk.injEq] at H
        obtain ⟨rfl, rfl, rfl⟩ := H
        go_wp2
        go_ret3
        exact ⟨_, by first | rfl | (simp [errW_none, errW_some] <;> rfl) | (simp [*, errW_none, errW_some] <;> rfl), by first | exact Kd.R_nil _ _ _ _ _ | exact Kd.N_nil _ _ _ _ _ | exact Kd.V_nil _ _ _ _ _ | exact Kd.Q_nil _ _ _ _ _ | exact Kd.S_nil _ _ _ _ _, by repeat (first | (with_reducible first | exact HB.out | apply below_alloc | apply pw_below_drewN | apply below_drew1 | refine below_set ?_ GE389.out) | exact HB.out)⟩
      · replace c15 := Bool.eq_false_iff.mpr c15
        subst c15
        have H1 : (if 4 ≤ (l0_2.length : Int) then ((frame_value.f kj1 (l0_2.take 4)).bind fun t394 => ((bytes_Clone.f (l0_2.drop 4)).bind fun t396 => (some (t394, t396, true)))) else (none)) = some (r1, r2, r3) := by rw [if_neg (show ¬ (false = true) by decide)] at H; exact H
        clear H
        have H := H1
        clear H1
        by_cases c16 : 4 ≤ (l0_2.length : Int)
        · rw [if_pos c16] at H
          have c16b0 := eq_true c16
          have c16b1 : decide (4 ≤ (l0_2.length : Int)) = true := decide_eq_true c16
          clear c16
          replace H := Option.bind_eq_some_iff.mp H
          obtain ⟨t394, A170, H⟩ := H
          replace H : ((bytes_Clone.f (l0_2.drop 4)).bind fun t396 => (some (t394, t396, true))) = some (r1, r2, r3) := H
          have A17 := Aside0.mk A170
          clear A170
          have c18b0 := eq_true (of_decide_eq_true (by first | (with_reducible assumption) | assumption) : 4 ≤ (l0_2.length : Int))
          replace H := Option.bind_eq_some_iff.mp H
          obtain ⟨t396, A190, H⟩ := H
          replace H : (some (t394, t396, true)) = some (r1, r2, r3) := H
          have A19 := Aside0.mk A190
          clear A190
          simp only [Option.some.injEq, Prod.mk.injEq] at H
          obtain ⟨rfl, rfl, rfl⟩ := H
          try go_wp2
          have n0_ := Aside0.mk (blk_drew BK389.out)
          have n1_ := Aside0.mk (below_drew1 HB.out)
          clear BK389
          clear HB
          have BK389 := n0_
          have HB := n1_
          clear n0_ n1_
          obtain ⟨i021, hi021, _, hsz21, _⟩ := info_parts info5
          obtain ⟨hcut21, hA21, hC21⟩ := print_take_of (P := Tryd.prog) (Value.int .u8) 0 24 5 .i64 Tryd.underlying24 hi021 hsz21 A0_2 c0_2 l0_2 4 (by omega) (of_decide_eq_true (by first | (with_reducible assumption) | assumption)) HC0_2.out
          have HR393 := Aside0.mk (Kd.C_of_reads (h1 := fun _ => rfl) (hA21 _ (Kd.reads_of_C HR0_2.out)))
          have HC393 := Aside0.mk hC21
          clear hA21 hC21 hi021 hsz21
          obtain ⟨i022, hi022, _, hsz22, _⟩ := info_parts info5
          obtain ⟨A22, hcut22, hA22, hC22⟩ := print_drop_of (P := Tryd.prog) (Value.int .u8) 0 24 5 .i64 Tryd.underlying24 hi022 hsz22 A0_2 c0_2 l0_2 4 (by omega) (of_decide_eq_true (by first | (with_reducible assumption) | assumption)) HC0_2.out
          have HR395 := Aside0.mk (Kd.C_of_reads (h1 := fun _ => rfl) (hA22 _ (Kd.reads_of_C HR0_2.out)))
          have HC395 := Aside0.mk hC22
          clear hA22 hC22 hi022 hsz22
          refine start_ (n := 11) (S := fun w' => w'.cell? ⟨gb389, 0, none⟩ = some (.int .i64 a0_0) ∧ w'.cell? ⟨gb389, 1, none⟩ = some (.int .i64 a0_1) ∧ w'.cell? ⟨gb389, 2, none⟩ = some (.slice A0_2 l0_2.length c0_2)) (ds := []) #[false, false, false, false, false, false, false, false, false, false, false] (by kernel_rfl) rfl rfl ⟨(blk_cell BK389.out 0).trans rfl, (blk_cell BK389.out 1).trans rfl, (blk_cell BK389.out 2).trans rfl⟩ (fun hHeld => ?_); refine with_tabW frame_Chunked.tab3 frame_Chunked.bits3 (fun HT_ HW_ => ?_)
          generalize wc.drew = w20 at BK389 HB HR393 HR395 hHeld ⊢
          refine pure_ (i := 0) (N := some 28) (v := ?_) (a' := ?_) #[true, false, false, false, false, false, false, false, false, false, false] rfl rfl (any_of HT_.out (by kernel_rfl)) (fun _ _ _ h => h) (Or.inl ⟨by rfl, ?_⟩) ?_ ?_
          rotate_left
          · intro w'
            go_simp
            with_reducible rfl
          rotate_left
          · simp only [Act.put, List.setIfInBounds_toArray, List.set_cons_zero, List.set_cons_succ, i64_w, i32_w]
            rfl
          refine pure_ (i := 4) (N := some 32) (v := ?_) (a' := ?_) #[true, false, false, false, true, false, false, false, false, false, false] rfl rfl (any_of HT_.out (by kernel_rfl)) (fun _ _ _ h => h) (Or.inl ⟨by rfl, ?_⟩) ?_ ?_
          rotate_left
          · intro w'
            go_simp
            with_reducible rfl
          rotate_left
          · simp only [Act.put, List.setIfInBounds_toArray, List.set_cons_zero, List.set_cons_succ, i64_w, i32_w]
            rfl
          refine take_ (i := 1) (N := some 29) (v := ?_) (a' := ?_) #[true, true, false, false, true, false, false, false, false, false, false] rfl rfl (take_ofW HT_.out HW_.out (by kernel_rfl)) (fun _ _ _ h => h) (Or.inl ⟨by rfl, ?_⟩) hHeld ?_ ?_
          rotate_left
          · rintro w' ⟨s0, s1, s2⟩
            go_simp
            with_reducible rfl
          rotate_left
          · simp only [Act.put, List.setIfInBounds_toArray, List.set_cons_zero, List.set_cons_succ, i64_w, i32_w]
            rfl
          refine pure_ (i := 2) (N := some 30) (v := ?_) (a' := ?_) #[true, true, true, false, true, false, false, false, false, false, false] rfl rfl (any_of HT_.out (by kernel_rfl)) (fun _ _ _ h => h) (Or.inl ⟨by rfl, ?_⟩) ?_ ?_
          rotate_left
          · intro w'
            go_simp
            with_reducible rfl
          rotate_left
          · simp only [Act.put, List.setIfInBounds_toArray, List.set_cons_zero, List.set_cons_succ, i64_w, i32_w]
            rfl
          refine take_ (i := 5) (N := some 33) (v := ?_) (a' := ?_) #[true, true, true, false, true, true, false, false, false, false, false] rfl rfl (take_ofW HT_.out HW_.out (by kernel_rfl)) (fun _ _ _ h => h) (Or.inl ⟨by rfl, ?_⟩) hHeld ?_ ?_
          rotate_left
          · rintro w' ⟨s0, s1, s2⟩
            go_simp
            with_reducible rfl
          rotate_left
          · simp only [Act.put, List.setIfInBounds_toArray, List.set_cons_zero, List.set_cons_succ, i64_w, i32_w]
            rfl
          refine pure_ (i := 6) (N := some 34) (v := ?_) (a' := ?_) #[true, true, true, false, true, true, true, false, false, false, false] rfl rfl (any_of HT_.out (by kernel_rfl)) (fun _ _ _ h => h) (Or.inl ⟨by rfl, ?_⟩) ?_ ?_
          rotate_left
          · intro w'
            go_simp
            with_reducible rfl
          rotate_left
          · simp only [Act.put, List.setIfInBounds_toArray, List.set_cons_zero, List.set_cons_succ, i64_w, i32_w]
            rfl
          refine one_ (i := 3) (N := some 31) #[true, true, true, true, true, true, true, false, false, false, false] rfl rfl (one_of HT_.out (by kernel_rfl)) (by decide) (fun K hK => ?_)
          refine goes_ Tryd.func52 (by kernel_rfl) rfl #[.slice A0_2 (l0_2.take 4).length c0_2] (by rfl) rfl rfl (by (try simp only [List.map_toArray, List.map_cons, List.map_nil]); first | done | (rw [show (l0_2.take 4).length = 4 from (by rw [List.length_take]; have h_ : (4 : Int) ≤ (l0_2.length : Int) := of_decide_eq_true (by first | (with_reducible assumption) | assumption); omega)] <;> rfl) | rfl | (simp only [List.length_drop, List.length_take]; rfl)) ?_
          with_reducible refine (frame_value.calls kj1 _ _ (l0_2.take 4) t394 _ ?side1 ?side2 A17.out).mono ?_
          (case side1 => repeat (first | exact (Kd.C_below HR393.out HB.out) | (with_reducible refine Kd.C_alloc ?_ _) | (with_reducible refine Kd.C_drewN ?_ _) | (with_reducible refine Kd.C_drew ?_)))
          (case side2 => exact HC393.out)
          rintro e w' ⟨rfl, ⟨nd, rfl⟩⟩
          refine ⟨_, rfl, ?_⟩
          refine hK.out _ _ ⟨(blk_cell BK389.out 0).trans rfl, (blk_cell BK389.out 1).trans rfl, (blk_cell BK389.out 2).trans rfl⟩ (fun hHeld => ?_)
          clear hK K
          refine norm_ (a' := ?_) ?_ ?_
          rotate_left
          · show Act.put _ (some 31) _ = _
            simp only [Act.put, List.setIfInBounds_toArray, List.set_cons_zero, List.set_cons_succ, i64_w, i32_w]
            rfl
          refine one_ (i := 7) (N := some 35) #[true, true, true, true, true, true, true, true, false, false, false] rfl rfl (one_of HT_.out (by kernel_rfl)) (by decide) (fun K hK => ?_)
          refine goes_ Tryd.func53 (by kernel_rfl) rfl #[.slice A22 (l0_2.drop 4).length (c0_2 - 4)] (by rfl) rfl rfl (by (try simp only [List.map_toArray, List.map_cons, List.map_nil]); first | done | (rw [show (l0_2.drop 4).length = (l0_2.length - 4) from List.length_drop] <;> rfl) | rfl | (simp only [List.length_drop, List.length_take]; rfl)) ?_
          with_reducible refine (bytes_Clone.calls _ _ (l0_2.drop 4) t396 _ ?side1 ?side2 A19.out).mono ?_
          (case side1 => repeat (first | exact (Kd.C_below HR395.out (by repeat (first | (with_reducible first | exact HB.out | apply below_alloc | apply pw_below_drewN | apply below_drew1 | refine below_set ?_ GE389.out) | exact HB.out))) | (with_reducible refine Kd.C_alloc ?_ _) | (with_reducible refine Kd.C_drewN ?_ _) | (with_reducible refine Kd.C_drew ?_)))
          (case side2 => exact HC395.out)
          rintro e w23 ⟨v397, rfl, ho0, hb⟩
          refine ⟨_, rfl, ?_⟩
          have n0_ := Aside0.mk (Kd.R_lower ho0 (below_size (by repeat (first | (with_reducible first | exact HB.out | apply below_alloc | apply pw_below_drewN | apply below_drew1 | refine below_set ?_ GE389.out) | exact HB.out))))
          have n1_ := Aside0.mk (blk_below (g := gb389) (o := .cells #[.int .i64 a0_0, .int .i64 a0_1, .slice A0_2 l0_2.length c0_2] 29 (0, 0)) (by (with_reducible repeat (first | refine blk_drewN ?_ _ | refine blk_drew ?_ | refine blk_alloc ?_ _)); exact BK389.out) hb)
          have n2_ := Aside0.mk (below_step (by repeat (first | (with_reducible first | exact HB.out | apply below_alloc | apply pw_below_drewN | apply below_drew1 | refine below_set ?_ GE389.out) | exact HB.out)) hb)
          clear BK389
          clear HB
          have HO398 := n0_
          have BK389 := n1_
          have HB := n2_
          clear n0_ n1_ n2_
          (try clear hb)
          (try clear hb2)
          (try clear hk)
          (try clear hi)
          (try clear ho0)
          refine hK.out _ _ ⟨(blk_cell BK389.out 0).trans rfl, (blk_cell BK389.out 1).trans rfl, (blk_cell BK389.out 2).trans rfl⟩ (fun hHeld => ?_)
          clear hK K
          refine norm_ (a' := ?_) ?_ ?_
          rotate_left
          · show Act.put _ (some 35) _ = _
            simp only [Act.put, List.setIfInBounds_toArray, List.set_cons_zero, List.set_cons_succ, i64_w, i32_w]
            rfl
          refine pure_ (i := 8) (N := some 2) (v := ?_) (a' := ?_) #[true, true, true, true, true, true, true, true, true, false, false] rfl rfl (any_of HT_.out (by kernel_rfl)) (fun _ _ _ h => h) (Or.inl ⟨by rfl, ?_⟩) ?_ ?_
          rotate_left
          · intro w'
            go_simp
            with_reducible rfl
          rotate_left
          · simp only [Act.put, List.setIfInBounds_toArray, List.set_cons_zero, List.set_cons_succ, i64_w, i32_w]
            rfl
          refine pure_ (i := 9) (N := some 3) (v := ?_) (a' := ?_) #[true, true, true, true, true, true, true, true, true, true, false] rfl rfl (any_of HT_.out (by kernel_rfl)) (fun _ _ _ h => h) (Or.inl ⟨by rfl, ?_⟩) ?_ ?_
          rotate_left
          · intro w'
            go_simp
            with_reducible rfl
          rotate_left
          · simp only [Act.put, List.setIfInBounds_toArray, List.set_cons_zero, List.set_cons_succ, i64_w, i32_w]
            rfl
          refine pure_ (i := 10) (N := some 4) (v := ?_) (a' := ?_) #[true, true, true, true, true, true, true, true, true, true, true] rfl rfl (any_of HT_.out (by kernel_rfl)) (fun _ _ _ h => h) (Or.inl ⟨by rfl, ?_⟩) ?_ ?_
          rotate_left
          · intro w'
            go_simp
            with_reducible rfl
          rotate_left
          · simp only [Act.put, List.setIfInBounds_toArray, List.set_cons_zero, List.set_cons_succ, i64_w, i32_w]
            rfl
          refine done_ (done_of HT_.out (by kernel_rfl)) ?_
          try go_wp2
          go_ret3
          exact ⟨_, by first | rfl | (simp [errW_none, errW_some] <;> rfl) | (simp [*, errW_none, errW_some] <;> rfl), by (with_reducible repeat (first | apply Kd.R_alloc | apply Kd.R_drewN | apply Kd.R_drew)); exact HO398.out, by repeat (first | (with_reducible first | exact HB.out | apply below_alloc | apply pw_below_drewN | apply below_drew1 | refine below_set ?_ GE389.out) | exact HB.out)⟩
        · rw [if_neg c16] at H
          exact absurd H (by simp)

end Go.Proofs.YtfhnpphceeoeeaaDoor.PX
/- Frames in plain words, 2: the example; chunks. -/
namespace Go.Proofs.YtfhnpphceeoeeaaDoor.PX
open Go.RowKit Go.Proofs.YtfhnpphceeoeeaaDoorW.PrintWords Go.Proofs.YtfhnpphceeoeeaaDoorW.PrintLast Go.Proofs.YtfhnpphceeoeeaaDoorW.PrintMore
set_option linter.unusedVariables false
set_option linter.unusedSimpArgs false
theorem wakes43 : Ev (fun k => tricklelaw43_wakes.f k) true := Ev.of (k := 120) (fun k => tricklelaw43_wakes.mono k) (by kernel_rfl)
theorem equal_self (k s : Int) (b : List Int) : trickleref43_Equal.f k s b k s b = some true := by
  unfold trickleref43_Equal.f
  rw [if_pos rfl, if_pos rfl, beq_self_eq_true]
/-- A chunk's arguments are valid. -/
def chunkB (v i : Int) (b : List Int) : Bool := decide (0 ≤ v ∧ v ≤ 2147483647) && (decide (0 ≤ i ∧ i ≤ 2147483647) && decide (1 ≤ b.length ∧ b.length ≤ 36))
def chunkR (v i : Int) (b : List Int) : Int × Int × List Int × Int := if chunkB v i b = true then (4, i, leN 4 v ++ b, 0) else (0, 0, [], 1)
theorem chunk_j0 (v i : Int) (b : List Int) (bad : Bool) (hn : b.length ≤ 1000000) : Ev (fun k => frame_Chunk.j0 k v i b bad) (if bad = true then (0, 0, [], 1) else (4, i, leN 4 v ++ b, 0)) := by
  refine Ev.step (fun k => by rw [frame_Chunk.j0]) ?_
  cases bad with
  | true => exact Ev.pos rfl (Ev.now _)
  | false => exact Ev.neg (by decide) (Ev.bind (number_ev 4 (by omega) v) (Ev.pos (by rw [leN_length]; omega) (Ev.now _)))
theorem chunk_ev (v i : Int) (b : List Int) (hn : b.length ≤ 1000000) : Ev (fun k => frame_Chunk.f k v i b) (chunkR v i b) := by
  have hj := chunk_j0 v i b
  refine Ev.congr (fun k => by rw [frame_Chunk.f]) (Ev.const (seq_ev v) ?_)
  unfold chunkR chunkB
  by_cases h1 : decide (0 ≤ v ∧ v ≤ 2147483647) = true
  case neg =>
    rw [Bool.eq_false_iff.mpr h1]
    exact Ev.neg (by decide) (hj true hn)
  rw [h1]
  refine Ev.pos rfl (Ev.const (seq_ev i) ?_)
  by_cases h2 : decide (0 ≤ i ∧ i ≤ 2147483647) = true
  case neg =>
    rw [Bool.eq_false_iff.mpr h2]
    exact Ev.neg (by decide) (hj true hn)
  rw [h2]
  refine Ev.pos rfl ?_
  by_cases h3 : (b.length : Int) < 1
  · rw [show decide (1 ≤ b.length ∧ b.length ≤ 36) = false by rw [decide_eq_false_iff_not]; omega]
    exact Ev.pos h3 (hj true hn)
  · refine Ev.neg h3 ?_
    by_cases h4 : (b.length : Int) > 36
    · rw [decide_eq_true h4, show decide (1 ≤ b.length ∧ b.length ≤ 36) = false by rw [decide_eq_false_iff_not]; omega]
      exact hj true hn
    · rw [decide_eq_false h4, show decide (1 ≤ b.length ∧ b.length ≤ 36) = true by rw [decide_eq_true_eq]; omega]
      exact hj false hn
theorem chunkB_iff (v i : Int) (b : List Int) : chunkB v i b = true ↔ (0 ≤ v ∧ v ≤ 2147483647) ∧ (0 ≤ i ∧ i ≤ 2147483647) ∧ (1 ≤ b.length ∧ b.length ≤ 36) := by
  unfold chunkB
  rw [Bool.and_eq_true, Bool.and_eq_true, decide_eq_true_eq, decide_eq_true_eq, decide_eq_true_eq]
theorem chunk_valid (v i : Int) (b : List Int) (h : chunkB v i b = true) : validB 4 i (leN 4 v ++ b) = true := by
  obtain ⟨h1, h2, h3⟩ := (chunkB_iff v i b).mp h
  rw [validB_iff, List.length_append, leN_length]
  omega
def chunkedB (k : Int) (b : List Int) : Bool := decide (k = 4 ∧ 5 ≤ b.length ∧ b.length ≤ 40) && decide (val (b.take 4) ≤ 2147483647)
def chunkedR (k : Int) (b : List Int) : Int × List Int × Bool := if chunkedB k b = true then (val (b.take 4), b.drop 4, true) else (0, [], false)
theorem chunked_j0 (k s : Int) (b : List Int) (hb : Bytes b) (hl : 4 ≤ b.length ∧ b.length ≤ 1000) : Ev (fun n => frame_Chunked.j0 n false k s b) (val (b.take 4), b.drop 4, true) := by
  refine Ev.step (fun k => by rw [frame_Chunked.j0]) (Ev.neg (by decide) (Ev.pos (by omega) (Ev.bind (value_ev _ (hb.take 4) (by rw [List.length_take]; omega)) (Ev.const (clone_b (b.drop 4) (by rw [List.length_drop]; omega)) ?_))))
  exact Ev.now _
theorem chunked_no (k s : Int) (b : List Int) : Ev (fun n => frame_Chunked.j0 n true k s b) (0, [], false) :=
  Ev.step (fun k => by rw [frame_Chunked.j0]) (Ev.pos rfl (Ev.now _))
theorem chunked_ev (k s : Int) (b : List Int) (hb : Bytes b) : Ev (fun n => frame_Chunked.f n k s b) (chunkedR k b) := by
  refine Ev.congr (fun n => by rw [frame_Chunked.f]) ?_
  unfold chunkedR chunkedB
  by_cases h1 : k = 4
  case neg =>
    rw [show decide (k = 4 ∧ 5 ≤ b.length ∧ b.length ≤ 40) = false by rw [decide_eq_false_iff_not]; exact fun e => h1 e.1]
    exact Ev.neg h1 (chunked_no k s b)
  refine Ev.pos h1 ?_
  by_cases h2 : (b.length : Int) < 5
  · rw [show decide (k = 4 ∧ 5 ≤ b.length ∧ b.length ≤ 40) = false by rw [decide_eq_false_iff_not]; omega]
    exact Ev.pos h2 (chunked_no k s b)
  refine Ev.neg h2 ?_
  by_cases h3 : (b.length : Int) > 40
  · rw [show decide (k = 4 ∧ 5 ≤ b.length ∧ b.length ≤ 40) = false by rw [decide_eq_false_iff_not]; omega]
    exact Ev.pos h3 (chunked_no k s b)
  rw [show decide (k = 4 ∧ 5 ≤ b.length ∧ b.length ≤ 40) = true by rw [decide_eq_true_eq]; omega, Bool.true_and]
  obtain ⟨v0, _⟩ := val_range (b.take 4) (hb.take 4)
  refine Ev.neg h3 (Ev.pos (by omega) (Ev.bind (value_ev _ (hb.take 4) (by rw [List.length_take]; omega)) (Ev.const (seq_ev _) ?_)))
  by_cases h4 : val (b.take 4) ≤ 2147483647
  · rw [decide_eq_true h4, show decide (0 ≤ val (b.take 4) ∧ val (b.take 4) ≤ 2147483647) = true by rw [decide_eq_true_eq]; exact ⟨v0, h4⟩, if_pos rfl]
    exact chunked_j0 k s b hb ⟨by omega, by omega⟩
  · rw [decide_eq_false h4, show decide (0 ≤ val (b.take 4) ∧ val (b.take 4) ≤ 2147483647) = false by rw [decide_eq_false_iff_not]; omega, if_neg (by decide)]
    exact chunked_no k s b
theorem chunked_chunk (v i : Int) (b : List Int) (h : chunkB v i b = true) : chunkedR 4 (leN 4 v ++ b) = (v, b, true) := by
  obtain ⟨h1, h2, h3⟩ := (chunkB_iff v i b).mp h
  have ht : (leN 4 v ++ b).take 4 = leN 4 v := by rw [List.take_append_of_le_length (by rw [leN_length]; omega), List.take_of_length_le (by rw [leN_length]; omega)]
  have hd : (leN 4 v ++ b).drop 4 = b := by
    have := List.drop_left (l₁ := leN 4 v) (l₂ := b)
    rw [leN_length] at this
    exact this
  have hv := val_leN 4 v h1.1 (by omega)
  unfold chunkedR chunkedB
  rw [ht, hd, hv, if_pos]
  rw [Bool.and_eq_true, decide_eq_true_eq, decide_eq_true_eq, List.length_append, leN_length]
  omega
theorem chunk_body (v : Int) (b : List Int) (hb : Bytes b) : Bytes (leN 4 v ++ b) := (leN_bytes 4 v).append hb
end Go.Proofs.YtfhnpphceeoeeaaDoor.PX
