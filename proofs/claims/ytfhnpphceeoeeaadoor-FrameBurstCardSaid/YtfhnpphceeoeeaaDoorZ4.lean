/- Parts of the proof, merged in build order: Cr4, PXx28, PureFrameBurst. -/
import Derived.Test.YtfhnpphceeoeeaaDoorZ3
import Derived.Test.YtfhnpphceeoeeaaDoorZ1
import Derived.Test.YtfhnpphceeoeeaaDoorZ2
/- The checksum in plain words, 2: it is linear; a burst of at most 16 bits changes it. -/
namespace Go.Proofs.YtfhnpphceeoeeaaDoor.PX
open Go.RowKit Go.Proofs.YtfhnpphceeoeeaaDoorW.PrintWords Go.Proofs.YtfhnpphceeoeeaaDoorW.PrintLast Go.Proofs.YtfhnpphceeoeeaaDoorW.PrintMore
set_option linter.unusedVariables false
set_option linter.unusedSimpArgs false
theorem xor_four (a b c d : B16) : (a ^^^ b) ^^^ (c ^^^ d) = (a ^^^ c) ^^^ (b ^^^ d) := by
  rw [BitVec.xor_assoc, BitVec.xor_assoc, ← BitVec.xor_assoc b, ← BitVec.xor_assoc c, BitVec.xor_comm b c]
theorem f1_lin (a b : B16) : f1 (a ^^^ b) = f1 a ^^^ f1 b := by
  unfold f1
  rw [BitVec.shiftLeft_xor_distrib, BitVec.msb_xor, xor_four]
  congr 1
  cases a.msb <;> cases b.msb <;> simp
theorem f1_zero : f1 0#16 = 0#16 := by decide
theorem fN_lin (n : Nat) : ∀ a b : B16, fN n (a ^^^ b) = fN n a ^^^ fN n b := by
  induction n with
  | zero => intro a b; rfl
  | succ n ih => intro a b; rw [fN, fN, fN, f1_lin, ih]
theorem fN_zero (n : Nat) : fN n 0#16 = 0#16 := by
  induction n with
  | zero => rfl
  | succ n ih => rw [fN, f1_zero, ih]
theorem fN_add (m n : Nat) : ∀ a : B16, fN (m + n) a = fN n (fN m a) := by
  induction m with
  | zero => intro a; rw [Nat.zero_add]; rfl
  | succ m ih => intro a; rw [Nat.succ_add, fN, fN, ih]
theorem f1_inj (x : B16) (h : f1 x = 0#16) : x = 0#16 := by
  unfold f1 at h
  have hx := x.isLt
  by_cases hm : x.msb = true
  · rw [if_pos hm] at h
    have h2 : x <<< 1 = poly := by
      have := congrArg (· ^^^ poly) h
      simp only [BitVec.xor_assoc, BitVec.xor_self, BitVec.xor_zero, BitVec.zero_xor] at this
      exact this
    have h3 := congrArg BitVec.toNat h2
    rw [BitVec.toNat_shiftLeft, Nat.shiftLeft_eq] at h3
    have h4 : poly.toNat = 4129 := by decide
    omega
  · rw [if_neg hm] at h
    have h2 : x <<< 1 = 0#16 := by
      have := h
      simpa using this
    have h3 := congrArg BitVec.toNat h2
    rw [BitVec.toNat_shiftLeft, Nat.shiftLeft_eq] at h3
    rw [BitVec.msb_eq_decide, decide_eq_true_eq] at hm
    apply BitVec.eq_of_toNat_eq
    have h5 : (0#16 : B16).toNat = 0 := by decide
    have h6 : (2 : Nat) ^ (16 - 1) = 32768 := by decide
    omega
theorem fN_inj (n : Nat) : ∀ x : B16, fN n x = 0#16 → x = 0#16 := by
  induction n with
  | zero => intro x h; exact h
  | succ n ih => intro x h; exact f1_inj x (ih _ h)
theorem stepB_xor (s d : B16) (c : Int) : stepB (s ^^^ d) c = stepB s c ^^^ fN 8 d := by
  unfold stepB
  rw [← fN_lin, BitVec.xor_assoc, BitVec.xor_comm d, ← BitVec.xor_assoc]
theorem crcS_xor (l : List Int) : ∀ s d : B16, crcS (s ^^^ d) l = crcS s l ^^^ fN (8 * l.length) d := by
  induction l with
  | nil => intro s d; rfl
  | cons c r ih =>
    intro s d
    show crcS (stepB (s ^^^ d) c) r = crcS (stepB s c) r ^^^ _
    rw [stepB_xor, ih, List.length_cons, show 8 * (r.length + 1) = 8 + 8 * r.length by omega, fN_add]
theorem crcS_append (a b : List Int) (v : B16) : crcS v (a ++ b) = crcS (crcS v a) b := List.foldl_append
def topB : B16 := 0x8000#16
theorem top_shift : ∀ b : Fin 8, fN 8 (topB >>> b.val) = fN (8 - b.val) topB := by decide
/-- A bit of a byte, from the top, as 16 bits. -/
theorem bit_top : ∀ b : Fin 8, (bB (128 / 2 ^ b.val) <<< 8) = topB >>> b.val := by decide
theorem u8_xor (c d : Int) (hc : 0 ≤ c ∧ c ≤ 255) (hd : 0 ≤ d ∧ d ≤ 255) : (0 ≤ Go.bits .xor .u8 c d ∧ Go.bits .xor .u8 c d ≤ 255) ∧ bB (Go.bits .xor .u8 c d) = bB c ^^^ bB d := by
  obtain ⟨X, rfl⟩ := Int.eq_ofNat_of_zero_le hc.1
  obtain ⟨Y, rfl⟩ := Int.eq_ofNat_of_zero_le hd.1
  have hx : X < 256 := by omega
  have hy : Y < 256 := by omega
  have hlt : X ^^^ Y < 2 ^ 8 := Nat.xor_lt_two_pow (by omega) (by omega)
  have e : Go.bits .xor .u8 (X : Int) (Y : Int) = ((X ^^^ Y : Nat) : Int) := by
    show IntKind.u8.wrap (((BitVec.ofInt 8 (X : Int)) ^^^ (BitVec.ofInt 8 (Y : Int))).toNat : Int) = _
    rw [BitVec.ofInt_natCast, BitVec.ofInt_natCast, BitVec.toNat_xor, BitVec.toNat_ofNat, BitVec.toNat_ofNat, Nat.mod_eq_of_lt (by omega), Nat.mod_eq_of_lt (by omega)]
    unfold IntKind.wrap
    simp [IntKind.bits, IntKind.signed]
    omega
  rw [e]
  refine ⟨by omega, ?_⟩
  unfold bB
  apply BitVec.eq_of_toNat_eq
  rw [Int.toNat_natCast, Int.toNat_natCast, Int.toNat_natCast, BitVec.toNat_xor, BitVec.toNat_ofNat, BitVec.toNat_ofNat, BitVec.toNat_ofNat, Nat.mod_eq_of_lt (by omega), Nat.mod_eq_of_lt (by omega), Nat.mod_eq_of_lt (by omega)]
/-- A bit turned in a list of bytes. -/
theorem crcS_flip (l : List Int) (hb : Bytes l) (j : Nat) (hj : j < l.length) (b : Nat) (h8 : b < 8) (v : B16) :
    crcS v (l.set j (Go.bits .xor .u8 l[j] (128 / 2 ^ b))) = crcS v l ^^^ fN (8 * l.length - (8 * j + b)) topB := by
  have hd : (0 : Int) ≤ 128 / 2 ^ b ∧ (128 : Int) / 2 ^ b ≤ 255 := by
    rcases (by omega : b = 0 ∨ b = 1 ∨ b = 2 ∨ b = 3 ∨ b = 4 ∨ b = 5 ∨ b = 6 ∨ b = 7) with rfl | rfl | rfl | rfl | rfl | rfl | rfl | rfl <;> decide
  obtain ⟨_, hx⟩ := u8_xor l[j] (128 / 2 ^ b) (hb _ (List.getElem_mem hj)) hd
  have hs : l = l.take j ++ (l[j] :: l.drop (j + 1)) := by rw [← List.drop_eq_getElem_cons hj, List.take_append_drop]
  have hset : l.set j (Go.bits .xor .u8 l[j] (128 / 2 ^ b)) = l.take j ++ (Go.bits .xor .u8 l[j] (128 / 2 ^ b) :: l.drop (j + 1)) := by
    rw [List.set_eq_take_append_cons_drop, if_pos hj]
  have hst : ∀ u : B16, stepB u (Go.bits .xor .u8 l[j] (128 / 2 ^ b)) = stepB u l[j] ^^^ fN (8 - b) topB := by
    intro u
    unfold stepB
    have h1 := bit_top ⟨b, h8⟩
    have h2 := top_shift ⟨b, h8⟩
    simp only at h1 h2
    rw [hx, BitVec.shiftLeft_xor_distrib, h1, ← BitVec.xor_assoc, fN_lin, h2]
  have hl : crcS v l = crcS (stepB (crcS v (l.take j)) l[j]) (l.drop (j + 1)) := by
    have h0 := congrArg (crcS v) hs
    rw [crcS_append] at h0
    exact h0
  rw [hl, hset, crcS_append]
  show crcS (stepB (crcS v (l.take j)) (Go.bits .xor .u8 l[j] (128 / 2 ^ b))) (l.drop (j + 1)) = _
  rw [hst, crcS_xor, ← fN_add, List.length_drop]
  congr 2
  omega
theorem flip_bytes (l : List Int) (hb : Bytes l) (j : Nat) (hj : j < l.length) (b : Nat) (h8 : b < 8) : Bytes (l.set j (Go.bits .xor .u8 l[j] (128 / 2 ^ b))) := by
  have hd : (0 : Int) ≤ 128 / 2 ^ b ∧ (128 : Int) / 2 ^ b ≤ 255 := by
    rcases (by omega : b = 0 ∨ b = 1 ∨ b = 2 ∨ b = 3 ∨ b = 4 ∨ b = 5 ∨ b = 6 ∨ b = 7) with rfl | rfl | rfl | rfl | rfl | rfl | rfl | rfl <;> decide
  intro x hx
  rcases List.mem_or_eq_of_mem_set hx with h | rfl
  · exact hb x h
  · exact (u8_xor l[j] (128 / 2 ^ b) (hb _ (List.getElem_mem hj)) hd).1
/-- Two bytes behind a register. -/
theorem low_shift (b : Int) (h0 : 0 ≤ b) (h1 : b ≤ 255) : fN 8 (bB b) = bB b <<< 8 := by
  have aux : ∀ n : Fin 256, fN 8 (BitVec.ofNat 16 n.val) = (BitVec.ofNat 16 n.val) <<< 8 := by decide +kernel
  exact aux ⟨b.toNat, by omega⟩
theorem crcS_two (v : B16) (a b : Int) (h0 : 0 ≤ b) (h1 : b ≤ 255) : crcS v [a, b] = fN 16 (v ^^^ (bB a <<< 8) ^^^ bB b) := by
  show stepB (stepB v a) b = _
  unfold stepB
  rw [← low_shift b h0 h1, ← fN_lin, ← fN_add]
theorem hi_lo (v : B16) (a b : Int) (ha : 0 ≤ a ∧ a ≤ 255) (hb : 0 ≤ b ∧ b ≤ 255) (h : I16 v = a * 256 + b) : v ^^^ (bB a <<< 8) ^^^ bB b = 0#16 := by
  have hv : v = (bB a <<< 8) ^^^ bB b := by
    apply BitVec.eq_of_toNat_eq
    unfold bB
    rw [BitVec.toNat_xor, BitVec.toNat_shiftLeft, BitVec.toNat_ofNat, BitVec.toNat_ofNat, Nat.mod_eq_of_lt (show a.toNat < 2 ^ 16 by omega), Nat.mod_eq_of_lt (show b.toNat < 2 ^ 16 by omega), Nat.shiftLeft_eq]
    have h2 : a.toNat * 2 ^ 8 % 2 ^ 16 = a.toNat * 256 := by omega
    have h3 : a.toNat * 256 ^^^ b.toNat = a.toNat * 256 + b.toNat := by
      rw [← or_nat a.toNat b.toNat (by omega)]
      apply Nat.eq_of_testBit_eq
      intro i
      rw [Nat.testBit_xor, Nat.testBit_or, show a.toNat * 256 = 2 ^ 8 * a.toNat by omega, Nat.testBit_two_pow_mul]
      by_cases hi : i < 8
      · simp [show ¬ i ≥ 8 by omega]
      · have : b.toNat.testBit i = false := Nat.testBit_lt_two_pow (Nat.lt_of_lt_of_le (show b.toNat < 2 ^ 8 by omega) (Nat.pow_le_pow_right (by omega) (by omega)))
        simp [this]
    rw [h2, h3]
    unfold I16 at h
    omega
  rw [hv, BitVec.xor_assoc, BitVec.xor_self]
/-- Bytes whose checksum fits leave nothing in the register. -/
theorem crcOK_zero (l : List Int) (hb : Bytes l) (h2 : 2 ≤ l.length) (h : crcOK l = true) : crc l = 0#16 := by
  unfold crcOK at h
  rw [decide_eq_true_eq] at h
  obtain ⟨n, hn⟩ : ∃ n, l.length = n + 2 := ⟨l.length - 2, by omega⟩
  rw [hn, Nat.add_sub_cancel, show n + 2 - 1 = n + 1 by omega] at h
  have hx := rd_byte l hb n (by omega)
  have hy := rd_byte l hb (n + 1) (by omega)
  have hd : l = l.take n ++ [rd l (n : Int), rd l ((n + 1 : Nat) : Int)] := by
    have h0 : l.drop n = [rd l (n : Int), rd l ((n + 1 : Nat) : Int)] := by
      rw [drop_cons l n (by omega), drop_cons l (n + 1) (by omega), List.drop_of_length_le (by omega), rd_nat l n (by omega), rd_nat l (n + 1) (by omega)]
    rw [← h0, List.take_append_drop]
  have h0 := congrArg crc hd
  rw [h0]
  unfold crc
  rw [crcS_append, crcS_two _ _ _ hy.1 hy.2]
  show fN 16 (crc (l.take n) ^^^ (bB (rd l (n : Int)) <<< 8) ^^^ bB (rd l ((n + 1 : Nat) : Int))) = 0#16
  rw [hi_lo _ _ _ hx hy h, fN_zero]
/-- The bits of a mask. -/
def mbit (a : Int) (i : Nat) : Bool := decide (a / 2 ^ i % 2 = 1)
/-- The register behind the first bits of a burst. -/
def burst (a : Int) : Nat → B16
  | 0 => 0#16
  | i + 1 => f1 (burst a i ^^^ (if mbit a i = true then topB else 0#16))
/-- The first bits of a burst, in their places. -/
def place (a : Int) : Nat → B16
  | 0 => 0#16
  | i + 1 => place a i ^^^ (if mbit a i = true then topB >>> i else 0#16)
theorem top_at : ∀ i : Fin 16, fN i.val (topB >>> i.val) = topB := by decide
theorem burst_place (a : Int) : ∀ i, i ≤ 16 → burst a i = fN i (place a i) := by
  intro i
  induction i with
  | zero => intro _; rfl
  | succ i ih =>
    intro h
    have ht := top_at ⟨i, by omega⟩
    simp only at ht
    rw [burst, place, ih (by omega), show i + 1 = i + 1 from rfl, fN_add i 1, fN_lin]
    show f1 _ = f1 _
    congr 2
    by_cases hm : mbit a i = true
    · rw [if_pos hm, if_pos hm, ht]
    · rw [if_neg hm, if_neg hm, fN_zero]
theorem top_bits : ∀ i t : Fin 16, (topB >>> i.val).getMsbD t.val = decide (t = i) := by decide
theorem place_bits (a : Int) (t : Nat) (ht : t < 16) : ∀ i, i ≤ 16 → (place a i).getMsbD t = (decide (t < i) && mbit a t) := by
  intro i
  induction i with
  | zero => intro _; rw [place]; simp
  | succ i ih =>
    intro h
    have hb := top_bits ⟨i, by omega⟩ ⟨t, ht⟩
    simp only [Fin.mk.injEq] at hb
    rw [place, BitVec.getMsbD_xor, ih (by omega)]
    by_cases hm : mbit a i = true
    · rw [if_pos hm, hb]
      by_cases he : t = i
      · subst he; simp [hm]
      · have h1 : (t < i + 1) ↔ (t < i) := by omega
        simp [he, h1]
    · rw [if_neg hm]
      by_cases he : t = i
      · subst he; simp [hm]
      · have h1 : (t < i + 1) ↔ (t < i) := by omega
        simp [h1]
theorem burst_ne (a : Int) (i t : Nat) (hi : i ≤ 16) (ht : t < i) (hm : mbit a t = true) : burst a i ≠ 0#16 := by
  intro e
  rw [burst_place a i hi] at e
  have h0 := fN_inj i _ e
  have h1 := place_bits a t (by omega) i hi
  rw [h0, hm, decide_eq_true ht] at h1
  simp at h1
end Go.Proofs.YtfhnpphceeoeeaaDoor.PX
-- Written by a program of this session (wip/xprint.py, over the kit's print tool). Lean checks it.
namespace Go.Proofs.YtfhnpphceeoeeaaDoor.PX
open Go.RowKit Go.Proofs.YtfhnpphceeoeeaaDoorW.PrintWords Go.Proofs.YtfhnpphceeoeeaaDoorW.PrintLast Go.Proofs.YtfhnpphceeoeeaaDoorW.PrintMore
attribute [local go_sem] max2_int min2_int max_two min_two max_three min_three max_four min_four   -- for this text's walks alone
set_option linter.unusedVariables false
set_option linter.unusedSimpArgs false

/-! ### tricklelaw43_FrameBurst: function 6 -/
mutual
def tricklelaw43_FrameBurst.j0 : Nat → Int → Int → List Int → Bool → Option (Bool)
  | 0, _, _, _, _ => none
  | k + 1, x1, x2, x7, x33 => if x33 = true then (some true) else (if (wrap64 (8 * (x7.length : Int))) = 0 then (none) else (tricklelaw43_FrameBurst.l0 k x2 x7 (wrap64 (8 * (x7.length : Int))) (Int.tmod (wrap64 (x1)) (wrap64 (8 * (x7.length : Int)))) false 0))
def tricklelaw43_FrameBurst.l0 : Nat → Int → List Int → Int → Int → Bool → Int → Option (Bool)
  | 0, _, _, _, _, _, _ => none
  | k + 1, x2, x7, x9, x10, x11, x41 => if x41 < 16 then (if (wrap64 (x10 + x41)) < x9 then (if 0 ≤ x41 then (if (Go.bits .and .u16 (shr .u16 x2 x41) 1) = 1 then (if 0 ≤ (wrap64 (Int.tdiv (wrap64 (x10 + x41)) 8)) then (if (wrap64 (Int.tdiv (wrap64 (x10 + x41)) 8)) < (x7.length : Int) then (if 0 ≤ (Int.tmod (wrap64 (x10 + x41)) 8) then (tricklelaw43_FrameBurst.l0 k x2 (x7.set ((wrap64 (Int.tdiv (wrap64 (x10 + x41)) 8)) : Int).toNat (Go.bits .xor .u8 (rd x7 (wrap64 (Int.tdiv (wrap64 (x10 + x41)) 8))) (shr .u8 128 (Int.tmod (wrap64 (x10 + x41)) 8)))) x9 x10 true (wrap64 (x41 + 1))) else (none)) else (none)) else (none)) else (tricklelaw43_FrameBurst.l0 k x2 x7 x9 x10 x11 (wrap64 (x41 + 1)))) else (none)) else (tricklelaw43_FrameBurst.l0 k x2 x7 x9 x10 x11 (wrap64 (x41 + 1)))) else ((frame_Decode.f k x7).bind fun bt366 => (if x11 = true then (some (bt366.2.2.2 == 4)) else (some true)))
end
def tricklelaw43_FrameBurst.f (k : Nat) (a0_0 : Int) (a0_1 : Int) (l0_2 : List Int) (a1 : Int) (a2 : Int) : Option (Bool) := (tricklelaw43_wakes.f k).bind fun t360 => (if t360 = true then ((frame_Encode.f k a0_0 a0_1 l0_2).bind fun bt361 => ((tricklelaw43_small.f a0_0 a0_1 l0_2).bind fun t365 => (if t365 = true then (if bt361.2 = 0 then (tricklelaw43_FrameBurst.j0 k a1 a2 bt361.1 (a2 == 0)) else (tricklelaw43_FrameBurst.j0 k a1 a2 bt361.1 true)) else (tricklelaw43_FrameBurst.j0 k a1 a2 bt361.1 true)))) else (some false))
def tricklelaw43_FrameBurst.T14 : Bool × List (List Nat × List Nat) := (true, [([], []), ([], []), ([1], [1]), ([0, 2], [0, 2]), ([3], [3]), ([], []), ([5], [5]), ([6], [6]), ([4, 7], [4, 7]), ([0, 2, 0, 1, 2, 3, 4, 5, 6, 7, 8], [0, 2]), ([9, 8, 0, 1, 2, 3, 4, 5, 6, 7, 8], [8, 9])])
def tricklelaw43_FrameBurst.B14 : List Nat := [0, 0, 2, 7, 15, 0, 32, 96, 255, 511, 1023]
theorem tricklelaw43_FrameBurst.tab14 : rtab .any (opsOf Tryd.f6 14) = tricklelaw43_FrameBurst.T14 := by kernel_rfl
theorem tricklelaw43_FrameBurst.bits14 : waitsOk tricklelaw43_FrameBurst.T14.2 tricklelaw43_FrameBurst.B14 = true := by kernel_rfl
set_option maxHeartbeats 8000000 in
set_option maxRecDepth 100000 in
theorem tricklelaw43_FrameBurst.calls (k : Nat) (a0_0 : Int) (a0_1 : Int) (A0_2 : Option Addr) (c0_2 : Nat) (l0_2 : List Int) (a1 : Int) (a2 : Int) (r : Bool) (w : World) (hr0_2 : Kd.C (Kd.int .u8) w A0_2 l0_2.length l0_2) (hc0_2 : l0_2.length ≤ c0_2) (hG : GW w) (h : tricklelaw43_FrameBurst.f k a0_0 a0_1 l0_2 a1 a2 = some r) :
    Calls Tryd.prog 6 #[.agg #[.int .i64 a0_0, .int .i64 a0_1, .slice A0_2 l0_2.length c0_2], .int .u16 a1, .int .u16 a2] w fun e w' => e = .returned (.bool r) ∧ Below w.heap.size w w' := by
  have hu29 := Tryd.underlying29
  have HG := Aside0.mk hG
  clear hG
  have HR0_2 := Aside0.mk hr0_2
  have HC0_2 := Aside0.mk hc0_2
  clear hr0_2 hc0_2
  have HB := Aside0.mk (Below.refl w.heap.size w)
  have H : ((tricklelaw43_wakes.f k).bind fun t360 => (if t360 = true then ((frame_Encode.f k a0_0 a0_1 l0_2).bind fun bt361 => ((tricklelaw43_small.f a0_0 a0_1 l0_2).bind fun t365 => (if t365 = true then (if bt361.2 = 0 then (tricklelaw43_FrameBurst.j0 k a1 a2 bt361.1 (a2 == 0)) else (tricklelaw43_FrameBurst.j0 k a1 a2 bt361.1 true)) else (tricklelaw43_FrameBurst.j0 k a1 a2 bt361.1 true)))) else (some false))) = some r := h
  clear h
  replace H := Option.bind_eq_some_iff.mp H
  obtain ⟨t360, A40, H⟩ := H
  replace H : (if t360 = true then ((frame_Encode.f k a0_0 a0_1 l0_2).bind fun bt361 => ((tricklelaw43_small.f a0_0 a0_1 l0_2).bind fun t365 => (if t365 = true then (if bt361.2 = 0 then (tricklelaw43_FrameBurst.j0 k a1 a2 bt361.1 (a2 == 0)) else (tricklelaw43_FrameBurst.j0 k a1 a2 bt361.1 true)) else (tricklelaw43_FrameBurst.j0 k a1 a2 bt361.1 true)))) else (some false)) = some r := H
  have A4 := Aside0.mk A40
  clear A40
  by_cases c5 : t360 = true
  · subst c5
    have H1 : ((frame_Encode.f k a0_0 a0_1 l0_2).bind fun bt361 => ((tricklelaw43_small.f a0_0 a0_1 l0_2).bind fun t365 => (if t365 = true then (if bt361.2 = 0 then (tricklelaw43_FrameBurst.j0 k a1 a2 bt361.1 (a2 == 0)) else (tricklelaw43_FrameBurst.j0 k a1 a2 bt361.1 true)) else (tricklelaw43_FrameBurst.j0 k a1 a2 bt361.1 true)))) = some r := by rw [if_pos rfl] at H; exact H
    clear H
    have H := H1
    clear H1
    replace H := Option.bind_eq_some_iff.mp H
    obtain ⟨⟨t361, t364⟩, A60, H⟩ := H
    replace H : ((tricklelaw43_small.f a0_0 a0_1 l0_2).bind fun t365 => (if t365 = true then (if t364 = 0 then (tricklelaw43_FrameBurst.j0 k a1 a2 t361 (a2 == 0)) else (tricklelaw43_FrameBurst.j0 k a1 a2 t361 true)) else (tricklelaw43_FrameBurst.j0 k a1 a2 t361 true))) = some r := H
    have A6 := Aside0.mk A60
    clear A60
    have HC7 := Aside0.mk H
    clear H
    go_enter Tryd.func6, Tryd.ntmps6
    go_upto_region 4 with (first | ((with_reducible refine gate_dst (N := 3) rfl ?_); refine box_event ?hg (N := 3) ?hd (cs := #[.int .i64 a0_0, .int .i64 a0_1, .slice A0_2 l0_2.length c0_2]) (t := 29) ?hr ?_; (case hd => rfl); (case hg => rfl); (case hr => first | (go_simp; done) | (go_simp; rfl)); intro gb359 hg w8 hbox hb; have n0_ := Aside0.mk (below_step (by repeat (first | (with_reducible first | exact HB.out | apply below_alloc | apply pw_below_drewN | apply below_drew1) | exact HB.out)) hb); have n1_ := Aside0.mk (hbox); have n2_ := Aside0.mk ((by rw [hg]; exact (below_size (by repeat (first | (with_reducible first | exact HB.out | apply below_alloc | apply pw_below_drewN | apply below_drew1) | exact HB.out))) : w.heap.size ≤ gb359)); have n3_ := Aside0.mk ((by rw [hg]; exact (below_size (by repeat (first | (with_reducible first | exact HB.out | apply below_alloc | apply pw_below_drewN | apply below_drew1) | exact HB.out))) : w.heap.size ≤ gb359)); clear HB; have HB := n0_; have BK359 := n1_; have GW359 := n2_; have GE359 := n3_; clear n0_ n1_ n2_ n3_; clear hb hbox hg) | ((with_reducible refine gate_callee (f := 11) rfl ?_); refine goesL_ (some 16) rfl rfl Tryd.func11 (by kernel_rfl) rfl #[] rfl (by (try simp only [List.map_toArray, List.map_cons, List.map_nil]); first | done | rfl | (simp only [List.length_drop, List.length_take]; rfl)) ?_; (with_reducible refine (tricklelaw43_wakes.calls k  true _ ?side1 A4.out).mono ?_); (case side1 => refine GW.below HG.out ?_; repeat (first | (with_reducible first | exact HB.out | apply below_alloc | apply pw_below_drewN | apply below_drew1 | refine below_set ?_ GE359.out) | exact HB.out)); rintro e w9 ⟨rfl, hb⟩; refine ⟨_, rfl, ?_⟩; have n0_ := Aside0.mk (blk_below (g := gb359) (o := .cells #[.int .i64 a0_0, .int .i64 a0_1, .slice A0_2 l0_2.length c0_2] 29 (0, 0)) (by (with_reducible repeat (first | refine blk_drewN ?_ _ | refine blk_drew ?_ | refine blk_alloc ?_ _)); exact BK359.out) hb); have n1_ := Aside0.mk (below_step (by repeat (first | (with_reducible first | exact HB.out | apply below_alloc | apply pw_below_drewN | apply below_drew1 | refine below_set ?_ GE359.out) | exact HB.out)) hb); clear BK359; clear HB; have BK359 := n0_; have HB := n1_; clear n0_ n1_; (try clear hb); (try clear hb2); (try clear hk); (try clear hi); have hcz10_0 : w9.cell? ⟨gb359, 0, none⟩ = some (.int .i64 a0_0) := (blk_cell BK359.out 0).trans rfl; have hcz10_1 : w9.cell? ⟨gb359, 1, none⟩ = some (.int .i64 a0_1) := (blk_cell BK359.out 1).trans rfl; have hcz10_2 : w9.cell? ⟨gb359, 2, none⟩ = some (.slice A0_2 l0_2.length c0_2) := (blk_cell BK359.out 2).trans rfl; have hfz10_0 := blk_frozen BK359.out 0; have hfz10_1 := blk_frozen BK359.out 1; have hfz10_2 := blk_frozen BK359.out 2) | ((with_reducible refine gate_callee (f := 20) rfl ?_); refine goesL_ (some 20) rfl rfl Tryd.func20 (by kernel_rfl) rfl #[.agg #[.int .i64 a0_0, .int .i64 a0_1, .slice A0_2 l0_2.length c0_2]] rfl (by (try simp only [List.map_toArray, List.map_cons, List.map_nil]); first | done | rfl | (simp only [List.length_drop, List.length_take]; rfl)) ?_; (with_reducible refine (frame_Encode.calls k a0_0 a0_1 _ _ l0_2 t361 t364 _ ?side1 ?side2 A6.out).mono ?_); (case side1 => repeat (first | exact (Kd.C_below HR0_2.out HB.out) | (with_reducible refine Kd.C_alloc ?_ _) | (with_reducible refine Kd.C_drewN ?_ _) | (with_reducible refine Kd.C_drew ?_))); (case side2 => exact HC0_2.out); rintro e w11 ⟨v362, rfl, ho0, hb⟩; refine ⟨_, rfl, ?_⟩; have n0_ := Aside0.mk (Kd.R_lower ho0 (below_size (by repeat (first | (with_reducible first | exact HB.out | apply below_alloc | apply pw_below_drewN | apply below_drew1 | refine below_set ?_ GE359.out) | exact HB.out)))); have n1_ := Aside0.mk (blk_below (g := gb359) (o := .cells #[.int .i64 a0_0, .int .i64 a0_1, .slice A0_2 l0_2.length c0_2] 29 (0, 0)) (by (with_reducible repeat (first | refine blk_drewN ?_ _ | refine blk_drew ?_ | refine blk_alloc ?_ _)); exact BK359.out) hb); have n2_ := Aside0.mk (below_step (by repeat (first | (with_reducible first | exact HB.out | apply below_alloc | apply pw_below_drewN | apply below_drew1 | refine below_set ?_ GE359.out) | exact HB.out)) hb); clear BK359; clear HB; have HO363 := n0_; have BK359 := n1_; have HB := n2_; clear n0_ n1_ n2_; (try clear hb); (try clear hb2); (try clear hk); (try clear hi); (try clear ho0)))
    (try simp only [Act.put, List.setIfInBounds_toArray, List.set_cons_zero, List.set_cons_succ])
    go_cut [33] (fun v33 wc => ∃ (kq : Nat) (x33_6 : Bool), v33 = .bool x33_6 ∧ Aside0 (tricklelaw43_FrameBurst.j0 kq a1 a2 t361 x33_6 = some r) ∧ Aside0 (kq ≤ k) ∧ Aside0 (Kd.R (Kd.int .u8) 5 wc w.heap.size (fun _ => True) v362 t361) ∧ Aside0 (wc.heap[gb359]? = some (.cells #[.int .i64 a0_0, .int .i64 a0_1, (.slice A0_2 l0_2.length c0_2)] 29 (0, 0))) ∧ Aside0 (Below w.heap.size w wc))
    case first =>
      have H := HC7.out
      clear HC7
      replace H := Option.bind_eq_some_iff.mp H
      obtain ⟨t365, A120, H⟩ := H
      replace H : (if t365 = true then (if t364 = 0 then (tricklelaw43_FrameBurst.j0 k a1 a2 t361 (a2 == 0)) else (tricklelaw43_FrameBurst.j0 k a1 a2 t361 true)) else (tricklelaw43_FrameBurst.j0 k a1 a2 t361 true)) = some r := H
      have A12 := Aside0.mk A120
      clear A120
      by_cases c13 : t365 = true
      · subst c13
        have H1 : (if t364 = 0 then (tricklelaw43_FrameBurst.j0 k a1 a2 t361 (a2 == 0)) else (tricklelaw43_FrameBurst.j0 k a1 a2 t361 true)) = some r := by rw [if_pos rfl] at H; exact H
        clear H
        have H := H1
        clear H1
        by_cases c14 : t364 = 0
        · rw [if_pos c14] at H
          have c14b0 : (t364 == 0) = true := beq_iff_eq.mpr c14
          have c14b1 : (t364 != 0) = false := bne_eq_false_iff_eq.mpr c14
          clear c14
          (first | rw [c14b0] | (simp only [i64_w, i32_w]; rw [c14b0]) | skip)
          have H' := Aside0.mk H
          clear H
          have hcz15_0 : w11.cell? ⟨gb359, 0, none⟩ = some (.int .i64 a0_0) := (blk_cell BK359.out 0).trans rfl
          have hcz15_1 : w11.cell? ⟨gb359, 1, none⟩ = some (.int .i64 a0_1) := (blk_cell BK359.out 1).trans rfl
          have hcz15_2 : w11.cell? ⟨gb359, 2, none⟩ = some (.slice A0_2 l0_2.length c0_2) := (blk_cell BK359.out 2).trans rfl
          have hfz15_0 := blk_frozen BK359.out 0
          have hfz15_1 := blk_frozen BK359.out 1
          have hfz15_2 := blk_frozen BK359.out 2
          go_wp2_with (first | ((with_reducible refine gate_callee (f := 19) rfl ?_); refine goesL_ (some 24) rfl rfl Tryd.func19 (by kernel_rfl) rfl #[.agg #[.int .i64 a0_0, .int .i64 a0_1, .slice A0_2 l0_2.length c0_2]] rfl (by (try simp only [List.map_toArray, List.map_cons, List.map_nil]); first | done | rfl | (simp only [List.length_drop, List.length_take]; rfl)) ?_; (with_reducible refine (tricklelaw43_small.calls a0_0 a0_1 _ _ l0_2 true _ ?side1 ?side2 A12.out).mono ?_); (case side1 => repeat (first | exact (Kd.C_below HR0_2.out HB.out) | (with_reducible refine Kd.C_alloc ?_ _) | (with_reducible refine Kd.C_drewN ?_ _) | (with_reducible refine Kd.C_drew ?_))); (case side2 => exact HC0_2.out); rintro e w16 ⟨rfl, hb⟩; refine ⟨_, rfl, ?_⟩; have n0_ := Aside0.mk (Kd.R_below (by (with_reducible repeat (first | apply Kd.R_alloc | apply Kd.R_drewN | apply Kd.R_drew)); exact HO363.out) hb); have n1_ := Aside0.mk (blk_below (g := gb359) (o := .cells #[.int .i64 a0_0, .int .i64 a0_1, .slice A0_2 l0_2.length c0_2] 29 (0, 0)) (by (with_reducible repeat (first | refine blk_drewN ?_ _ | refine blk_drew ?_ | refine blk_alloc ?_ _)); exact BK359.out) hb); have n2_ := Aside0.mk (below_step (by repeat (first | (with_reducible first | exact HB.out | apply below_alloc | apply pw_below_drewN | apply below_drew1 | refine below_set ?_ GE359.out) | exact HB.out)) hb); clear HO363; clear BK359; clear HB; have HO363 := n0_; have BK359 := n1_; have HB := n2_; clear n0_ n1_ n2_; (try clear hb); (try clear hb2); (try clear hk); (try clear hi)))
          go_meet
          case rel => exact ⟨_, ((a2 == 0)), (by first | rfl | (simp; done) | (simp [*]; done)), H', ⟨by first | omega | exact Nat.le_refl _⟩, ⟨by (with_reducible repeat (first | apply Kd.R_alloc | apply Kd.R_drewN | apply Kd.R_drew)); exact HO363.out⟩, ⟨by (with_reducible repeat (first | refine blk_drewN ?_ _ | refine blk_drew ?_ | refine blk_alloc ?_ _)); exact BK359.out⟩, ⟨by repeat (first | (with_reducible first | exact HB.out | apply below_alloc | apply pw_below_drewN | apply below_drew1 | refine below_set ?_ GE359.out) | exact HB.out)⟩⟩
        · rw [if_neg c14] at H
          have c14b0 : (t364 == 0) = false := beq_eq_false_iff_ne.mpr c14
          have c14b1 : (t364 != 0) = true := bne_iff_ne.mpr c14
          (first | rw [c14b0] | (simp only [i64_w, i32_w]; rw [c14b0]) | skip)
          have H' := Aside0.mk H
          clear H
          have hcz17_0 : w11.cell? ⟨gb359, 0, none⟩ = some (.int .i64 a0_0) := (blk_cell BK359.out 0).trans rfl
          have hcz17_1 : w11.cell? ⟨gb359, 1, none⟩ = some (.int .i64 a0_1) := (blk_cell BK359.out 1).trans rfl
          have hcz17_2 : w11.cell? ⟨gb359, 2, none⟩ = some (.slice A0_2 l0_2.length c0_2) := (blk_cell BK359.out 2).trans rfl
          have hfz17_0 := blk_frozen BK359.out 0
          have hfz17_1 := blk_frozen BK359.out 1
          have hfz17_2 := blk_frozen BK359.out 2
          go_wp2_with (first | ((with_reducible refine gate_callee (f := 19) rfl ?_); refine goesL_ (some 24) rfl rfl Tryd.func19 (by kernel_rfl) rfl #[.agg #[.int .i64 a0_0, .int .i64 a0_1, .slice A0_2 l0_2.length c0_2]] rfl (by (try simp only [List.map_toArray, List.map_cons, List.map_nil]); first | done | rfl | (simp only [List.length_drop, List.length_take]; rfl)) ?_; (with_reducible refine (tricklelaw43_small.calls a0_0 a0_1 _ _ l0_2 true _ ?side1 ?side2 A12.out).mono ?_); (case side1 => repeat (first | exact (Kd.C_below HR0_2.out HB.out) | (with_reducible refine Kd.C_alloc ?_ _) | (with_reducible refine Kd.C_drewN ?_ _) | (with_reducible refine Kd.C_drew ?_))); (case side2 => exact HC0_2.out); rintro e w18 ⟨rfl, hb⟩; refine ⟨_, rfl, ?_⟩; have n0_ := Aside0.mk (Kd.R_below (by (with_reducible repeat (first | apply Kd.R_alloc | apply Kd.R_drewN | apply Kd.R_drew)); exact HO363.out) hb); have n1_ := Aside0.mk (blk_below (g := gb359) (o := .cells #[.int .i64 a0_0, .int .i64 a0_1, .slice A0_2 l0_2.length c0_2] 29 (0, 0)) (by (with_reducible repeat (first | refine blk_drewN ?_ _ | refine blk_drew ?_ | refine blk_alloc ?_ _)); exact BK359.out) hb); have n2_ := Aside0.mk (below_step (by repeat (first | (with_reducible first | exact HB.out | apply below_alloc | apply pw_below_drewN | apply below_drew1 | refine below_set ?_ GE359.out) | exact HB.out)) hb); clear HO363; clear BK359; clear HB; have HO363 := n0_; have BK359 := n1_; have HB := n2_; clear n0_ n1_ n2_; (try clear hb); (try clear hb2); (try clear hk); (try clear hi)))
          go_meet
          case rel => exact ⟨_, (true), (by first | rfl | (simp; done) | (simp [*]; done)), H', ⟨by first | omega | exact Nat.le_refl _⟩, ⟨by (with_reducible repeat (first | apply Kd.R_alloc | apply Kd.R_drewN | apply Kd.R_drew)); exact HO363.out⟩, ⟨by (with_reducible repeat (first | refine blk_drewN ?_ _ | refine blk_drew ?_ | refine blk_alloc ?_ _)); exact BK359.out⟩, ⟨by repeat (first | (with_reducible first | exact HB.out | apply below_alloc | apply pw_below_drewN | apply below_drew1 | refine below_set ?_ GE359.out) | exact HB.out)⟩⟩
      · replace c13 := Bool.eq_false_iff.mpr c13
        subst c13
        have H1 : (tricklelaw43_FrameBurst.j0 k a1 a2 t361 true) = some r := by rw [if_neg (show ¬ (false = true) by decide)] at H; exact H
        clear H
        have H := H1
        clear H1
        have H' := Aside0.mk H
        clear H
        have hcz19_0 : w11.cell? ⟨gb359, 0, none⟩ = some (.int .i64 a0_0) := (blk_cell BK359.out 0).trans rfl
        have hcz19_1 : w11.cell? ⟨gb359, 1, none⟩ = some (.int .i64 a0_1) := (blk_cell BK359.out 1).trans rfl
        have hcz19_2 : w11.cell? ⟨gb359, 2, none⟩ = some (.slice A0_2 l0_2.length c0_2) := (blk_cell BK359.out 2).trans rfl
        have hfz19_0 := blk_frozen BK359.out 0
        have hfz19_1 := blk_frozen BK359.out 1
        have hfz19_2 := blk_frozen BK359.out 2
        go_wp2_with (first | ((with_reducible refine gate_callee (f := 19) rfl ?_); refine goesL_ (some 24) rfl rfl Tryd.func19 (by kernel_rfl) rfl #[.agg #[.int .i64 a0_0, .int .i64 a0_1, .slice A0_2 l0_2.length c0_2]] rfl (by (try simp only [List.map_toArray, List.map_cons, List.map_nil]); first | done | rfl | (simp only [List.length_drop, List.length_take]; rfl)) ?_; (with_reducible refine (tricklelaw43_small.calls a0_0 a0_1 _ _ l0_2 false _ ?side1 ?side2 A12.out).mono ?_); (case side1 => repeat (first | exact (Kd.C_below HR0_2.out HB.out) | (with_reducible refine Kd.C_alloc ?_ _) | (with_reducible refine Kd.C_drewN ?_ _) | (with_reducible refine Kd.C_drew ?_))); (case side2 => exact HC0_2.out); rintro e w20 ⟨rfl, hb⟩; refine ⟨_, rfl, ?_⟩; have n0_ := Aside0.mk (Kd.R_below (by (with_reducible repeat (first | apply Kd.R_alloc | apply Kd.R_drewN | apply Kd.R_drew)); exact HO363.out) hb); have n1_ := Aside0.mk (blk_below (g := gb359) (o := .cells #[.int .i64 a0_0, .int .i64 a0_1, .slice A0_2 l0_2.length c0_2] 29 (0, 0)) (by (with_reducible repeat (first | refine blk_drewN ?_ _ | refine blk_drew ?_ | refine blk_alloc ?_ _)); exact BK359.out) hb); have n2_ := Aside0.mk (below_step (by repeat (first | (with_reducible first | exact HB.out | apply below_alloc | apply pw_below_drewN | apply below_drew1 | refine below_set ?_ GE359.out) | exact HB.out)) hb); clear HO363; clear BK359; clear HB; have HO363 := n0_; have BK359 := n1_; have HB := n2_; clear n0_ n1_ n2_; (try clear hb); (try clear hb2); (try clear hk); (try clear hi)))
        go_meet
        case rel => exact ⟨_, (true), (by first | rfl | (simp; done) | (simp [*]; done)), H', ⟨by first | omega | exact Nat.le_refl _⟩, ⟨by (with_reducible repeat (first | apply Kd.R_alloc | apply Kd.R_drewN | apply Kd.R_drew)); exact HO363.out⟩, ⟨by (with_reducible repeat (first | refine blk_drewN ?_ _ | refine blk_drew ?_ | refine blk_alloc ?_ _)); exact BK359.out⟩, ⟨by repeat (first | (with_reducible first | exact HB.out | apply below_alloc | apply pw_below_drewN | apply below_drew1 | refine below_set ?_ GE359.out) | exact HB.out)⟩⟩
    case rest =>
      clear HC7
      try clear c1
      try clear c2
      try clear p2
      try clear c5
      try clear c6
      try clear c11
      try clear c13
      try clear c14
      try clear c14b0
      try clear c14b1
      try clear c19
      try clear c20
      try clear hcz10_0
      try clear hcz10_1
      try clear hcz10_2
      try clear hcz15_0
      try clear hcz15_1
      try clear hcz15_2
      try clear hcz17_0
      try clear hcz17_1
      try clear hcz17_2
      try clear hcz19_0
      try clear hcz19_1
      try clear hcz19_2
      try clear hfz10_0
      try clear hfz10_1
      try clear hfz10_2
      try clear hfz15_0
      try clear hfz15_1
      try clear hfz15_2
      try clear hfz17_0
      try clear hfz17_1
      try clear hfz17_2
      try clear hfz19_0
      try clear hfz19_1
      try clear hfz19_2
      obtain ⟨kq, x33_6, rfl, HA, HJ6, HO_7, BK359, HB⟩ := hcut
      cases kq with
      | zero => exact absurd HA.out (by simp [tricklelaw43_FrameBurst.j0])
      | succ kj6 =>
        have H := HA.out
        clear HA
        simp only [tricklelaw43_FrameBurst.j0] at H
        by_cases c21 : x33_6 = true
        · subst c21
          have H1 : (some true) = some r := by rw [if_pos rfl] at H; exact H
          clear H
          have H := H1
          clear H1
          obtain rfl := Option.some.inj H
          go_wp2
          go_ret
          exact ⟨by first | rfl | (simp [errW_none, errW_some] <;> rfl) | (simp [*, errW_none, errW_some] <;> rfl), by repeat (first | (with_reducible first | exact HB.out | apply below_alloc | apply pw_below_drewN | apply below_drew1 | refine below_set ?_ GE359.out) | exact HB.out)⟩
        · replace c21 := Bool.eq_false_iff.mpr c21
          subst c21
          have H1 : (if (wrap64 (8 * (t361.length : Int))) = 0 then (none) else (tricklelaw43_FrameBurst.l0 kj6 a2 t361 (wrap64 (8 * (t361.length : Int))) (Int.tmod (wrap64 (a1)) (wrap64 (8 * (t361.length : Int)))) false 0)) = some r := by rw [if_neg (show ¬ (false = true) by decide)] at H; exact H
          clear H
          have H := H1
          clear H1
          by_cases c22 : (wrap64 (8 * (t361.length : Int))) = 0
          · rw [if_pos c22] at H
            exact absurd H (by simp)
          · rw [if_neg c22] at H
            have c22b0 : ((wrap64 (8 * (t361.length : Int))) == 0) = false := beq_eq_false_iff_ne.mpr c22
            have c22b1 : ((wrap64 (8 * (t361.length : Int))) != 0) = true := bne_iff_ne.mpr c22
            have H' := Aside0.mk H
            clear H
            obtain ⟨Ao23, co23, eo23⟩ := Kd.R_slice HO_7.out
            subst eo23
            go_wp2
            go_loopg [11, 41] kj6 (fun kq v11 v41 w' => ∃ (x7_2 : List Int) (x11_2 : Bool) (x41_2 : Int), v11 = .bool x11_2 ∧ v41 = .int .i64 x41_2 ∧ Aside0 (tricklelaw43_FrameBurst.l0 kq a2 x7_2 (wrap64 (8 * (t361.length : Int))) (Int.tmod (wrap64 (a1)) (wrap64 (8 * (t361.length : Int)))) x11_2 x41_2 = some r) ∧ Aside0 (kq ≤ kj6) ∧ Aside0 (Kd.R (Kd.int .u8) 5 w' w.heap.size (fun _ => True) (.slice Ao23 t361.length co23) x7_2) ∧ Aside0 (w'.heap[gb359]? = some (.cells #[.int .i64 a0_0, .int .i64 a0_1, (.slice A0_2 l0_2.length c0_2)] 29 (0, 0))) ∧ Aside0 (Below w.heap.size w w'))
            case atStart => exact ⟨(t361), (false), (0), (by first | rfl | (simp; done) | (simp [*]; done)), (by first | rfl | (simp; done) | (simp [*]; done)), H', ⟨Nat.le_refl _⟩, ⟨by (with_reducible repeat (first | apply Kd.R_alloc | apply Kd.R_drewN | apply Kd.R_drew)); exact HO_7.out⟩, ⟨by (with_reducible repeat (first | refine blk_drewN ?_ _ | refine blk_drew ?_ | refine blk_alloc ?_ _)); exact BK359.out⟩, ⟨by repeat (first | (with_reducible first | exact HB.out | apply below_alloc | apply pw_below_drewN | apply below_drew1 | refine below_set ?_ GE359.out) | exact HB.out)⟩⟩
            case round =>
              clear H'
              try clear c1
              try clear c2
              try clear p2
              try clear c5
              try clear c6
              try clear p6
              try clear c11
              try clear c13
              try clear c14
              try clear c14b0
              try clear c14b1
              try clear c19
              try clear c20
              try clear c21
              try clear c22
              try clear c22b0
              try clear c22b1
              try clear hcz10_0
              try clear hcz10_1
              try clear hcz10_2
              try clear hcz15_0
              try clear hcz15_1
              try clear hcz15_2
              try clear hcz17_0
              try clear hcz17_1
              try clear hcz17_2
              try clear hcz19_0
              try clear hcz19_1
              try clear hcz19_2
              try clear hfz10_0
              try clear hfz10_1
              try clear hfz10_2
              try clear hfz15_0
              try clear hfz15_1
              try clear hfz15_2
              try clear hfz17_0
              try clear hfz17_1
              try clear hfz17_2
              try clear hfz19_0
              try clear hfz19_1
              try clear hfz19_2
              try clear p2
              obtain ⟨x7_2, x11_2, x41_2, rfl, rfl, HA, HK2, HO_7, BK359, HB⟩ := hrel
              have hl7_2 := (Kd.R_reads' HO_7.out).1
              rw [hl7_2] at HO_7
              (try simp only [hl7_2])
              (try simp only [hl7_2] at BK359)
              cases gk with
              | zero => exact absurd HA.out (by simp [tricklelaw43_FrameBurst.l0])
              | succ k2 =>
                have H := HA.out
                clear HA
                simp only [tricklelaw43_FrameBurst.l0] at H
                by_cases c24 : x41_2 < 16
                · rw [if_pos c24] at H
                  have c24b0 : decide (x41_2 < 16) = true := decide_eq_true c24
                  clear c24
                  by_cases c25 : (wrap64 ((Int.tmod (wrap64 (a1)) (wrap64 (8 * (t361.length : Int)))) + x41_2)) < (wrap64 (8 * (t361.length : Int)))
                  · rw [if_pos c25] at H
                    have c25b0 : decide ((wrap64 ((Int.tmod (wrap64 (a1)) (wrap64 (8 * (t361.length : Int)))) + x41_2)) < (wrap64 (8 * (t361.length : Int)))) = true := decide_eq_true c25
                    (try (have c25b0_m28 := c25b0; rw [hl7_2] at c25b0_m28))
                    clear c25
                    by_cases c26 : 0 ≤ x41_2
                    · rw [if_pos c26] at H
                      have c26b0 := eq_true c26
                      have c26b1 : decide (0 ≤ x41_2) = true := decide_eq_true c26
                      clear c26
                      obtain ⟨ji27, hji27⟩ : ∃ j_ : Int, (shr .u16 a2 x41_2) = j_ := ⟨_, rfl⟩
                      replace H : (if (Go.bits .and .u16 (ji27) 1) = 1 then (if 0 ≤ (wrap64 (Int.tdiv (wrap64 ((Int.tmod (wrap64 (a1)) (wrap64 (8 * (t361.length : Int)))) + x41_2)) 8)) then (if (wrap64 (Int.tdiv (wrap64 ((Int.tmod (wrap64 (a1)) (wrap64 (8 * (t361.length : Int)))) + x41_2)) 8)) < (x7_2.length : Int) then (if 0 ≤ (Int.tmod (wrap64 ((Int.tmod (wrap64 (a1)) (wrap64 (8 * (t361.length : Int)))) + x41_2)) 8) then (tricklelaw43_FrameBurst.l0 k2 a2 (x7_2.set ((wrap64 (Int.tdiv (wrap64 ((Int.tmod (wrap64 (a1)) (wrap64 (8 * (t361.length : Int)))) + x41_2)) 8)) : Int).toNat (Go.bits .xor .u8 (rd x7_2 (wrap64 (Int.tdiv (wrap64 ((Int.tmod (wrap64 (a1)) (wrap64 (8 * (t361.length : Int)))) + x41_2)) 8))) (shr .u8 128 (Int.tmod (wrap64 ((Int.tmod (wrap64 (a1)) (wrap64 (8 * (t361.length : Int)))) + x41_2)) 8)))) (wrap64 (8 * (t361.length : Int))) (Int.tmod (wrap64 (a1)) (wrap64 (8 * (t361.length : Int)))) true (wrap64 (x41_2 + 1))) else (none)) else (none)) else (none)) else (tricklelaw43_FrameBurst.l0 k2 a2 x7_2 (wrap64 (8 * (t361.length : Int))) (Int.tmod (wrap64 (a1)) (wrap64 (8 * (t361.length : Int)))) x11_2 (wrap64 (x41_2 + 1)))) = some r := by first | (rw [hji27] at H; exact H) | (simp only [hji27] at H ⊢; exact H)
                      have hji27_ : (a2 / 2 ^ min x41_2.toNat 16) = ji27 := hji27
                      have hji27z : x41_2 ≤ 16 → (a2 / 2 ^ x41_2.toNat) = ji27 := shr_small hji27
                      by_cases c28 : (Go.bits .and .u16 (ji27) 1) = 1
                      · rw [if_pos c28] at H
                        have c28b0 : ((Go.bits .and .u16 (ji27) 1) == 1) = true := beq_iff_eq.mpr c28
                        have c28b1 : ((Go.bits .and .u16 (ji27) 1) != 1) = false := bne_eq_false_iff_eq.mpr c28
                        clear c28
                        obtain ⟨ji29, hji29⟩ : ∃ j_ : Int, (wrap64 (Int.tdiv (wrap64 ((Int.tmod (wrap64 (a1)) (wrap64 (8 * (t361.length : Int)))) + x41_2)) 8)) = j_ := ⟨_, rfl⟩
                        (try (have hji29_m28 := hji29; rw [hl7_2] at hji29_m28))
                        replace H : (if 0 ≤ (ji29) then (if (ji29) < (x7_2.length : Int) then (if 0 ≤ (Int.tmod (wrap64 ((Int.tmod (wrap64 (a1)) (wrap64 (8 * (t361.length : Int)))) + x41_2)) 8) then (tricklelaw43_FrameBurst.l0 k2 a2 (x7_2.set ((ji29) : Int).toNat (Go.bits .xor .u8 (rd x7_2 (ji29)) (shr .u8 128 (Int.tmod (wrap64 ((Int.tmod (wrap64 (a1)) (wrap64 (8 * (t361.length : Int)))) + x41_2)) 8)))) (wrap64 (8 * (t361.length : Int))) (Int.tmod (wrap64 (a1)) (wrap64 (8 * (t361.length : Int)))) true (wrap64 (x41_2 + 1))) else (none)) else (none)) else (none)) = some r := by first | (rw [hji29] at H; exact H) | (simp only [hji29] at H ⊢; exact H)
                        have hji29w : (IntKind.i64.wrap (Int.tdiv (wrap64 ((Int.tmod (wrap64 (a1)) (wrap64 (8 * (t361.length : Int)))) + x41_2)) 8)) = ji29 := (i64_w _).trans hji29
                        (try (have hji29w_m28 := hji29w; rw [hl7_2] at hji29w_m28))
                        by_cases c30 : 0 ≤ (ji29)
                        · rw [if_pos c30] at H
                          have c30b0 : decide (0 ≤ (ji29)) = true := decide_eq_true c30
                          clear c30
                          by_cases c31 : (ji29) < (x7_2.length : Int)
                          · rw [if_pos c31] at H
                            have c31b0 : decide ((ji29) < (x7_2.length : Int)) = true := decide_eq_true c31
                            clear c31
                            obtain ⟨ji32, hji32⟩ : ∃ j_ : Int, (Int.tmod (wrap64 ((Int.tmod (wrap64 (a1)) (wrap64 (8 * (t361.length : Int)))) + x41_2)) 8) = j_ := ⟨_, rfl⟩
                            (try (have hji32_m28 := hji32; rw [hl7_2] at hji32_m28))
                            replace H : (if 0 ≤ (ji32) then (tricklelaw43_FrameBurst.l0 k2 a2 (x7_2.set ((ji29) : Int).toNat (Go.bits .xor .u8 (rd x7_2 (ji29)) (shr .u8 128 (ji32)))) (wrap64 (8 * (t361.length : Int))) (Int.tmod (wrap64 (a1)) (wrap64 (8 * (t361.length : Int)))) true (wrap64 (x41_2 + 1))) else (none)) = some r := by first | (rw [hji32] at H; exact H) | (simp only [hji32] at H ⊢; exact H)
                            by_cases c33 : 0 ≤ (ji32)
                            · rw [if_pos c33] at H
                              have c33b0 := eq_true c33
                              have c33b1 : decide (0 ≤ (ji32)) = true := decide_eq_true c33
                              clear c33
                              obtain ⟨ji34, hji34⟩ : ∃ j_ : Int, (shr .u8 128 (ji32)) = j_ := ⟨_, rfl⟩
                              replace H : (tricklelaw43_FrameBurst.l0 k2 a2 (x7_2.set ((ji29) : Int).toNat (Go.bits .xor .u8 (rd x7_2 (ji29)) (ji34))) (wrap64 (8 * (t361.length : Int))) (Int.tmod (wrap64 (a1)) (wrap64 (8 * (t361.length : Int)))) true (wrap64 (x41_2 + 1))) = some r := by first | (rw [hji34] at H; exact H) | (simp only [hji34] at H ⊢; exact H)
                              have hji34_ : (128 / 2 ^ min (ji32).toNat 8) = ji34 := hji34
                              have hji34z : (ji32) ≤ 8 → (128 / 2 ^ (ji32).toNat) = ji34 := shr_small hji34
                              obtain ⟨y374, hy374⟩ : ∃ y_ : List Int, y_ = (x7_2.set ((ji29) : Int).toNat (Go.bits .xor .u8 (rd x7_2 (ji29)) (ji34))) := ⟨_, rfl⟩
                              replace H : (tricklelaw43_FrameBurst.l0 k2 a2 y374 (wrap64 (8 * (t361.length : Int))) (Int.tmod (wrap64 (a1)) (wrap64 (8 * (t361.length : Int)))) true (wrap64 (x41_2 + 1))) = some r := by first | (rw [hy374]; with_reducible exact H) | (have H2_ := (Option.bind_some _ _).symm.trans H; rw [hy374]; with_reducible exact H2_) | (have H2_ := (Option.bind_some _ _).symm.trans H; with_reducible exact H2_) | with_reducible exact H | (rw [hy374]; exact H) | exact H
                              have Ny374 := Aside0.mk hy374
                              clear hy374
                              have H' := Aside0.mk H
                              clear H
                              try go_wp2
                              have n0_ := Aside0.mk (Kd.R_drew HO_7.out)
                              have n1_ := Aside0.mk (blk_drew BK359.out)
                              have n2_ := Aside0.mk (below_drew1 HB.out)
                              clear HO_7
                              clear BK359
                              clear HB
                              have HO_7 := n0_
                              have BK359 := n1_
                              have HB := n2_
                              clear n0_ n1_ n2_
                              have p373 : 0 ≤ ((ji29) : Int) := of_decide_eq_true (by first | (with_reducible assumption) | assumption)
                              have q373 : (ji29) < (x7_2.length : Int) := of_decide_eq_true (by first | (with_reducible assumption) | assumption)
                              obtain ⟨ad373, e373, hx373_0⟩ := Kd.at_int (Kd.R_reads' HO_7.out).2.2 (ji29) p373 q373
                              cases e373
                              replace p373 := eq_true p373
                              replace q373 := eq_true q373
                              have p35 : 0 ≤ ((ji29) : Int) := of_decide_eq_true (by first | (with_reducible assumption) | assumption)
                              have q35 : ((ji29) : Int) < ((x7_2.length : Int) : Int) := of_decide_eq_true (by first | (with_reducible assumption) | assumption)
                              obtain ⟨go35, co35, eo35, gb35, gl35, cl35, HG35⟩ := Kd.R_form HO_7.out (by omega)
                              (first | cases eo35 | (injection eo35 with ea_ en_ ec_; (first | subst ea_ | (injection ea_ with ea_; subst ea_)); subst ec_; clear en_))
                              have GB35 := Aside0.mk gb35
                              have GG35 := Aside0.mk HG35
                              clear gb35 gl35 HG35
                              (first | simp only [add_plain] at hx373_0 | skip)
                              obtain ⟨hx35_0, hf35_0⟩ := Kd.R_celln 0 HO_7.out ((ji29) : Int) p35 q35
                              replace p35 := eq_true p35
                              replace q35 := eq_true q35
                              have HP37 := Kd.R_putn HO_7.out ((ji29) : Int) (Go.bits .xor .u8 (rd x7_2 (ji29)) (ji34))
                              rw [← Ny374.out] at HP37
                              have HQ37 := Aside0.mk HP37
                              clear HP37
                              refine start_ (n := 11) (S := fun w' => w'.cell? ⟨go35, ((ji29)).toNat, none⟩ = some (.int .u8 (rd x7_2 (ji29)))) (ds := [10]) #[false, false, false, false, false, false, false, false, false, false, false] (by kernel_rfl) rfl rfl (hx373_0) (fun hHeld => ?_); refine with_tabW tricklelaw43_FrameBurst.tab14 tricklelaw43_FrameBurst.bits14 (fun HT_ HW_ => ?_)
                              generalize wr.drew = w36 at HO_7 BK359 HB GG35 HQ37 hf35_0 hx35_0 hx373_0 hHeld ⊢
                              refine pure_ (i := 0) (N := some 57) (v := ?_) (a' := ?_) #[true, false, false, false, false, false, false, false, false, false, false] rfl rfl (any_of HT_.out (by kernel_rfl)) (fun _ _ _ h => h) (Or.inl ⟨by rfl, ?_⟩) ?_ ?_
                              rotate_left
                              · intro w'
                                go_simp
                                with_reducible rfl
                              rotate_left
                              · simp only [Act.put, List.setIfInBounds_toArray, List.set_cons_zero, List.set_cons_succ, i64_w, i32_w]
                                rfl
                              refine pure_ (i := 1) (N := some 58) (v := ?_) (a' := ?_) #[true, true, false, false, false, false, false, false, false, false, false] rfl rfl (any_of HT_.out (by kernel_rfl)) (fun _ _ _ h => h) (Or.inl ⟨by rfl, ?_⟩) ?_ ?_
                              rotate_left
                              · intro w'
                                go_simp
                                with_reducible rfl
                              rotate_left
                              · simp only [Act.put, List.setIfInBounds_toArray, List.set_cons_zero, List.set_cons_succ, i64_w, i32_w]
                                rfl
                              refine pure_ (i := 2) (N := some 59) (v := ?_) (a' := ?_) #[true, true, true, false, false, false, false, false, false, false, false] rfl rfl (any_of HT_.out (by kernel_rfl)) (fun _ _ _ h => h) (Or.inl ⟨by rfl, ?_⟩) ?_ ?_
                              rotate_left
                              · intro w'
                                go_simp
                                with_reducible rfl
                              rotate_left
                              · simp only [Act.put, List.setIfInBounds_toArray, List.set_cons_zero, List.set_cons_succ, i64_w, i32_w]
                                rfl
                              refine pure_ (i := 3) (N := some 60) (v := ?_) (a' := ?_) #[true, true, true, true, false, false, false, false, false, false, false] rfl rfl (any_of HT_.out (by kernel_rfl)) (fun _ _ _ h => h) (Or.inl ⟨by rfl, ?_⟩) ?_ ?_
                              rotate_left
                              · intro w'
                                go_simp
                                with_reducible rfl
                              rotate_left
                              · simp only [Act.put, List.setIfInBounds_toArray, List.set_cons_zero, List.set_cons_succ, i64_w, i32_w]
                                rfl
                              refine pure_ (i := 5) (N := some 62) (v := ?_) (a' := ?_) #[true, true, true, true, false, true, false, false, false, false, false] rfl rfl (any_of HT_.out (by kernel_rfl)) (fun _ _ _ h => h) (Or.inl ⟨by rfl, ?_⟩) ?_ ?_
                              rotate_left
                              · intro w'
                                go_simp
                                with_reducible rfl
                              rotate_left
                              · simp only [Act.put, List.setIfInBounds_toArray, List.set_cons_zero, List.set_cons_succ, i64_w, i32_w]
                                rfl
                              refine pure_ (i := 6) (N := some 63) (v := ?_) (a' := ?_) #[true, true, true, true, false, true, true, false, false, false, false] rfl rfl (any_of HT_.out (by kernel_rfl)) (fun _ _ _ h => h) (Or.inl ⟨by rfl, ?_⟩) ?_ ?_
                              rotate_left
                              · intro w'
                                go_simp
                                with_reducible rfl
                              rotate_left
                              · simp only [Act.put, List.setIfInBounds_toArray, List.set_cons_zero, List.set_cons_succ, i64_w, i32_w]
                                rfl
                              refine pure_ (i := 7) (N := some 64) (v := ?_) (a' := ?_) #[true, true, true, true, false, true, true, true, false, false, false] rfl rfl (any_of HT_.out (by kernel_rfl)) (fun _ _ _ h => h) (Or.inl ⟨by rfl, ?_⟩) ?_ ?_
                              rotate_left
                              · intro w'
                                go_simp
                                with_reducible rfl
                              rotate_left
                              · simp only [Act.put, List.setIfInBounds_toArray, List.set_cons_zero, List.set_cons_succ, i64_w, i32_w]
                                rfl
                              refine take_ (i := 4) (N := some 61) (v := ?_) (a' := ?_) #[true, true, true, true, true, true, true, true, false, false, false] rfl rfl (take_ofW HT_.out HW_.out (by kernel_rfl)) (fun _ _ _ h => h) (Or.inl ⟨by rfl, ?_⟩) hHeld ?_ ?_
                              rotate_left
                              · intro w' s0
                                go_simp
                                with_reducible rfl
                              rotate_left
                              · simp only [Act.put, List.setIfInBounds_toArray, List.set_cons_zero, List.set_cons_succ, i64_w, i32_w]
                                rfl
                              refine pure_ (i := 8) (N := some 65) (v := ?_) (a' := ?_) #[true, true, true, true, true, true, true, true, true, false, false] rfl rfl (any_of HT_.out (by kernel_rfl)) (fun _ _ _ h => h) (Or.inl ⟨by rfl, ?_⟩) ?_ ?_
                              rotate_left
                              · intro w'
                                go_simp
                                with_reducible rfl
                              rotate_left
                              · simp only [Act.put, List.setIfInBounds_toArray, List.set_cons_zero, List.set_cons_succ, i64_w, i32_w]
                                rfl
                              refine pure_ (i := 9) (N := some 66) (v := ?_) (a' := ?_) #[true, true, true, true, true, true, true, true, true, true, false] rfl rfl (any_of HT_.out (by kernel_rfl)) (fun _ _ _ h => h) (Or.inl ⟨by rfl, ?_⟩) ?_ ?_
                              rotate_left
                              · intro w'
                                go_simp
                                with_reducible rfl
                              rotate_left
                              · simp only [Act.put, List.setIfInBounds_toArray, List.set_cons_zero, List.set_cons_succ, i64_w, i32_w]
                                rfl
                              refine last_ (i := 10) (N := none) #[true, true, true, true, true, true, true, true, true, true, true] rfl rfl (one_of HT_.out (by kernel_rfl)) (by decide) (fun K hK => ?_)
                              refine skip_ (w1 := ?_) (by rfl) rfl ?_ ?_
                              rotate_left
                              · go_simp
                                rfl
                              refine hK.out _ _ ?_
                              clear hK K
                              refine done_ (done_of HT_.out (by kernel_rfl)) ?_
                              try go_wp2
                              (try simp only [← hl7_2])
                              go_roundg k2
                              case measure => have := HJ6.out; have := HK2.out; omega
                              case rel => exact ⟨(y374), (true), (wrap64 (x41_2 + 1)), (by first | rfl | (simp; done) | (simp [*]; done)), (by first | rfl | (simp; done) | (simp [*]; done)), H', ⟨by have := HJ6.out; have := HK2.out; omega⟩, ⟨by (try simp only [hl7_2]); (with_reducible repeat (first | apply Kd.R_alloc | apply Kd.R_drewN | apply Kd.R_drew)); exact HQ37.out⟩, ⟨by (try simp only [hl7_2]); (with_reducible repeat (first | refine blk_drewN ?_ _ | refine blk_drew ?_ | refine blk_alloc ?_ _)); refine blk_far ?_ (by have h_ := Kd.R_ne HO_7.out BK359.out (by decide); intro e_; exact h_ (by rw [e_]; rfl)) _; (with_reducible repeat (first | refine blk_drewN ?_ _ | refine blk_drew ?_ | refine blk_alloc ?_ _)); exact BK359.out⟩, ⟨by repeat (first | (with_reducible first | exact HB.out | apply below_alloc | apply pw_below_drewN | apply below_drew1 | refine below_set ?_ GB35.out | refine below_set ?_ GE359.out) | exact HB.out)⟩⟩
                            · rw [if_neg c33] at H
                              exact absurd H (by simp)
                          · rw [if_neg c31] at H
                            exact absurd H (by simp)
                        · rw [if_neg c30] at H
                          exact absurd H (by simp)
                      · rw [if_neg c28] at H
                        have c28b0 : ((Go.bits .and .u16 (ji27) 1) == 1) = false := beq_eq_false_iff_ne.mpr c28
                        have c28b1 : ((Go.bits .and .u16 (ji27) 1) != 1) = true := bne_iff_ne.mpr c28
                        have H' := Aside0.mk H
                        clear H
                        go_wp2
                        (try simp only [← hl7_2])
                        go_roundg k2
                        case measure => have := HJ6.out; have := HK2.out; omega
                        case rel => exact ⟨(x7_2), (x11_2), (wrap64 (x41_2 + 1)), (by first | rfl | (simp; done) | (simp [*]; done)), (by first | rfl | (simp; done) | (simp [*]; done)), H', ⟨by have := HJ6.out; have := HK2.out; omega⟩, ⟨by (try simp only [hl7_2]); (with_reducible repeat (first | apply Kd.R_alloc | apply Kd.R_drewN | apply Kd.R_drew)); exact HO_7.out⟩, ⟨by (try simp only [hl7_2]); (with_reducible repeat (first | refine blk_drewN ?_ _ | refine blk_drew ?_ | refine blk_alloc ?_ _)); exact BK359.out⟩, ⟨by repeat (first | (with_reducible first | exact HB.out | apply below_alloc | apply pw_below_drewN | apply below_drew1 | refine below_set ?_ GE359.out) | exact HB.out)⟩⟩
                    · rw [if_neg c26] at H
                      exact absurd H (by simp)
                  · rw [if_neg c25] at H
                    have c25b0 : decide ((wrap64 ((Int.tmod (wrap64 (a1)) (wrap64 (8 * (t361.length : Int)))) + x41_2)) < (wrap64 (8 * (t361.length : Int)))) = false := decide_eq_false c25
                    (try (have c25b0_m28 := c25b0; rw [hl7_2] at c25b0_m28))
                    clear c25
                    have H' := Aside0.mk H
                    clear H
                    go_wp2
                    (try simp only [← hl7_2])
                    go_roundg k2
                    case measure => have := HJ6.out; have := HK2.out; omega
                    case rel => exact ⟨(x7_2), (x11_2), (wrap64 (x41_2 + 1)), (by first | rfl | (simp; done) | (simp [*]; done)), (by first | rfl | (simp; done) | (simp [*]; done)), H', ⟨by have := HJ6.out; have := HK2.out; omega⟩, ⟨by (try simp only [hl7_2]); (with_reducible repeat (first | apply Kd.R_alloc | apply Kd.R_drewN | apply Kd.R_drew)); exact HO_7.out⟩, ⟨by (try simp only [hl7_2]); (with_reducible repeat (first | refine blk_drewN ?_ _ | refine blk_drew ?_ | refine blk_alloc ?_ _)); exact BK359.out⟩, ⟨by repeat (first | (with_reducible first | exact HB.out | apply below_alloc | apply pw_below_drewN | apply below_drew1 | refine below_set ?_ GE359.out) | exact HB.out)⟩⟩
                · rw [if_neg c24] at H
                  have c24b0 : decide (x41_2 < 16) = false := decide_eq_false c24
                  clear c24
                  replace H := Option.bind_eq_some_iff.mp H
                  obtain ⟨⟨t366, t367, t368, t371⟩, A380, H⟩ := H
                  replace H : (if x11_2 = true then (some (t371 == 4)) else (some true)) = some r := H
                  have A38 := Aside0.mk A380
                  clear A380
                  by_cases c39 : x11_2 = true
                  · subst c39
                    have H1 : (some (t371 == 4)) = some r := by rw [if_pos rfl] at H; exact H
                    clear H
                    have H := H1
                    clear H1
                    obtain rfl := Option.some.inj H
                    go_wp2_with (first | ((with_reducible refine gate_callee (f := 26) rfl ?_); refine goesL_ (some 70) rfl rfl Tryd.func26 (by kernel_rfl) rfl #[.slice Ao23 x7_2.length co23] rfl (by (try simp only [List.map_toArray, List.map_cons, List.map_nil]); first | done | rfl | (simp only [List.length_drop, List.length_take]; rfl)) ?_; (with_reducible refine (frame_Decode.calls k2 _ _ x7_2 t366 t367 t368 t371 _ ?side1 ?side2 A38.out).mono ?_); (case side1 => repeat (first | exact (Kd.R_reads' HO_7.out).2.2 | (with_reducible refine Kd.C_alloc ?_ _) | (with_reducible refine Kd.C_drewN ?_ _) | (with_reducible refine Kd.C_drew ?_))); (case side2 => exact (Kd.R_reads' HO_7.out).2.1); rintro e w40 ⟨v369, rfl, ho0, hb⟩; refine ⟨_, rfl, ?_⟩; have n0_ := Aside0.mk (Kd.R_elder' (by (with_reducible repeat (first | apply Kd.R_alloc | apply Kd.R_drewN | apply Kd.R_drew)); exact HO_7.out) (Kd.R_base ho0) hb); have n1_ := Aside0.mk (Kd.R_lower (Kd.R_new' ho0 (Kd.R_lt (by (with_reducible repeat (first | apply Kd.R_alloc | apply Kd.R_drewN | apply Kd.R_drew)); exact HO_7.out))) (below_size (by repeat (first | (with_reducible first | exact HB.out | apply below_alloc | apply pw_below_drewN | apply below_drew1 | refine below_set ?_ GE359.out) | exact HB.out)))); have n2_ := Aside0.mk (blk_below (g := gb359) (o := .cells #[.int .i64 a0_0, .int .i64 a0_1, .slice A0_2 l0_2.length c0_2] 29 (0, 0)) (by (with_reducible repeat (first | refine blk_drewN ?_ _ | refine blk_drew ?_ | refine blk_alloc ?_ _)); exact BK359.out) hb); have n3_ := Aside0.mk (below_step (by repeat (first | (with_reducible first | exact HB.out | apply below_alloc | apply pw_below_drewN | apply below_drew1 | refine below_set ?_ GE359.out) | exact HB.out)) hb); clear HO_7; clear BK359; clear HB; have HO_7 := n0_; have HO370 := n1_; have BK359 := n2_; have HB := n3_; clear n0_ n1_ n2_ n3_; (try clear hb); (try clear hb2); (try clear hk); (try clear hi); (try clear ho0)) | ((with_reducible refine gate_dst (N := 14) rfl ?_); refine box_event ?hg (N := 14) ?hd (cs := #[.int .i64 0, .int .i64 0, .slice none 0 0]) (t := 29) ?hr ?_; (case hd => rfl); (case hg => rfl); (case hr => first | (go_simp; done) | (go_simp; rfl)); intro gb372 hg w41 hbox hb; have n0_ := Aside0.mk (Kd.R_below (by (with_reducible repeat (first | apply Kd.R_alloc | apply Kd.R_drewN | apply Kd.R_drew)); exact HO_7.out) hb); have n1_ := Aside0.mk (Kd.R_below (by (with_reducible repeat (first | apply Kd.R_alloc | apply Kd.R_drewN | apply Kd.R_drew)); exact HO370.out) hb); have n2_ := Aside0.mk (blk_below (g := gb359) (o := .cells #[.int .i64 a0_0, .int .i64 a0_1, .slice A0_2 l0_2.length c0_2] 29 (0, 0)) (by (with_reducible repeat (first | refine blk_drewN ?_ _ | refine blk_drew ?_ | refine blk_alloc ?_ _)); exact BK359.out) hb); have n3_ := Aside0.mk (below_step (by repeat (first | (with_reducible first | exact HB.out | apply below_alloc | apply pw_below_drewN | apply below_drew1 | refine below_set ?_ GE359.out) | exact HB.out)) hb); have n4_ := Aside0.mk (hbox); have n5_ := Aside0.mk ((by rw [hg]; exact (below_size (by repeat (first | (with_reducible first | exact HB.out | apply below_alloc | apply pw_below_drewN | apply below_drew1 | refine below_set ?_ GE359.out) | exact HB.out))) : w.heap.size ≤ gb372)); have n6_ := Aside0.mk ((by rw [hg]; exact (below_size (by repeat (first | (with_reducible first | exact HB.out | apply below_alloc | apply pw_below_drewN | apply below_drew1 | refine below_set ?_ GE359.out) | exact HB.out))) : w.heap.size ≤ gb372)); have n7_ := Aside0.mk ((by rw [hg]; exact Nat.ne_of_lt (blk_lt (g := gb359) (o := .cells #[.int .i64 a0_0, .int .i64 a0_1, .slice A0_2 l0_2.length c0_2] 29 (0, 0)) (by (with_reducible repeat (first | refine blk_drewN ?_ _ | refine blk_drew ?_ | refine blk_alloc ?_ _)); exact BK359.out)) : gb359 ≠ gb372)); have n8_ := Aside0.mk ((by rw [hg]; exact Nat.ne_of_gt (blk_lt (g := gb359) (o := .cells #[.int .i64 a0_0, .int .i64 a0_1, .slice A0_2 l0_2.length c0_2] 29 (0, 0)) (by (with_reducible repeat (first | refine blk_drewN ?_ _ | refine blk_drew ?_ | refine blk_alloc ?_ _)); exact BK359.out)) : gb372 ≠ gb359)); clear HO_7; clear HO370; clear BK359; clear HB; have HO_7 := n0_; have HO370 := n1_; have BK359 := n2_; have HB := n3_; have BK372 := n4_; have GW372 := n5_; have GE372 := n6_; have NB359_372 := n7_; have NB372_359 := n8_; clear n0_ n1_ n2_ n3_ n4_ n5_ n6_ n7_ n8_; clear hb hbox hg; have hnb42 := NB372_359.out; have hnc42 := NB359_372.out; have hcz43_0 : w41.cell? ⟨gb372, 0, none⟩ = some (.int .i64 0) := (blk_cell BK372.out 0).trans rfl; have hcz43_1 : w41.cell? ⟨gb372, 1, none⟩ = some (.int .i64 0) := (blk_cell BK372.out 1).trans rfl; have hcz43_2 : w41.cell? ⟨gb372, 2, none⟩ = some (.slice none 0 0) := (blk_cell BK372.out 2).trans rfl; have hfz43_0 := blk_frozen BK372.out 0; have hfz43_1 := blk_frozen BK372.out 1; have hfz43_2 := blk_frozen BK372.out 2; obtain ⟨Ao44, co44, eo44⟩ := Kd.R_slice HO370.out; subst eo44))
                    go_ret
                    exact ⟨by first | rfl | (simp [errW_none, errW_some] <;> rfl) | (simp [*, errW_none, errW_some] <;> rfl), by repeat (first | (with_reducible first | exact HB.out | apply below_alloc | apply pw_below_drewN | apply below_drew1 | refine below_set ?_ GE359.out | refine below_set ?_ GE372.out) | exact HB.out)⟩
                  · replace c39 := Bool.eq_false_iff.mpr c39
                    subst c39
                    have H1 : (some true) = some r := by rw [if_neg (show ¬ (false = true) by decide)] at H; exact H
                    clear H
                    have H := H1
                    clear H1
                    obtain rfl := Option.some.inj H
                    go_wp2_with (first | ((with_reducible refine gate_callee (f := 26) rfl ?_); refine goesL_ (some 70) rfl rfl Tryd.func26 (by kernel_rfl) rfl #[.slice Ao23 x7_2.length co23] rfl (by (try simp only [List.map_toArray, List.map_cons, List.map_nil]); first | done | rfl | (simp only [List.length_drop, List.length_take]; rfl)) ?_; (with_reducible refine (frame_Decode.calls k2 _ _ x7_2 t366 t367 t368 t371 _ ?side1 ?side2 A38.out).mono ?_); (case side1 => repeat (first | exact (Kd.R_reads' HO_7.out).2.2 | (with_reducible refine Kd.C_alloc ?_ _) | (with_reducible refine Kd.C_drewN ?_ _) | (with_reducible refine Kd.C_drew ?_))); (case side2 => exact (Kd.R_reads' HO_7.out).2.1); rintro e w45 ⟨v369, rfl, ho0, hb⟩; refine ⟨_, rfl, ?_⟩; have n0_ := Aside0.mk (Kd.R_elder' (by (with_reducible repeat (first | apply Kd.R_alloc | apply Kd.R_drewN | apply Kd.R_drew)); exact HO_7.out) (Kd.R_base ho0) hb); have n1_ := Aside0.mk (Kd.R_lower (Kd.R_new' ho0 (Kd.R_lt (by (with_reducible repeat (first | apply Kd.R_alloc | apply Kd.R_drewN | apply Kd.R_drew)); exact HO_7.out))) (below_size (by repeat (first | (with_reducible first | exact HB.out | apply below_alloc | apply pw_below_drewN | apply below_drew1 | refine below_set ?_ GE359.out) | exact HB.out)))); have n2_ := Aside0.mk (blk_below (g := gb359) (o := .cells #[.int .i64 a0_0, .int .i64 a0_1, .slice A0_2 l0_2.length c0_2] 29 (0, 0)) (by (with_reducible repeat (first | refine blk_drewN ?_ _ | refine blk_drew ?_ | refine blk_alloc ?_ _)); exact BK359.out) hb); have n3_ := Aside0.mk (below_step (by repeat (first | (with_reducible first | exact HB.out | apply below_alloc | apply pw_below_drewN | apply below_drew1 | refine below_set ?_ GE359.out) | exact HB.out)) hb); clear HO_7; clear BK359; clear HB; have HO_7 := n0_; have HO370 := n1_; have BK359 := n2_; have HB := n3_; clear n0_ n1_ n2_ n3_; (try clear hb); (try clear hb2); (try clear hk); (try clear hi); (try clear ho0)) | ((with_reducible refine gate_dst (N := 14) rfl ?_); refine box_event ?hg (N := 14) ?hd (cs := #[.int .i64 0, .int .i64 0, .slice none 0 0]) (t := 29) ?hr ?_; (case hd => rfl); (case hg => rfl); (case hr => first | (go_simp; done) | (go_simp; rfl)); intro gb372 hg w46 hbox hb; have n0_ := Aside0.mk (Kd.R_below (by (with_reducible repeat (first | apply Kd.R_alloc | apply Kd.R_drewN | apply Kd.R_drew)); exact HO_7.out) hb); have n1_ := Aside0.mk (Kd.R_below (by (with_reducible repeat (first | apply Kd.R_alloc | apply Kd.R_drewN | apply Kd.R_drew)); exact HO370.out) hb); have n2_ := Aside0.mk (blk_below (g := gb359) (o := .cells #[.int .i64 a0_0, .int .i64 a0_1, .slice A0_2 l0_2.length c0_2] 29 (0, 0)) (by (with_reducible repeat (first | refine blk_drewN ?_ _ | refine blk_drew ?_ | refine blk_alloc ?_ _)); exact BK359.out) hb); have n3_ := Aside0.mk (below_step (by repeat (first | (with_reducible first | exact HB.out | apply below_alloc | apply pw_below_drewN | apply below_drew1 | refine below_set ?_ GE359.out) | exact HB.out)) hb); have n4_ := Aside0.mk (hbox); have n5_ := Aside0.mk ((by rw [hg]; exact (below_size (by repeat (first | (with_reducible first | exact HB.out | apply below_alloc | apply pw_below_drewN | apply below_drew1 | refine below_set ?_ GE359.out) | exact HB.out))) : w.heap.size ≤ gb372)); have n6_ := Aside0.mk ((by rw [hg]; exact (below_size (by repeat (first | (with_reducible first | exact HB.out | apply below_alloc | apply pw_below_drewN | apply below_drew1 | refine below_set ?_ GE359.out) | exact HB.out))) : w.heap.size ≤ gb372)); have n7_ := Aside0.mk ((by rw [hg]; exact Nat.ne_of_lt (blk_lt (g := gb359) (o := .cells #[.int .i64 a0_0, .int .i64 a0_1, .slice A0_2 l0_2.length c0_2] 29 (0, 0)) (by (with_reducible repeat (first | refine blk_drewN ?_ _ | refine blk_drew ?_ | refine blk_alloc ?_ _)); exact BK359.out)) : gb359 ≠ gb372)); have n8_ := Aside0.mk ((by rw [hg]; exact Nat.ne_of_gt (blk_lt (g := gb359) (o := .cells #[.int .i64 a0_0, .int .i64 a0_1, .slice A0_2 l0_2.length c0_2] 29 (0, 0)) (by (with_reducible repeat (first | refine blk_drewN ?_ _ | refine blk_drew ?_ | refine blk_alloc ?_ _)); exact BK359.out)) : gb372 ≠ gb359)); clear HO_7; clear HO370; clear BK359; clear HB; have HO_7 := n0_; have HO370 := n1_; have BK359 := n2_; have HB := n3_; have BK372 := n4_; have GW372 := n5_; have GE372 := n6_; have NB359_372 := n7_; have NB372_359 := n8_; clear n0_ n1_ n2_ n3_ n4_ n5_ n6_ n7_ n8_; clear hb hbox hg; have hnb47 := NB372_359.out; have hnc47 := NB359_372.out; have hcz48_0 : w46.cell? ⟨gb372, 0, none⟩ = some (.int .i64 0) := (blk_cell BK372.out 0).trans rfl; have hcz48_1 : w46.cell? ⟨gb372, 1, none⟩ = some (.int .i64 0) := (blk_cell BK372.out 1).trans rfl; have hcz48_2 : w46.cell? ⟨gb372, 2, none⟩ = some (.slice none 0 0) := (blk_cell BK372.out 2).trans rfl; have hfz48_0 := blk_frozen BK372.out 0; have hfz48_1 := blk_frozen BK372.out 1; have hfz48_2 := blk_frozen BK372.out 2; obtain ⟨Ao49, co49, eo49⟩ := Kd.R_slice HO370.out; subst eo49))
                    go_ret
                    exact ⟨by first | rfl | (simp [errW_none, errW_some] <;> rfl) | (simp [*, errW_none, errW_some] <;> rfl), by repeat (first | (with_reducible first | exact HB.out | apply below_alloc | apply pw_below_drewN | apply below_drew1 | refine below_set ?_ GE359.out | refine below_set ?_ GE372.out) | exact HB.out)⟩
  · replace c5 := Bool.eq_false_iff.mpr c5
    subst c5
    have H1 : (some false) = some r := by rw [if_neg (show ¬ (false = true) by decide)] at H; exact H
    clear H
    have H := H1
    clear H1
    obtain rfl := Option.some.inj H
    go_enter Tryd.func6, Tryd.ntmps6
    go_wp2_with (first | ((with_reducible refine gate_dst (N := 3) rfl ?_); refine box_event ?hg (N := 3) ?hd (cs := #[.int .i64 a0_0, .int .i64 a0_1, .slice A0_2 l0_2.length c0_2]) (t := 29) ?hr ?_; (case hd => rfl); (case hg => rfl); (case hr => first | (go_simp; done) | (go_simp; rfl)); intro gb359 hg w50 hbox hb; have n0_ := Aside0.mk (below_step (by repeat (first | (with_reducible first | exact HB.out | apply below_alloc | apply pw_below_drewN | apply below_drew1) | exact HB.out)) hb); have n1_ := Aside0.mk (hbox); have n2_ := Aside0.mk ((by rw [hg]; exact (below_size (by repeat (first | (with_reducible first | exact HB.out | apply below_alloc | apply pw_below_drewN | apply below_drew1) | exact HB.out))) : w.heap.size ≤ gb359)); have n3_ := Aside0.mk ((by rw [hg]; exact (below_size (by repeat (first | (with_reducible first | exact HB.out | apply below_alloc | apply pw_below_drewN | apply below_drew1) | exact HB.out))) : w.heap.size ≤ gb359)); clear HB; have HB := n0_; have BK359 := n1_; have GW359 := n2_; have GE359 := n3_; clear n0_ n1_ n2_ n3_; clear hb hbox hg) | ((with_reducible refine gate_callee (f := 11) rfl ?_); refine goesL_ (some 16) rfl rfl Tryd.func11 (by kernel_rfl) rfl #[] rfl (by (try simp only [List.map_toArray, List.map_cons, List.map_nil]); first | done | rfl | (simp only [List.length_drop, List.length_take]; rfl)) ?_; (with_reducible refine (tricklelaw43_wakes.calls k  false _ ?side1 A4.out).mono ?_); (case side1 => refine GW.below HG.out ?_; repeat (first | (with_reducible first | exact HB.out | apply below_alloc | apply pw_below_drewN | apply below_drew1 | refine below_set ?_ GE359.out) | exact HB.out)); rintro e w51 ⟨rfl, hb⟩; refine ⟨_, rfl, ?_⟩; have n0_ := Aside0.mk (blk_below (g := gb359) (o := .cells #[.int .i64 a0_0, .int .i64 a0_1, .slice A0_2 l0_2.length c0_2] 29 (0, 0)) (by (with_reducible repeat (first | refine blk_drewN ?_ _ | refine blk_drew ?_ | refine blk_alloc ?_ _)); exact BK359.out) hb); have n1_ := Aside0.mk (below_step (by repeat (first | (with_reducible first | exact HB.out | apply below_alloc | apply pw_below_drewN | apply below_drew1 | refine below_set ?_ GE359.out) | exact HB.out)) hb); clear BK359; clear HB; have BK359 := n0_; have HB := n1_; clear n0_ n1_; (try clear hb); (try clear hb2); (try clear hk); (try clear hi)))
    go_ret
    exact ⟨by first | rfl | (simp [errW_none, errW_some] <;> rfl) | (simp [*, errW_none, errW_some] <;> rfl), by repeat (first | (with_reducible first | exact HB.out | apply below_alloc | apply pw_below_drewN | apply below_drew1 | refine below_set ?_ GE359.out) | exact HB.out)⟩

end Go.Proofs.YtfhnpphceeoeeaaDoor.PX
/- FrameBurst in plain words: a burst of at most 16 bits leaves something in the register of the checksum. -/
namespace Go.Proofs.YtfhnpphceeoeeaaDoor.PX
open Go.RowKit Go.Proofs.YtfhnpphceeoeeaaDoorW.PrintWords Go.Proofs.YtfhnpphceeoeeaaDoorW.PrintLast Go.Proofs.YtfhnpphceeoeeaaDoorW.PrintMore
set_option linter.unusedVariables false
set_option linter.unusedSimpArgs false
theorem and_one (x : Int) (h0 : 0 ≤ x) (h1 : x < 65536) : Go.bits .and .u16 x 1 = x % 2 := by
  obtain ⟨X, rfl⟩ := Int.eq_ofNat_of_zero_le h0
  show IntKind.u16.wrap (((BitVec.ofInt 16 (X : Int)) &&& (BitVec.ofInt 16 ((1 : Nat) : Int))).toNat : Int) = _
  rw [BitVec.ofInt_natCast, BitVec.ofInt_natCast, BitVec.toNat_and, BitVec.toNat_ofNat, BitVec.toNat_ofNat, Nat.mod_eq_of_lt (show X < 2 ^ 16 by omega), Nat.mod_eq_of_lt (show 1 < 2 ^ 16 by omega), Nat.and_one_is_mod, wrap_u16]
  omega
theorem mask_bit (a : Int) (h0 : 0 ≤ a) (h1 : a ≤ 65535) (i : Nat) (hi : i < 16) : (Go.bits .and .u16 (shr .u16 a (i : Int)) 1 = 1) ↔ mbit a i = true := by
  have hsh : shr .u16 a (i : Int) = a / 2 ^ i := by
    unfold shr
    rw [Int.toNat_natCast, Nat.min_eq_left (by show i ≤ 16; omega)]
  have hp : (0 : Int) < 2 ^ i := Int.pow_pos (by decide)
  have hd0 : 0 ≤ a / 2 ^ i := Int.ediv_nonneg h0 (by omega)
  have hd1 : a / 2 ^ i ≤ a := Int.ediv_le_self _ h0
  rw [hsh, and_one _ hd0 (by omega)]
  unfold mbit
  rw [decide_eq_true_eq]
/-- What the loop knows: the register of the turned bytes, and whether a bit was turned. -/
structure BI (a2 : Int) (N st : Nat) (i : Nat) (x : List Int) (ch : Bool) : Prop where
  bytes : Bytes x
  reg : crc x = fN (N - st - min i (N - st)) (burst a2 (min i (N - st)))
  ch : ch = true → ∃ t, t < min i (N - st) ∧ mbit a2 t = true
theorem decode_bad (x : List Int) (h7 : 7 ≤ x.length) (hc : ¬ crcOK x = true) : decR x = (0, 0, [], 4) := by
  unfold decR
  rw [if_neg (by omega), if_neg hc]
theorem burst_loop (a2 : Int) (h0 : 0 ≤ a2) (h1 : a2 ≤ 65535) (n st : Nat) (hn : 7 ≤ n ∧ n ≤ 1000) (hs : st < 8 * n) : ∀ (d i : Nat) (x : List Int) (ch : Bool), i + d = 16 → x.length = n → BI a2 (8 * n) st i x ch →
    Ev (fun k => tricklelaw43_FrameBurst.l0 k a2 x ((8 * n : Nat) : Int) (st : Int) ch (i : Int)) true
  | 0, i, x, ch, hi, hx, hB => by
    refine Ev.step (fun k => by rw [tricklelaw43_FrameBurst.l0]) ?_
    refine Ev.neg (show ¬ ((i : Int) < 16) by omega) (Ev.bind (decode_ev x hB.bytes (by omega)) ?_)
    cases ch with
    | false => exact Ev.neg (by decide) (Ev.now _)
    | true =>
      obtain ⟨t, ht, hm⟩ := hB.ch rfl
      have hne : crc x ≠ 0#16 := by
        rw [hB.reg]
        intro e
        exact burst_ne a2 _ t (by omega) ht hm (fN_inj _ _ e)
      rw [decode_bad x (by omega) (fun hc => hne (crcOK_zero x hB.bytes (by omega) hc))]
      exact Ev.pos rfl (Ev.now _)
  | d + 1, i, x, ch, hi, hx, hB => by
    have hw : wrap64 ((st : Int) + (i : Int)) = ((st + i : Nat) : Int) := by rw [wrap_id (by omega) (by omega)]; omega
    have hwi : wrap64 ((i : Int) + 1) = ((i + 1 : Nat) : Int) := by rw [wrap_id (by omega) (by omega)]; omega
    refine Ev.step (fun k => by rw [tricklelaw43_FrameBurst.l0]) ?_
    refine Ev.pos (show (i : Int) < 16 by omega) ?_
    rw [hw, hwi]
    by_cases hin : st + i < 8 * n
    case neg =>
      refine Ev.neg (by omega) (burst_loop a2 h0 h1 n st hn hs d (i + 1) x ch (by omega) hx ⟨hB.bytes, ?_, fun h => ?_⟩)
      · rw [show min (i + 1) (8 * n - st) = min i (8 * n - st) by omega]; exact hB.reg
      · rw [show min (i + 1) (8 * n - st) = min i (8 * n - st) by omega]; exact hB.ch h
    refine Ev.pos (by omega) (Ev.pos (by omega) ?_)
    have hm1 : min (i + 1) (8 * n - st) = i + 1 := by omega
    have hm0 : min i (8 * n - st) = i := by omega
    have hreg := hB.reg
    rw [hm0] at hreg
    have hmb := mask_bit a2 h0 h1 i (by omega)
    by_cases hb : mbit a2 i = true
    case neg =>
      refine Ev.neg (fun e => hb (hmb.mp e)) (burst_loop a2 h0 h1 n st hn hs d (i + 1) x ch (by omega) hx ⟨hB.bytes, ?_, fun h => ?_⟩)
      · rw [hm1, hreg, burst, if_neg hb, BitVec.xor_zero, show 8 * n - st - i = (8 * n - st - (i + 1)) + 1 by omega, fN]
      · obtain ⟨t, ht, hmt⟩ := hB.ch h
        exact ⟨t, by omega, hmt⟩
    refine Ev.pos (hmb.mpr hb) ?_
    have hq : wrap64 (Int.tdiv ((st + i : Nat) : Int) 8) = (((st + i) / 8 : Nat) : Int) := by
      rw [Int.tdiv_eq_ediv_of_nonneg (by omega), wrap_id (by omega) (by omega)]; omega
    have hr : Int.tmod ((st + i : Nat) : Int) 8 = (((st + i) % 8 : Nat) : Int) := by
      rw [Int.tmod_eq_emod_of_nonneg (by omega)]; omega
    have hj : (st + i) / 8 < x.length := by omega
    have h8 : (st + i) % 8 < 8 := Nat.mod_lt _ (by omega)
    have hsh : shr .u8 128 (((st + i) % 8 : Nat) : Int) = 128 / 2 ^ ((st + i) % 8) := by
      unfold shr
      rw [Int.toNat_natCast, Nat.min_eq_left (by show _ ≤ 8; omega)]
    rw [hq, hr, hsh, Int.toNat_natCast, rd_nat x _ hj]
    refine Ev.pos (by omega) (Ev.pos (by omega) (Ev.pos (by omega) ?_))
    refine burst_loop a2 h0 h1 n st hn hs d (i + 1) _ true (by omega) (by rw [List.length_set]; exact hx) ⟨flip_bytes x hB.bytes _ hj _ h8, ?_, fun _ => ⟨i, by omega, hb⟩⟩
    have hf := crcS_flip x hB.bytes _ hj _ h8 0xffff#16
    unfold crc at hreg ⊢
    rw [hm1, hf, hreg, hx, show 8 * n - (8 * ((st + i) / 8) + (st + i) % 8) = 8 * n - st - i by omega, ← fN_lin, burst, if_pos hb, show 8 * n - st - i = (8 * n - st - (i + 1)) + 1 by omega, fN]
theorem burst_j0 (a1 a2 : Int) (h0 : 0 ≤ a1) (h1 : a1 ≤ 65535) (g0 : 0 ≤ a2) (g1 : a2 ≤ 65535) (x : List Int) (hb : Bytes x) (hc : crcOK x = true) (h7 : 7 ≤ x.length) (hl : x.length ≤ 1000) : Ev (fun k => tricklelaw43_FrameBurst.j0 k a1 a2 x false) true := by
  have hw : wrap64 (8 * (x.length : Int)) = ((8 * x.length : Nat) : Int) := by rw [wrap_id (by omega) (by omega)]; omega
  have ht : Int.tmod (wrap64 a1) ((8 * x.length : Nat) : Int) = ((a1.toNat % (8 * x.length) : Nat) : Int) := by
    rw [wrap_id (by omega) (by omega), Int.tmod_eq_emod_of_nonneg h0, Int.natCast_emod, Int.toNat_of_nonneg h0]
  refine Ev.step (fun k => by rw [tricklelaw43_FrameBurst.j0]) ?_
  refine Ev.neg (by decide) ?_
  rw [hw, ht]
  refine Ev.neg (by omega) ?_
  refine burst_loop a2 g0 g1 x.length _ ⟨h7, hl⟩ (Nat.mod_lt _ (by omega)) 16 0 x false (by omega) rfl ⟨hb, ?_, fun h => by cases h⟩
  rw [crcOK_zero x hb (by omega) hc, Nat.zero_min, burst, fN_zero]
end Go.Proofs.YtfhnpphceeoeeaaDoor.PX
namespace Go.Proofs.YtfhnpphceeoeeaaDoor.Pure
open Go.RowKit Go.Proofs.YtfhnpphceeoeeaaDoor.PX Go.Proofs.YtfhnpphceeoeeaaDoorW.PrintWords Go.Proofs.YtfhnpphceeoeeaaDoorW.PrintLast
set_option linter.unusedVariables false
theorem FrameBurst (k s : Int) (b : List Int) (a1 a2 : Int) (hb : ∀ x ∈ b, 0 ≤ x ∧ x ≤ 255) (h1 : 0 ≤ a1 ∧ a1 ≤ 65535) (h2 : 0 ≤ a2 ∧ a2 ≤ 65535) : ∃ n, tricklelaw43_FrameBurst.f n k s b a1 a2 = some true := by
  have yes : ∀ x, Ev (fun n => tricklelaw43_FrameBurst.j0 n a1 a2 x true) true := fun x => Ev.step (fun n => by rw [tricklelaw43_FrameBurst.j0]) (Ev.pos rfl (Ev.now _))
  refine Ev.rounds (Ev.congr (fun n => by rw [tricklelaw43_FrameBurst.f]) (Ev.bind wakes43 (Ev.pos rfl ?_)))
  refine Ev.bind (encode_ev k s b hb) (Ev.const (a := decide ((b.length : Int) ≤ 100)) rfl ?_)
  by_cases hl : (b.length : Int) ≤ 100
  case neg => exact Ev.neg (by rw [decide_eq_true_eq]; exact hl) (yes _)
  refine Ev.pos (decide_eq_true hl) ?_
  unfold encR
  by_cases hv : validB k s b = true
  case neg =>
    rw [if_neg hv]
    exact Ev.neg (by decide) (yes _)
  rw [if_pos hv]
  refine Ev.pos rfl ?_
  by_cases hz : a2 = 0
  · rw [show (a2 == 0) = true from beq_iff_eq.mpr hz]
    exact yes _
  · rw [show (a2 == 0) = false from beq_eq_false_iff_ne.mpr hz]
    have hlen := enc_length k s b
    have hok : crcOK (enc k s b) = true := by
      have hd := decode_enc k s b hb hv
      unfold decR at hd
      rw [if_neg (by omega)] at hd
      by_cases hc : crcOK (enc k s b) = true
      · exact hc
      · rw [if_neg hc] at hd
        simp only [Prod.mk.injEq] at hd
        omega
    show Ev (fun n => tricklelaw43_FrameBurst.j0 n a1 a2 (enc k s b) false) true
    exact burst_j0 a1 a2 h1.1 h1.2 h2.1 h2.2 (enc k s b) (enc_bytes k s b hb) hok (by omega) (by omega)
end Go.Proofs.YtfhnpphceeoeeaaDoor.Pure
