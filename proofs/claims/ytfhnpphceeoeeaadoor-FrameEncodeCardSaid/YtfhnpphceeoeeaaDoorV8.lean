/- Parts of the proof, merged in build order: PureFrameEncode. -/
import Derived.Test.YtfhnpphceeoeeaaDoorV5
import Derived.Test.YtfhnpphceeoeeaaDoorV7
/- FrameEncode in plain words: what the reference writes of a frame is what Format writes; Encode and its reverse. -/
namespace Go.Proofs.YtfhnpphceeoeeaaDoor.PX
open Go.RowKit Go.Proofs.YtfhnpphceeoeeaaDoorW.PrintWords Go.Proofs.YtfhnpphceeoeeaaDoorW.PrintLast Go.Proofs.YtfhnpphceeoeeaaDoorW.PrintMore
set_option linter.unusedVariables false
set_option linter.unusedSimpArgs false
theorem ba_eq {a b : ByteArray} (h : a.data.toList = b.data.toList) : a = b := ByteArray.ext (Array.ext' h)
theorem ba_app (a b : ByteArray) : (a ++ b).data.toList = a.data.toList ++ b.data.toList := by rw [ByteArray.data_append, Array.toList_append]
def bs (l : List UInt8) : ByteArray := ⟨l.toArray⟩
theorem bs_app (a b : List UInt8) : bs a ++ bs b = bs (a ++ b) := ba_eq (by rw [ba_app]; rfl)
theorem bs_size (a : List UInt8) : (bs a).size = a.length := rfl
theorem dec_len : ∀ (f u : Nat), u < f → (Lib.decDigits u).length ≤ u + 1
  | 0, u, h => by omega
  | f + 1, u, h => by
    rw [Lib.decDigits]
    split
    · simp
    · have := dec_len f (u / 10) (by omega)
      rw [List.length_append, List.length_singleton]
      omega
theorem one_digit (n : Nat) (h : n < 10) : strOfNums ([(wrap64 (48 + (n : Int))) % 256] : List Int) = bs [UInt8.ofNat (48 + n)] := by
  rw [wrap_id (by omega) (by omega)]
  have e : (48 + (n : Int)) % 256 = ((48 + n : Nat) : Int) := by omega
  rw [e]
  rfl
theorem num_ev : ∀ (f n : Nat), n < f → n ≤ 2147483647 → Ev (fun k => trickleref11_Num.f k (n : Int)) (bs (Lib.decDigits n))
  | 0, n, h, _ => by omega
  | f + 1, n, h, hn => by
    refine Ev.step (fun k => by rw [trickleref11_Num.f]) ?_
    refine Ev.neg (by omega) ?_
    rw [Lib.decDigits]
    by_cases h10 : n < 10
    · rw [dif_pos h10]
      refine Ev.pos (by omega) ?_
      rw [one_digit n h10]
      exact Ev.now _
    · rw [dif_neg h10]
      have e1 : wrap64 (Int.tdiv (n : Int) 10) = ((n / 10 : Nat) : Int) := by
        rw [Int.tdiv_eq_ediv_of_nonneg (by omega), wrap_id (by omega) (by omega)]; omega
      have e2 : Int.tmod (n : Int) 10 = ((n % 10 : Nat) : Int) := by
        rw [Int.tmod_eq_emod_of_nonneg (by omega)]; omega
      refine Ev.neg (by omega) ?_
      rw [e1, e2]
      refine Ev.bind (num_ev f (n / 10) (by omega) (by omega)) (Ev.someb ?_)
      rw [one_digit (n % 10) (by omega), bs_size, bs_size, bs_app]
      have hl := dec_len (n / 10 + 1) (n / 10) (by omega)
      refine Ev.pos ?_ (Ev.now _)
      show _ + 1 ≤ _
      omega
theorem dig : ∀ d : Fin 16, (⟨#[48, 49, 50, 51, 52, 53, 54, 55, 56, 57, 97, 98, 99, 100, 101, 102]⟩ : ByteArray).extract d.val (d.val + 1) = bs [UInt8.ofNat (bt dgT (d.val : Int)).toNat] := by decide +kernel
theorem dig_at (d : Int) (h0 : 0 ≤ d) (h1 : d < 16) : (⟨#[48, 49, 50, 51, 52, 53, 54, 55, 56, 57, 97, 98, 99, 100, 101, 102]⟩ : ByteArray).extract (d : Int).toNat ((wrap64 (d + 1)) : Int).toNat = bs [UInt8.ofNat (bt dgT d).toNat] := by
  obtain ⟨n, rfl⟩ := Int.eq_ofNat_of_zero_le h0
  rw [wrap_id (by omega) (by omega), Int.toNat_natCast, show ((n : Int) + 1).toNat = n + 1 by omega]
  exact dig ⟨n, by omega⟩
theorem hex_loop (a0 a1 : Int) (l : List Int) (hb : Bytes l) (hn : l.length ≤ 1000) (D : ByteArray) (hD : D = (⟨#[48, 49, 50, 51, 52, 53, 54, 55, 56, 57, 97, 98, 99, 100, 101, 102]⟩ : ByteArray)) : ∀ (d j : Nat) (acc : List UInt8), j + d = l.length → acc.length ≤ 100 + 2 * j →
    Ev (fun k => trickleref43_Format.l0 k (bs acc) D (j : Int) a0 a1 l) (bs (acc ++ hexL (l.drop j)))
  | 0, j, acc, hj, ha => by
    refine Ev.step (fun k => by rw [trickleref43_Format.l0]) ?_
    refine Ev.neg (by omega) ?_
    rw [List.drop_of_length_le (by omega), hexL, List.append_nil]
    exact Ev.now _
  | d + 1, j, acc, hj, ha => by
    have hjl : j < l.length := by omega
    obtain ⟨x, hx⟩ : ∃ x, x = l[j] := ⟨_, rfl⟩
    have hx0 := hb x (hx ▸ List.getElem_mem hjl)
    have e0 : wrap64 (rd l (j : Int)) = x := by rw [rd_nat l j hjl, ← hx, wrap_id (by omega) (by omega)]
    have e1 : wrap64 (Int.tdiv x 16) = x / 16 := by
      rw [Int.tdiv_eq_ediv_of_nonneg (by omega), wrap_id (by omega) (by omega)]
    have e2 : Int.tmod x 16 = x % 16 := Int.tmod_eq_emod_of_nonneg (by omega)
    have e3 : wrap64 ((j : Int) + 1) = ((j + 1 : Nat) : Int) := wrap_nat hjl (by omega)
    have e4 : D.extract (x / 16 : Int).toNat ((wrap64 (x / 16 + 1)) : Int).toNat = bs [UInt8.ofNat (bt dgT (x / 16)).toNat] := by rw [hD]; exact dig_at (x / 16) (by omega) (by omega)
    have e5 : D.extract (x % 16 : Int).toNat ((wrap64 (x % 16 + 1)) : Int).toNat = bs [UInt8.ofNat (bt dgT (x % 16)).toNat] := by rw [hD]; exact dig_at (x % 16) (by omega) (by omega)
    have w1 : wrap64 (x / 16 + 1) = x / 16 + 1 := wrap_id (by omega) (by omega)
    have w2 : wrap64 (x % 16 + 1) = x % 16 + 1 := wrap_id (by omega) (by omega)
    have z : (D.size : Int) = 16 := by rw [hD]; rfl
    refine Ev.step (fun k => by rw [trickleref43_Format.l0]) ?_
    rw [e0, e1, e2, e3, e4, e5, bs_app, bs_app, z, w1, w2, bs_size, bs_size, bs_size, bs_size]
    clear e0 e1 e2 e3 e4 e5 w1 w2 z
    refine Ev.pos (show (j : Int) < (l.length : Int) by omega) ?_
    refine Ev.pos (show 0 ≤ (j : Int) by omega) ?_
    refine Ev.pos (show 0 ≤ x / 16 by omega) ?_
    refine Ev.pos (show x / 16 ≤ x / 16 + 1 by omega) ?_
    refine Ev.pos (show x / 16 + 1 ≤ 16 by omega) ?_
    refine Ev.pos (by simp only [List.length_singleton]; omega) (Ev.pos (by omega) (Ev.pos (by omega) (Ev.pos (by omega) ?_)))
    refine Ev.pos (by simp only [List.length_append, List.length_singleton]; omega) ?_
    refine Ev.cast (hex_loop a0 a1 l hb hn D hD d (j + 1) _ (by omega) (by simp only [List.length_append, List.length_singleton]; omega)) ?_
    rw [List.drop_eq_getElem_cons hjl, ← hx, hexL, hexB]
    simp only [List.append_assoc, List.cons_append, List.nil_append]
theorem hex_j0 (a0 a1 : Int) (l : List Int) (hb : Bytes l) (hn : l.length ≤ 1000) (acc : List UInt8) (ha : acc.length ≤ 100) : Ev (fun k => trickleref43_Format.j0 k (bs acc) a0 a1 l) (bs (acc ++ hexL l)) := by
  refine Ev.step (fun k => by rw [trickleref43_Format.j0]) ?_
  have h := hex_loop a0 a1 l hb hn _ rfl l.length 0 acc (by omega) (by omega)
  rw [List.drop_zero] at h
  exact h
def kinds43 : List ByteArray := [(⟨#[]⟩ : ByteArray), (⟨#[100, 97, 116, 97]⟩ : ByteArray), (⟨#[97, 99, 107]⟩ : ByteArray), (⟨#[111, 102, 102, 101, 114]⟩ : ByteArray), (⟨#[99, 104, 117, 110, 107]⟩ : ByteArray), (⟨#[119, 97, 110, 116]⟩ : ByteArray), (⟨#[114, 117, 110, 110, 105, 110, 103]⟩ : ByteArray)]
theorem kind_at : ∀ d : Fin 6, rdOf ByteArray.empty kinds43 ((d.val : Int) + 1) = bs (rdOf ByteArray.empty nmL (d.val : Int)).data.toList ∧ (rdOf ByteArray.empty nmL (d.val : Int)).data.toList.length ≤ 10 := by decide +kernel
def fmtR (a0 a1 : Int) (l : List Int) : ByteArray := if validB a0 a1 l = true then bs (fmtL a0 a1 l) else (⟨#[105, 110, 118, 97, 108, 105, 100]⟩ : ByteArray)
theorem format_f (a0 a1 : Int) (l : List Int) (hb : Bytes l) : frame_Format.f a0 a1 l = some (fmtR a0 a1 l) := by
  have h : bytesB l = true := by
    unfold bytesB
    rw [List.all_eq_true]
    intro x hx
    rw [Bool.and_eq_true, decide_eq_true_eq, decide_eq_true_eq]
    exact hb x hx
  unfold frame_Format.f fmtR
  rw [if_pos h, valid_ev, Option.bind_some]
  by_cases hv : validB a0 a1 l = true
  · rw [if_pos hv, if_pos hv]; rfl
  · rw [if_neg hv, if_neg hv]
theorem rformat_ev (a0 a1 : Int) (l : List Int) (hb : Bytes l) : Ev (fun k => trickleref43_Format.f k a0 a1 l) (fmtR a0 a1 l) := by
  refine Ev.congr (fun k => by rw [trickleref43_Format.f]) (Ev.const (rvalid_ev a0 a1 l) ?_)
  unfold fmtR
  by_cases hv : validB a0 a1 l = true
  case neg => rw [if_neg hv]; exact Ev.neg hv (Ev.now _)
  rw [if_pos hv]
  obtain ⟨h1, h6, hs0, hs1, hl⟩ := (validB_iff a0 a1 l).mp hv
  refine Ev.pos hv (Ev.someb ?_)
  obtain ⟨n, hn⟩ : ∃ n : Nat, a0 - 1 = n := Int.eq_ofNat_of_zero_le (by omega)
  obtain ⟨m, hm⟩ : ∃ m : Nat, a1 = m := Int.eq_ofNat_of_zero_le (by omega)
  have hk := kind_at ⟨n, by omega⟩
  rw [show ((n : Nat) : Int) + 1 = a0 by omega] at hk
  obtain ⟨hk1, hk2⟩ := hk
  subst hm
  have hd := dec_len (m + 1) m (by omega)
  have sp : (⟨#[32]⟩ : ByteArray) = bs [32] := rfl
  have hi : Lib.itoa (m : Int) = Lib.decDigits m := by unfold Lib.itoa; rw [if_neg (by omega), Int.toNat_natCast]
  have hz : (Lib.decDigits m).length ≤ 21 := by
    have h := itoa_size (m : Int) (by omega) (by omega) (bs (Lib.itoa (m : Int))) rfl
    rw [bs_size, hi] at h
    exact h
  refine Ev.pos (by omega) (Ev.pos (show a0 < ((7 : Nat) : Int) by omega) ?_)
  show Ev (fun k => if (rdOf ByteArray.empty kinds43 a0).size + 1 ≤ 9223372036854775807 then (trickleref11_Num.f k (m : Int)).bind fun t264 => (if ((rdOf ByteArray.empty kinds43 a0) ++ (⟨#[32]⟩ : ByteArray)).size + t264.size ≤ 9223372036854775807 then (if (l.length : Int) > 0 then (if (((rdOf ByteArray.empty kinds43 a0) ++ (⟨#[32]⟩ : ByteArray)) ++ t264).size + 1 ≤ 9223372036854775807 then (trickleref43_Format.j0 k ((((rdOf ByteArray.empty kinds43 a0) ++ (⟨#[32]⟩ : ByteArray)) ++ t264) ++ (⟨#[32]⟩ : ByteArray)) a0 (m : Int) l) else none) else (trickleref43_Format.j0 k (((rdOf ByteArray.empty kinds43 a0) ++ (⟨#[32]⟩ : ByteArray)) ++ t264) a0 (m : Int) l)) else none) else none) _
  rw [hk1, sp]
  unfold fmtL bodyL
  rw [hn, hi]
  generalize (rdOf ByteArray.empty nmL (n : Int)).data.toList = K at *
  refine Ev.pos (by rw [bs_size]; omega) (Ev.bind (num_ev (m + 1) m (by omega) (by omega)) ?_)
  rw [bs_app, bs_app, bs_size, bs_size, bs_size]
  have z1 : (K ++ [(32 : UInt8)]).length = K.length + 1 := by simp
  refine Ev.pos (by rw [z1]; omega) ?_
  cases l with
  | nil =>
    refine Ev.neg (by simp) (Ev.cast (hex_j0 a0 (m : Int) [] hb (by simp) _ (by rw [List.length_append, z1]; omega)) ?_)
    rw [hexL, if_pos rfl, List.append_nil, List.append_nil, List.append_assoc]
    rfl
  | cons x r =>
    refine Ev.pos (by simp only [List.length_cons]; omega) (Ev.pos (by rw [List.length_append, z1]; omega) ?_)
    rw [bs_app]
    refine Ev.cast (hex_j0 a0 (m : Int) (x :: r) hb (by omega) _ (by rw [List.length_append, List.length_append, z1, List.length_singleton]; omega)) ?_
    rw [if_neg (by simp)]
    simp only [List.append_assoc, List.cons_append, List.nil_append]
end Go.Proofs.YtfhnpphceeoeeaaDoor.PX
namespace Go.Proofs.YtfhnpphceeoeeaaDoor.Pure
open Go.RowKit Go.Proofs.YtfhnpphceeoeeaaDoor.PX Go.Proofs.YtfhnpphceeoeeaaDoorW.PrintWords Go.Proofs.YtfhnpphceeoeeaaDoorW.PrintLast
set_option linter.unusedVariables false
theorem FrameEncode (k s : Int) (b : List Int) (hb : ∀ x ∈ b, 0 ≤ x ∧ x ≤ 255) : ∃ n, tricklelaw43_FrameEncode.f n k s b = some true := by
  refine Ev.rounds (Ev.congr (fun n => by rw [tricklelaw43_FrameEncode.f]) (Ev.bind wakes43 (Ev.pos rfl ?_)))
  refine Ev.const (a := decide ((b.length : Int) ≤ 100)) rfl ?_
  by_cases hl : (b.length : Int) ≤ 100
  case neg => exact Ev.neg (by rw [decide_eq_true_eq]; exact hl) (Ev.now _)
  refine Ev.pos (decide_eq_true hl) (Ev.bind (encode_ev k s b hb) (Ev.bind (rencode_ev k s b hb) (Ev.const (valid_ev k s b) (Ev.const (rvalid_ev k s b) ?_))))
  refine Ev.neg (by rw [bne_self_eq_false]; decide) ?_
  refine Ev.pos rfl ?_
  refine Ev.pos rfl ?_
  refine Ev.const (format_f k s b hb) (Ev.bind (rformat_ev k s b hb) ?_)
  rw [bne_self_eq_false]
  unfold encR
  by_cases hv : validB k s b = true
  · rw [if_pos hv]
    have hlen := enc_length k s b
    have hd := decode_ev (enc k s b) (enc_bytes k s b hb) (by omega)
    rw [decode_enc k s b hb hv] at hd
    refine Ev.step (fun n => by rw [tricklelaw43_FrameEncode.j0]) ?_
    refine Ev.neg (by decide) ?_
    refine Ev.bind hd ?_
    refine Ev.pos rfl ?_
    refine Ev.pos rfl ?_
    exact Ev.const (equal_self _ _ _) (Ev.now _)
  · rw [if_neg hv]
    refine Ev.step (fun n => by rw [tricklelaw43_FrameEncode.j0]) ?_
    refine Ev.neg (by decide) ?_
    refine Ev.bind (decode_ev [] (by intro x hx; cases hx) (by simp)) ?_
    exact Ev.neg (show ¬ (1 : Int) = 0 by decide) (Ev.now _)
end Go.Proofs.YtfhnpphceeoeeaaDoor.Pure
