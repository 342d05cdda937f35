/- strings.IndexByte, lexer.Keywords and lexer.Punctuation: what they compute, and that their calls compute it. -/
import Derived.Test.YtmpbkemicfmbaaaDoorZPXx0
import Derived.Test.YtmpbkemicfmbaaaDoorZShelf
namespace Go.Proofs.YtmpbkemicfmbaaaDoor.PX
open Go.RowKit Go.Proofs.YtmpbkemicfmbaaaDoorW.PrintWords Go.Proofs.YtmpbkemicfmbaaaDoorW.PrintLast Go.Proofs.YtmpbkemicfmbaaaDoorW.PrintMore
set_option linter.unusedVariables false
set_option linter.unusedSimpArgs false
def strings_IndexByte.f (a0 : ByteArray) (a1 : Int) : Option Int := some (Lib.indexByte a0.data.toList a1.toNat.toUInt8)
theorem strings_IndexByte.calls (a0 : ByteArray) (a1 : Int) (r : Int) (w : World) (h : strings_IndexByte.f a0 a1 = some r) :
    Calls Tryd.prog 39 #[.string a0, .int .u8 a1] w fun e w' => e = .returned (.int .i64 r) ∧ Drawn0 w w' := by
  obtain rfl := Option.some.inj h
  refine (Tryd.strings_IndexByte a0 a1 w).mono ?_
  rintro e w1 ⟨rfl, rfl⟩
  exact ⟨rfl, Drawn0.refl _⟩
def fieldsB (s : ByteArray) : List ByteArray := (Lib.fields s.data.toList).map fun l => ⟨l.toArray⟩
theorem reps_strings {w : World} {base : Nat} {ok : Nat → Prop} (xs : List ByteArray) : Reps (Kd.M Kd.string w base ok) 1 xs (xs.map Value.string) := by
  refine ⟨by simp, fun j p hp => ?_⟩
  have hj : j < xs.length := (List.getElem?_eq_some_iff.mp hp).1
  have : ((xs.map Value.string).drop (j * 1)).take 1 = [Value.string p] := by
    rw [Nat.mul_one, List.drop_eq_getElem_cons (by simpa using hj)]
    simp [(List.getElem?_eq_some_iff.mp hp).2]
  rw [this]
  exact rfl
theorem row_strings (w : World) (xs : List ByteArray) (hm : xs.length ≤ 1000000) : Kd.R Kd.string 9 (w.alloc (.cells (xs.map Value.string).toArray 9)) w.heap.size (fun _ => True) (.slice (some ⟨w.heap.size, 0, none⟩) xs.length xs.length) xs := by
  refine ⟨fun _ _ => trivial, xs.map Value.string, ?_, reps_strings xs⟩
  have h2 := World.ownsRow_lit (base := w.heap.size) (e := 9) (size := 1) w (xs.map Value.string).toArray xs.length (Nat.le_refl _) (by simp [maxLen]; omega) (by simp)
  have h3 : (w.alloc (.cells (xs.map Value.string).toArray 9)).ownsRow w.heap.size 9 1 (.slice (some ⟨w.heap.size, 0, none⟩) xs.length xs.length) xs.length (xs.map Value.string) := by simpa using h2
  exact h3
theorem fieldsB_vals (s : ByteArray) : (Lib.fields s.data.toList).map (fun l => Value.string ⟨l.toArray⟩) = (fieldsB s).map Value.string := by
  unfold fieldsB
  rw [List.map_map]
  rfl
/-- The texts of a call of strings.Fields on an ASCII text. -/
theorem fields_calls (s : ByteArray) (w : World) (hs : s.size < 1000) (ha : s.data.toList.all (fun b => decide (b.toNat < 128)) = true) (hl : (fieldsB s).length ≤ 1000) (hG : GW w) :
    Calls Tryd.prog 34 #[.string s] w fun e w' => ∃ v0_ : Value, e = .returned v0_ ∧ Kd.R Kd.string 9 w' w.heap.size (fun _ => True) v0_ (fieldsB s) ∧ Below w.heap.size w w' := by
  refine (Tryd.strings_Fields s w (by omega) (fun j b hb => by simpa using List.all_eq_true.mp ha b (List.mem_of_getElem? hb)) hG.tab).mono ?_
  rintro e w1 ⟨rfl, rfl⟩
  have hn : (Lib.fields s.data.toList).length = (fieldsB s).length := by unfold fieldsB; rw [List.length_map]
  refine ⟨_, rfl, ?_, below_alloc (Below.refl _ _) _⟩
  rw [fieldsB_vals, hn]
  exact row_strings w (fieldsB s) (by omega)
def kwT : ByteArray := ⟨#[99, 104, 97, 110, 110, 101, 108, 32, 99, 104, 101, 99, 107, 112, 111, 105, 110, 116, 32, 99, 111, 110, 115, 116, 32, 100, 101, 97, 100, 108, 105, 110, 101, 32, 101, 108, 115, 101, 32, 101, 109, 105, 116, 32, 101, 118, 101, 114, 121, 32, 102, 114, 101, 115, 104, 32, 105, 102, 32, 108, 101, 116, 32, 111, 110, 32, 111, 117, 116, 112, 117, 116, 32, 114, 101, 97, 100, 32, 114, 101, 112, 101, 97, 116, 32, 114, 101, 116, 117, 114, 110, 32, 115, 101, 110, 100, 32, 115, 101, 110, 115, 111, 114, 32, 116, 97, 115, 107, 32, 116, 111, 103, 101, 116, 104, 101, 114, 32, 118, 97, 114, 32, 119, 104, 105, 108, 101, 32, 119, 105, 116, 104, 105, 110]⟩
def puT : ByteArray := ⟨#[33, 32, 33, 61, 32, 37, 32, 38, 38, 32, 40, 32, 41, 32, 42, 32, 43, 32, 44, 32, 45, 32, 47, 32, 59, 32, 60, 32, 60, 61, 32, 61, 32, 61, 61, 32, 62, 32, 62, 61, 32, 91, 32, 93, 32, 123, 32, 124, 124, 32, 125]⟩
def kwL : List ByteArray := [(⟨#[99, 104, 97, 110, 110, 101, 108]⟩ : ByteArray), (⟨#[99, 104, 101, 99, 107, 112, 111, 105, 110, 116]⟩ : ByteArray), (⟨#[99, 111, 110, 115, 116]⟩ : ByteArray), (⟨#[100, 101, 97, 100, 108, 105, 110, 101]⟩ : ByteArray), (⟨#[101, 108, 115, 101]⟩ : ByteArray), (⟨#[101, 109, 105, 116]⟩ : ByteArray), (⟨#[101, 118, 101, 114, 121]⟩ : ByteArray), (⟨#[102, 114, 101, 115, 104]⟩ : ByteArray), (⟨#[105, 102]⟩ : ByteArray), (⟨#[108, 101, 116]⟩ : ByteArray), (⟨#[111, 110]⟩ : ByteArray), (⟨#[111, 117, 116, 112, 117, 116]⟩ : ByteArray), (⟨#[114, 101, 97, 100]⟩ : ByteArray), (⟨#[114, 101, 112, 101, 97, 116]⟩ : ByteArray), (⟨#[114, 101, 116, 117, 114, 110]⟩ : ByteArray), (⟨#[115, 101, 110, 100]⟩ : ByteArray), (⟨#[115, 101, 110, 115, 111, 114]⟩ : ByteArray), (⟨#[116, 97, 115, 107]⟩ : ByteArray), (⟨#[116, 111, 103, 101, 116, 104, 101, 114]⟩ : ByteArray), (⟨#[118, 97, 114]⟩ : ByteArray), (⟨#[119, 104, 105, 108, 101]⟩ : ByteArray), (⟨#[119, 105, 116, 104, 105, 110]⟩ : ByteArray)]
def puL : List ByteArray := [(⟨#[33]⟩ : ByteArray), (⟨#[33, 61]⟩ : ByteArray), (⟨#[37]⟩ : ByteArray), (⟨#[38, 38]⟩ : ByteArray), (⟨#[40]⟩ : ByteArray), (⟨#[41]⟩ : ByteArray), (⟨#[42]⟩ : ByteArray), (⟨#[43]⟩ : ByteArray), (⟨#[44]⟩ : ByteArray), (⟨#[45]⟩ : ByteArray), (⟨#[47]⟩ : ByteArray), (⟨#[59]⟩ : ByteArray), (⟨#[60]⟩ : ByteArray), (⟨#[60, 61]⟩ : ByteArray), (⟨#[61]⟩ : ByteArray), (⟨#[61, 61]⟩ : ByteArray), (⟨#[62]⟩ : ByteArray), (⟨#[62, 61]⟩ : ByteArray), (⟨#[91]⟩ : ByteArray), (⟨#[93]⟩ : ByteArray), (⟨#[123]⟩ : ByteArray), (⟨#[124, 124]⟩ : ByteArray), (⟨#[125]⟩ : ByteArray)]
theorem kw_fields : fieldsB kwT = kwL := by kernel_rfl
theorem pu_fields : fieldsB puT = puL := by kernel_rfl
def lexer_Keywords.f : Option (List ByteArray) := some kwL
def lexer_Punctuation.f : Option (List ByteArray) := some puL
theorem lexer_Keywords.calls (r : List ByteArray) (w : World) (hG : GW w) (h : lexer_Keywords.f = some r) :
    Calls Tryd.prog 18 #[] w fun e w' => ∃ v0_ : Value, e = .returned (v0_) ∧ Kd.R Kd.string 9 w' w.heap.size (fun _ => True) v0_ r ∧ Below w.heap.size w w' := by
  obtain rfl := Option.some.inj h
  have HG := Aside0.mk hG
  clear hG h
  go_enter Tryd.func18, Tryd.ntmps18
  go_wp2_with (first | (go_at_call 34; (refine (fields_calls kwT _ (of_decide_eq_true (by kernel_rfl)) (by kernel_rfl) (by rw [kw_fields]; decide) HG.out).mono ?_; rintro e w1 ⟨v0, rfl, hr, hb⟩; rw [kw_fields] at hr)))
  go_ret
  exact ⟨_, rfl, hr, hb⟩
theorem lexer_Punctuation.calls (r : List ByteArray) (w : World) (hG : GW w) (h : lexer_Punctuation.f = some r) :
    Calls Tryd.prog 19 #[] w fun e w' => ∃ v0_ : Value, e = .returned (v0_) ∧ Kd.R Kd.string 9 w' w.heap.size (fun _ => True) v0_ r ∧ Below w.heap.size w w' := by
  obtain rfl := Option.some.inj h
  have HG := Aside0.mk hG
  clear hG h
  go_enter Tryd.func19, Tryd.ntmps19
  go_wp2_with (first | (go_at_call 34; (refine (fields_calls puT _ (of_decide_eq_true (by kernel_rfl)) (by kernel_rfl) (by rw [pu_fields]; decide) HG.out).mono ?_; rintro e w1 ⟨v0, rfl, hr, hb⟩; rw [pu_fields] at hr)))
  go_ret
  exact ⟨_, rfl, hr, hb⟩
end Go.Proofs.YtmpbkemicfmbaaaDoor.PX
