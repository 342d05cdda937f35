/- Parts of the proof, merged in build order: MNew, MRun, MWakP, MWak, PXx18, PXx19. -/
import Derived.Test.YteonloecenodbaaB6
import Derived.Test.YteonloecenodbaaB7
import Derived.Test.YteonloecenodbaaB0
import Derived.Test.YteonloecenodbaaB1
/- Programs as they lie; a new machine; consume on a machine. -/
namespace Go.Proofs.Yteonloecenodbaa.PX
open Go.RowKit Go.Shelf Go.Proofs.YteonloecenodbaaW.PrintWords Go.Proofs.YteonloecenodbaaW.PrintLast Go.Proofs.YteonloecenodbaaW.PrintMore
set_option linter.unusedVariables false
/-- A program's rows as they lie. -/
structure PL where
  A0 : Option Addr
  A1 : Option Addr
  A2 : Option Addr
  A3 : Option Addr
  A4 : Option Addr
  A5 : Option Addr
  c0 : Nat
  c1 : Nat
  c2 : Nat
  c3 : Nat
  c4 : Nat
  c5 : Nat
def PL.v (a : PL) (E : Env) : PV := ⟨.slice a.A0 E.l0.length a.c0, .slice a.A1 E.l1.length a.c1, .slice a.A2 E.l2.length a.c2, .slice a.A3 E.l3.length a.c3, .slice a.A4 E.l4.length a.c4, .slice a.A5 E.l5.length a.c5⟩
structure PF (w : World) (a : PL) (E : Env) : Prop where
  h0 : Kd.C k144 w a.A0 E.l0.length E.l0
  n0 : E.l0.length ≤ a.c0
  h1 : Kd.C k85 w a.A1 E.l1.length E.l1
  n1 : E.l1.length ≤ a.c1
  h2 : Kd.C Kd.string w a.A2 E.l2.length E.l2
  n2 : E.l2.length ≤ a.c2
  h3 : Kd.C Kd.string w a.A3 E.l3.length E.l3
  n3 : E.l3.length ≤ a.c3
  h4 : Kd.C k131 w a.A4 E.l4.length E.l4
  n4 : E.l4.length ≤ a.c4
  h5 : Kd.C k61 w a.A5 E.l5.length E.l5
  n5 : E.l5.length ≤ a.c5
theorem PF.up {w w1 : World} {a : PL} {E : Env} (h : PF w a E) (hB : Below w.heap.size w w1) : PF w1 a E :=
  ⟨Kd.C_below h.h0 hB, h.n0, Kd.C_below h.h1 hB, h.n1, Kd.C_below h.h2 hB, h.n2, Kd.C_below h.h3 hB, h.n3, Kd.C_below h.h4 hB, h.n4, Kd.C_below h.h5 hB, h.n5⟩
/-- The declarations. -/
structure DS (E : Env) : Prop where
  f : ∃ k, check_declarations.f k E.l0 E.l1 E.l2 E.l3 E.l4 E.l5 = some E.ds
  len : E.ds.length ≤ 100000
  sz : ∀ x ∈ bk E.ds E.ds.length, x.2.f0.size ≤ maxLen
theorem PF.pc {w : World} {a : PL} {E : Env} (h : PF w a E) (hd : DS E) : PC w (a.v E) E where
  dec W hW := by
    obtain ⟨k, hk⟩ := hd.f
    have h1 := h.up hW
    exact check_declarations.calls k a.A0 a.c0 E.l0 a.A1 a.c1 E.l1 a.A2 a.c2 E.l2 a.A3 a.c3 E.l3 a.A4 a.c4 E.l4 a.A5 a.c5 E.l5 E.ds W h1.h0 h1.n0 h1.h1 h1.n1 h1.h2 h1.n2 h1.h3 h1.n3 h1.h4 h1.n4 h1.h5 h1.n5 hk
  len := hd.len
  sz := hd.sz
  c0 := ⟨_, _, rfl, h.h0⟩
  c4 := ⟨_, _, rfl, h.h4⟩
theorem consume_mac {w0 W : World} {a : PL} {E : Env} {AR : Option Addr} {cR b : Nat} {V : VV} {M : St} (hF : PF w0 a E) (hO : Ok w0 (a.v E) E AR cR W b V M) (task : Nat) (ht : task < E.l5.length) {cl' : List (List Int)} (hv : consE E M.channels task = some cl') :
    Calls Try.prog 50 #[.agg #[(a.v E).v0, (a.v E).v1, (a.v E).v2, (a.v E).v3, (a.v E).v4, (a.v E).v5], .int .i64 (task : Int), .pointer (some ⟨b, 6, none⟩)] W fun e W' => e = .returned (.tuple #[]) ∧ ∃ cs1, Ok w0 (a.v E) E AR cR W' b { V with cs := cs1 } { M with channels := cl' } ∧ Step W W' b V { V with cs := cs1 } := by
  refine (consume_calls hO.P hO.B rfl hF.h5 b 6 (hO.m.cell 7 rfl) hO.m.C hO.m.cr task ht hv).mono ?_
  rintro e W' ⟨rfl, W1, hB1, ⟨rfl, rfl⟩ | ⟨i, s, s1, ad, c, hC, hs, rfl, rfl, hq, hb⟩⟩
  · exact ⟨rfl, V.cs, hO.up hB1, Step.of_below hB1 b V⟩
  · have hO1 := hO.up hB1
    obtain ⟨hM, hS, _, hbb⟩ := hO1.m.put_chan hs hC hq (grown_of_below (Below.refl W1.heap.size W1) _) (.inl hb)
    exact ⟨rfl, _, hO1.next hM (hO1.B.setCell (p := ad.add i) hbb _) hO1.len rfl, (Step.of_below hB1 b V).trans hS⟩
def St0 (gl cl : List (List Int)) (ls : List (ByteArray × Int)) (left : Int) : St := ⟨gl, cl, [], [], 0, 0, [], ls, left⟩
/-- A new machine. -/
theorem mac_new {W : World} {n0 n1 : Nat} {p : PV} {G C R : Value} {gs cs : List Sl} {gl cl : List (List Int)} (h : Two W n1 G C gs cs gl cl) (hn : n0 ≤ n1) (hn1 : n1 ≤ W.heap.size) (left : Int) (tm tl : Nat) (ex : List Value)
    (tt : tm ≠ 29 ∧ tm ≠ 33 ∧ tm ≠ 110 ∧ tm ≠ 3 ∧ tm ≠ tl ∧ tl ≠ 29 ∧ tl ≠ 33 ∧ tl ≠ 110 ∧ tl ≠ 3) :
    Mac tm tl p ex (W.alloc (.cells (mcells p ⟨G, C, .slice none 0 0, .slice none 0 0, .slice none 0 0, R, .slice none 0 0, gs, cs⟩ (St0 gl cl [] left) ex).toArray tm)) n0 W.heap.size ⟨G, C, .slice none 0 0, .slice none 0 0, .slice none 0 0, R, .slice none 0 0, gs, cs⟩ (St0 gl cl [] left) ∧
      ∀ k, k < n1 → ¬ Foot W.heap.size ⟨G, C, .slice none 0 0, .slice none 0 0, .slice none 0 0, R, .slice none 0 0, gs, cs⟩ k := by
  have h1 := h.below (below_alloc (Below.refl W.heap.size W) (.cells (mcells p ⟨G, C, .slice none 0 0, .slice none 0 0, .slice none 0 0, R, .slice none 0 0, gs, cs⟩ (St0 gl cl [] left) ex).toArray tm))
  have lo : ∀ {α : Type} {d : Kd α} {e : Nat} {W : World} {v : Value} {xs : List α}, QQ d e W n1 v xs → QQ d e W n0 v xs := fun hq => ⟨hq.E, Kd.Q_lower hq.q hn⟩
  refine ⟨⟨tt, World.alloc_heap_new W _, Nat.le_trans hn hn1, lo h1.qG, lo h1.qC, ⟨h1.gr.len, fun i s xs e1 e2 => lo (h1.gr.row i s xs e1 e2)⟩, ⟨h1.cr.len, fun i s xs e1 e2 => lo (h1.cr.row i s xs e1 e2)⟩, QQ.nil _ rfl _ _ _, QQ.nil _ rfl _ _ _, QQ.nil _ rfl _ _ _, QQ.nil _ rfl _ _ _, h1.a33, ?_⟩, fun k hk hf => ?_⟩
  · exact List.pairwise_cons.2 ⟨fun u _ k hk => by simp [Value.ownBlock] at hk, h1.a29⟩
  · rcases hf.o with rfl | hk' | hk' | hk' | hk' | hk' | hk' | ⟨s, hs, hk'⟩
    · omega
    · have := h.qG.base k hk'; omega
    · have := h.qC.base k hk'; omega
    · simp [Value.ownBlock] at hk'
    · simp [Value.ownBlock] at hk'
    · simp [Value.ownBlock] at hk'
    · simp [Value.ownBlock] at hk'
    · have := (h.row_lt (List.mem_map_of_mem hs) k hk').1; omega
end Go.Proofs.Yteonloecenodbaa.PX
/- interp.Run (gen_run.py). -/
namespace Go.Proofs.Yteonloecenodbaa.PX
open Go.RowKit Go.Shelf Go.Proofs.YteonloecenodbaaW.PrintWords Go.Proofs.YteonloecenodbaaW.PrintLast Go.Proofs.YteonloecenodbaaW.PrintMore
set_option linter.unusedVariables false
/-- What Run computes, where the call is valid. -/
def runE (E : Env) (k : Nat) (task : Nat) (msg : Int) (gl cl : List (List Int)) (limit : Int) : Option (Int × St) :=
  (consE E cl task).bind fun cl' =>
    scopeE (stmtE E k) (E.l5.getD task z61).f6 (St0 gl cl' (if (E.l5.getD task z61).f4.toList = [] then [] else [((E.l5.getD task z61).f4, msg)]) limit)
/-- A result as it lies. -/
def ResAt (W : World) (n0 : Nat) (v : Value) (M : St) : Prop :=
  ∃ G C Em O S gs cs, v = .agg #[G, C, Em, O, .int .i64 M.dropped, .int .i64 M.used, S] ∧ Two W n0 G C gs cs M.globals M.channels ∧ QQ kI 29 W n0 Em M.emitted ∧ QQ k110 110 W n0 O M.outputs ∧ QQ kN 3 W n0 S M.sensors
def zeroSt : St := ⟨[], [], [], [], 0, 0, [], [], 0⟩
def RunPost (w : World) (g : Int) (M : St) (e : Ending) (w' : World) : Prop :=
  ∃ v, e = .returned (.tuple #[v, .int .i64 (if g = 2 then 12 else 0)]) ∧ ResAt w' w.heap.size v (if g = 2 then zeroSt else M) ∧ Below w.heap.size w w'
/-- Seven stores into one block. -/
def sets7 (W : World) (g : Nat) (y0 y1 y2 y3 y4 y5 y6 : Value) : World := ((((((W.setCell ⟨g, 0, none⟩ y0).setCell ⟨g, 1, none⟩ y1).setCell ⟨g, 2, none⟩ y2).setCell ⟨g, 3, none⟩ y3).setCell ⟨g, 4, none⟩ y4).setCell ⟨g, 5, none⟩ y5).setCell ⟨g, 6, none⟩ y6
theorem sets7_blk {W : World} {g t : Nat} {x0 x1 x2 x3 x4 x5 x6 : Value} (h : W.heap[g]? = some (.cells #[x0, x1, x2, x3, x4, x5, x6] t (0, 0))) (y0 y1 y2 y3 y4 y5 y6 : Value) : (sets7 W g y0 y1 y2 y3 y4 y5 y6).heap[g]? = some (.cells #[y0, y1, y2, y3, y4, y5, y6] t (0, 0)) :=
  (blk_set (blk_set (blk_set (blk_set (blk_set (blk_set (blk_set h 0 y0) 1 y1) 2 y2) 3 y3) 4 y4) 5 y5) 6 y6).trans (by simp)
theorem sets7_far {W : World} {g : Nat} (y0 y1 y2 y3 y4 y5 y6 : Value) (k : Nat) (hk : k ≠ g) : (sets7 W g y0 y1 y2 y3 y4 y5 y6).heap[k]? = W.heap[k]? := by
  unfold sets7
  rw [Below.heap_setCell _ ⟨g, 6, none⟩ _ k hk, Below.heap_setCell _ ⟨g, 5, none⟩ _ k hk, Below.heap_setCell _ ⟨g, 4, none⟩ _ k hk, Below.heap_setCell _ ⟨g, 3, none⟩ _ k hk, Below.heap_setCell _ ⟨g, 2, none⟩ _ k hk, Below.heap_setCell _ ⟨g, 1, none⟩ _ k hk, Below.heap_setCell _ ⟨g, 0, none⟩ _ k hk]
theorem sets7_below {n : Nat} {w W : World} {g : Nat} (h : Below n w W) (hg : n ≤ g) (y0 y1 y2 y3 y4 y5 y6 : Value) : Below n w (sets7 W g y0 y1 y2 y3 y4 y5 y6) :=
  ((((((h.setCell (p := ⟨g, 0, none⟩) hg y0).setCell (p := ⟨g, 1, none⟩) hg y1).setCell (p := ⟨g, 2, none⟩) hg y2).setCell (p := ⟨g, 3, none⟩) hg y3).setCell (p := ⟨g, 4, none⟩) hg y4).setCell (p := ⟨g, 5, none⟩) hg y5).setCell (p := ⟨g, 6, none⟩) hg y6
/-- A machine's result, where a block that is none of its rows has been written. -/
theorem res_of_mac {W W1 : World} {n0 b g : Nat} {p : PV} {V : VV} {M : St} (h : Mac 103 115 p [] W n0 b V M) (hf : ∀ k, k ≠ g → W1.heap[k]? = W.heap[k]?) (hng : ¬ Foot b V g) :
    ResAt W1 n0 (.agg #[V.G, V.C, V.E, V.O, .int .i64 M.dropped, .int .i64 M.used, V.S]) M := by
  have key : ∀ {α : Type} {d : Kd α} {e : Nat} {v : Value} {xs : List α}, QQ d e W n0 v xs → (∀ k, v.ownBlock = some k → Foot b V k) → QQ d e W1 n0 v xs := fun hq hk => hq.step (fun k hv => hf k (fun e => hng (e ▸ hk k hv)))
  have ha := List.pairwise_cons.1 h.a29
  refine ⟨V.G, V.C, V.E, V.O, V.S, V.gs, V.cs, rfl, ⟨key h.G (fun k hk => ⟨.inr (.inl hk)⟩), key h.C (fun k hk => ⟨.inr (.inr (.inl hk))⟩), h.gr.imp (fun s xs hs hq => key hq (fun k hk => ⟨.inr (.inr (.inr (.inr (.inr (.inr (.inr ⟨s, List.mem_append_left _ hs, hk⟩))))))⟩)), h.cr.imp (fun s xs hs hq => key hq (fun k hk => ⟨.inr (.inr (.inr (.inr (.inr (.inr (.inr ⟨s, List.mem_append_right _ hs, hk⟩))))))⟩)), h.a33, ha.2⟩,
    key h.E (fun k hk => ⟨.inr (.inr (.inr (.inl hk)))⟩), key h.O (fun k hk => ⟨.inr (.inr (.inr (.inr (.inl hk))))⟩), key h.S (fun k hk => ⟨.inr (.inr (.inr (.inr (.inr (.inl hk)))))⟩)⟩
theorem res_zero (W : World) (n0 : Nat) : ResAt W n0 (.agg #[.slice none 0 0, .slice none 0 0, .slice none 0 0, .slice none 0 0, .int .i64 0, .int .i64 0, .slice none 0 0]) zeroSt :=
  ⟨_, _, _, _, _, [], [], rfl, Two.nil _ _, QQ.nil _ rfl _ _ _, QQ.nil _ rfl _ _ _, QQ.nil _ rfl _ _ _⟩
set_option maxRecDepth 100000 in
set_option maxHeartbeats 8000000 in
theorem run_calls (w : World) (a : PL) (E : Env) (hF : PF w a E) (hD : DS E) (AG : Option Addr) (cG : Nat) (AC : Option Addr) (cC : Nat) (gl cl : List (List Int)) (hG : Kd.C (Kd.slice 29 (Kd.int .i16)) w AG gl.length gl) (hGc : gl.length ≤ cG) (hC : Kd.C (Kd.slice 29 (Kd.int .i16)) w AC cl.length cl) (hCc : cl.length ≤ cC)
    (AR : Option Addr) (cR : Nat) (hR : Kd.C (Kd.int .i16) w AR E.rd.length E.rd) (hlg : gl.length ≤ 100000 ∧ cl.length ≤ 100000) (hsm : ∀ xs ∈ gl ++ cl, xs.length ≤ lim) (task : Nat) (ht : task < E.l5.length) (msg limit : Int) (hlim : 0 ≤ limit) (kf : Nat) (hfit : interp_fits.f kf E.l0 E.l1 E.l2 E.l3 E.l4 E.l5 gl cl = some true)
    (k : Nat) (g : Int) (M' : St) (h : runE E k task msg gl cl limit = some (g, M')) :
    Calls Try.prog 34 #[.agg #[.slice a.A0 E.l0.length a.c0, .slice a.A1 E.l1.length a.c1, .slice a.A2 E.l2.length a.c2, .slice a.A3 E.l3.length a.c3, .slice a.A4 E.l4.length a.c4, .slice a.A5 E.l5.length a.c5], .int .i64 (task : Int), .int .i16 msg, .agg #[.slice AG gl.length cG, .slice AC cl.length cC], .slice AR E.rd.length cR, .int .i64 limit] w (RunPost w g M') := by
  have HF := Aside0.mk hF
  have HD := Aside0.mk hD
  have HG := Aside0.mk hG
  have HC := Aside0.mk hC
  have HRD := Aside0.mk hR
  have HLG := Aside0.mk hlg
  have HSM := Aside0.mk hsm
  have HFIT := Aside0.mk hfit
  have HGC : Aside0 (gl.length ≤ cG ∧ cl.length ≤ cC) := ⟨hGc, hCc⟩
  obtain ⟨cl', hcl, h⟩ := Option.bind_eq_some_iff.1 h
  have HCL := Aside0.mk hcl
  have H := Aside0.mk h
  have hge : (0 : Int) ≤ (task : Int) := by omega
  have hlt : (task : Int) < (E.l5.length : Int) := by omega
  have hl0 : ¬ limit < 0 := by omega
  clear hF hD hG hC hR hlg hsm hfit hGc hCc hcl h
  obtain ⟨W0, hW0⟩ : ∃ W0, W0 = ((w.alloc (.cells #[.slice a.A0 E.l0.length a.c0, .slice a.A1 E.l1.length a.c1, .slice a.A2 E.l2.length a.c2, .slice a.A3 E.l3.length a.c3, .slice a.A4 E.l4.length a.c4, .slice a.A5 E.l5.length a.c5] 28)).alloc (.cells #[.slice AG gl.length cG, .slice AC cl.length cC] 32)).alloc (.cells #[.slice none 0 0, .slice none 0 0, .slice none 0 0, .slice none 0 0, .int .i64 0, .int .i64 0, .slice none 0 0] 72) := ⟨_, rfl⟩
  have hB0 : Below w.heap.size w W0 := by rw [hW0]; exact below_alloc (below_alloc (below_alloc (Below.refl _ _) _) _) _
  go_enter Try.func34, Try.ntmps34
  go_wp2_with (first
    | (go_at_call 42; refine (interp_fits.calls kf a.A0 a.c0 E.l0 a.A1 a.c1 E.l1 a.A2 a.c2 E.l2 a.A3 a.c3 E.l3 a.A4 a.c4 E.l4 a.A5 a.c5 E.l5 AG cG gl AC cC cl true _ (hW0 ▸ (HF.out.up hB0).h0) HF.out.n0 (hW0 ▸ (HF.out.up hB0).h1) HF.out.n1 (hW0 ▸ (HF.out.up hB0).h2) HF.out.n2 (hW0 ▸ (HF.out.up hB0).h3) HF.out.n3 (hW0 ▸ (HF.out.up hB0).h4) HF.out.n4 (hW0 ▸ (HF.out.up hB0).h5) HF.out.n5 (hW0 ▸ Kd.C_below HG.out hB0) HGC.out.1 (hW0 ▸ Kd.C_below HC.out hB0) HGC.out.2 HFIT.out).mono ?_; rintro e W1 ⟨rfl, hB1⟩))
  rw [← hW0] at hB1
  have K6 : W0.heap[w.heap.size]? = some (.cells #[.slice a.A0 E.l0.length a.c0, .slice a.A1 E.l1.length a.c1, .slice a.A2 E.l2.length a.c2, .slice a.A3 E.l3.length a.c3, .slice a.A4 E.l4.length a.c4, .slice a.A5 E.l5.length a.c5] 28 (0, 0)) := by
    rw [hW0]; exact (Below.heap_alloc _ _ _ (by simp; omega)).trans ((Below.heap_alloc _ _ _ (by simp)).trans (World.alloc_heap_new w _))
  have K9 : W0.heap[w.heap.size + 1]? = some (.cells #[.slice AG gl.length cG, .slice AC cl.length cC] 32 (0, 0)) := by
    rw [hW0]
    have := World.alloc_heap_new (w.alloc (.cells #[.slice a.A0 E.l0.length a.c0, .slice a.A1 E.l1.length a.c1, .slice a.A2 E.l2.length a.c2, .slice a.A3 E.l3.length a.c3, .slice a.A4 E.l4.length a.c4, .slice a.A5 E.l5.length a.c5] 28)) (.cells #[.slice AG gl.length cG, .slice AC cl.length cC] 32)
    rw [World.size_alloc] at this
    exact (Below.heap_alloc _ _ _ (by simp)).trans this
  have K12 : W0.heap[w.heap.size + 1 + 1]? = some (.cells #[.slice none 0 0, .slice none 0 0, .slice none 0 0, .slice none 0 0, .int .i64 0, .int .i64 0, .slice none 0 0] 72 (0, 0)) := by
    rw [hW0]
    have := World.alloc_heap_new ((w.alloc (.cells #[.slice a.A0 E.l0.length a.c0, .slice a.A1 E.l1.length a.c1, .slice a.A2 E.l2.length a.c2, .slice a.A3 E.l3.length a.c3, .slice a.A4 E.l4.length a.c4, .slice a.A5 E.l5.length a.c5] 28)).alloc (.cells #[.slice AG gl.length cG, .slice AC cl.length cC] 32)) (.cells #[.slice none 0 0, .slice none 0 0, .slice none 0 0, .slice none 0 0, .int .i64 0, .int .i64 0, .slice none 0 0] 72)
    rwa [World.size_alloc, World.size_alloc] at this
  have hs0 : W0.heap.size = w.heap.size + 3 := by rw [hW0]; simp
  replace K6 := (hB1.block _ (by omega)).trans K6
  replace K9 := (hB1.block _ (by omega)).trans K9
  replace K12 := (hB1.block _ (by omega)).trans K12
  have hs1 : w.heap.size + 3 ≤ W1.heap.size := by have := hB1.size; omega
  have HB1 : Aside0 (Below w.heap.size w W1) := ⟨hB0.trans (hB1.mono hB0.size)⟩
  have HK6 := Aside0.mk K6
  have HK12 := Aside0.mk K12
  have s0 : W1.cell? ⟨w.heap.size, 0, none⟩ = some (.slice a.A0 E.l0.length a.c0) := (blk_cell K6 0).trans rfl
  have s1 : W1.cell? ⟨w.heap.size, 1, none⟩ = some (.slice a.A1 E.l1.length a.c1) := (blk_cell K6 1).trans rfl
  have s2 : W1.cell? ⟨w.heap.size, 2, none⟩ = some (.slice a.A2 E.l2.length a.c2) := (blk_cell K6 2).trans rfl
  have s3 : W1.cell? ⟨w.heap.size, 3, none⟩ = some (.slice a.A3 E.l3.length a.c3) := (blk_cell K6 3).trans rfl
  have s4 : W1.cell? ⟨w.heap.size, 4, none⟩ = some (.slice a.A4 E.l4.length a.c4) := (blk_cell K6 4).trans rfl
  have s5 : W1.cell? ⟨w.heap.size, 5, none⟩ = some (.slice a.A5 E.l5.length a.c5) := (blk_cell K6 5).trans rfl
  have s6 : W1.cell? ⟨w.heap.size + 1, 0, none⟩ = some (.slice AG gl.length cG) := (blk_cell K9 0).trans rfl
  have s7 : W1.cell? ⟨w.heap.size + 1, 1, none⟩ = some (.slice AC cl.length cC) := (blk_cell K9 1).trans rfl
  clear K6 K9 K12 hW0 hB0 hB1 hs0
  go_region_held3 (fun w' => w'.cell? ⟨w.heap.size, 0, none⟩ = some (.slice a.A0 E.l0.length a.c0) ∧ w'.cell? ⟨w.heap.size, 1, none⟩ = some (.slice a.A1 E.l1.length a.c1) ∧ w'.cell? ⟨w.heap.size, 2, none⟩ = some (.slice a.A2 E.l2.length a.c2) ∧ w'.cell? ⟨w.heap.size, 3, none⟩ = some (.slice a.A3 E.l3.length a.c3) ∧ w'.cell? ⟨w.heap.size, 4, none⟩ = some (.slice a.A4 E.l4.length a.c4) ∧ w'.cell? ⟨w.heap.size, 5, none⟩ = some (.slice a.A5 E.l5.length a.c5) ∧ w'.cell? ⟨w.heap.size + 1, 0, none⟩ = some (.slice AG gl.length cG) ∧ w'.cell? ⟨w.heap.size + 1, 1, none⟩ = some (.slice AC cl.length cC)) (go_keep)
    (first
      | (go_at_call 22; refine (copy_calls AG AC cG cC gl cl _ (Kd.C_below HG.out (below_drew1 HB1.out)) (Kd.C_below HC.out (below_drew1 HB1.out)) HLG.out HSM.out).mono ?_; rintro e W2 ⟨G, C, rfl, ⟨gs, cs, hTwo⟩, hB2⟩; have hB3 : Below W1.heap.size W1 W2 := (below_drew1 (Below.refl _ _)).trans hB2; replace s0 := cell_up hB3 s0; replace s1 := cell_up hB3 s1; replace s2 := cell_up hB3 s2; replace s3 := cell_up hB3 s3; replace s4 := cell_up hB3 s4; replace s5 := cell_up hB3 s5; replace s6 := cell_up hB3 s6; replace s7 := cell_up hB3 s7; have HTWO := Aside0.mk hTwo; have HB3 := Aside0.mk hB3; clear hTwo hB2 hB3))
  obtain ⟨hmac, hnf⟩ := mac_new (n0 := w.heap.size) (p := a.v E) (R := .slice AR E.rd.length cR) HTWO.out (Nat.le_trans HB1.out.size (Nat.le_refl _)) HB3.out.size limit 103 115 [] (by decide)
  obtain ⟨V0, hV0⟩ : ∃ V0 : VV, V0 = ⟨G, C, .slice none 0 0, .slice none 0 0, .slice none 0 0, .slice AR E.rd.length cR, .slice none 0 0, gs, cs⟩ := ⟨_, rfl⟩
  obtain ⟨W4, hW4⟩ : ∃ W4, W4 = W2.alloc (.cells #[.slice a.A0 E.l0.length a.c0, .slice a.A1 E.l1.length a.c1, .slice a.A2 E.l2.length a.c2, .slice a.A3 E.l3.length a.c3, .slice a.A4 E.l4.length a.c4, .slice a.A5 E.l5.length a.c5, G, C, .slice none 0 0, .slice none 0 0, .int .i64 0, .int .i64 0, .slice none 0 0, .slice AR E.rd.length cR, .slice none 0 0, .int .i64 limit] 103) := ⟨_, rfl⟩
  obtain ⟨b, hb⟩ : ∃ b, b = W2.heap.size := ⟨_, rfl⟩
  have hB4 : Below W1.heap.size W1 W4 := by rw [hW4]; exact below_alloc HB3.out _
  have hm4 : Mac 103 115 (a.v E) [] W4 w.heap.size b V0 (St0 gl cl [] limit) := by rw [hW4, hb, hV0]; exact hmac
  have HO4 : Aside0 (Ok w (a.v E) E AR cR W4 b V0 (St0 gl cl [] limit)) := ⟨⟨HF.out.pc HD.out, HRD.out, hm4, HB1.out.trans (hB4.mono HB1.out.size), Nat.zero_le _, by rw [hV0]⟩⟩
  have HNF : Aside0 (∀ k, k < W1.heap.size → ¬ Foot b V0 k) := ⟨by rw [hb, hV0]; exact hnf⟩
  rw [← hW4, ← hb]
  have HK6 := Aside0.mk ((hB4.block _ (by omega)).trans HK6.out)
  have HK12 := Aside0.mk ((hB4.block _ (by omega)).trans HK12.out)
  have HS1 := Aside0.mk hs1
  have HBOX : Aside0 (∀ {wr : World} {Vi : VV}, Step W4 wr b V0 Vi → wr.heap[w.heap.size]? = some (.cells #[.slice a.A0 E.l0.length a.c0, .slice a.A1 E.l1.length a.c1, .slice a.A2 E.l2.length a.c2, .slice a.A3 E.l3.length a.c3, .slice a.A4 E.l4.length a.c4, .slice a.A5 E.l5.length a.c5] 28 (0, 0)) ∧ wr.heap[w.heap.size + 1 + 1]? = some (.cells #[.slice none 0 0, .slice none 0 0, .slice none 0 0, .slice none 0 0, .int .i64 0, .int .i64 0, .slice none 0 0] 72 (0, 0))) :=
    ⟨fun hs => ⟨hs.blk HK6.out (HNF.out _ (by have := HS1.out; omega)), hs.blk HK12.out (HNF.out _ (by have := HS1.out; omega))⟩⟩
  clear hmac hnf hm4 hW4 hb hB4 hV0 s0 s1 s2 s3 s4 s5 s6 s7 HTWO
  have s0 : W4.cell? ⟨w.heap.size, 0, none⟩ = some (.slice a.A0 E.l0.length a.c0) := (blk_cell HK6.out 0).trans rfl
  have s1 : W4.cell? ⟨w.heap.size, 1, none⟩ = some (.slice a.A1 E.l1.length a.c1) := (blk_cell HK6.out 1).trans rfl
  have s2 : W4.cell? ⟨w.heap.size, 2, none⟩ = some (.slice a.A2 E.l2.length a.c2) := (blk_cell HK6.out 2).trans rfl
  have s3 : W4.cell? ⟨w.heap.size, 3, none⟩ = some (.slice a.A3 E.l3.length a.c3) := (blk_cell HK6.out 3).trans rfl
  have s4 : W4.cell? ⟨w.heap.size, 4, none⟩ = some (.slice a.A4 E.l4.length a.c4) := (blk_cell HK6.out 4).trans rfl
  have s5 : W4.cell? ⟨w.heap.size, 5, none⟩ = some (.slice a.A5 E.l5.length a.c5) := (blk_cell HK6.out 5).trans rfl
  go_wp2
  go_region_held3 (fun w' => w'.cell? ⟨w.heap.size, 0, none⟩ = some (.slice a.A0 E.l0.length a.c0) ∧ w'.cell? ⟨w.heap.size, 1, none⟩ = some (.slice a.A1 E.l1.length a.c1) ∧ w'.cell? ⟨w.heap.size, 2, none⟩ = some (.slice a.A2 E.l2.length a.c2) ∧ w'.cell? ⟨w.heap.size, 3, none⟩ = some (.slice a.A3 E.l3.length a.c3) ∧ w'.cell? ⟨w.heap.size, 4, none⟩ = some (.slice a.A4 E.l4.length a.c4) ∧ w'.cell? ⟨w.heap.size, 5, none⟩ = some (.slice a.A5 E.l5.length a.c5)) (go_keep)
    (first
      | (go_at_call 50; refine (consume_mac HF.out (HO4.out.up (below_drew1 (Below.refl _ _))) task ht HCL.out).mono ?_; rintro e W5 ⟨rfl, cs1, hO5, hS5⟩; have hSS := (Step.of_below (below_drew1 (Below.refl W4.heap.size W4)) b V0).trans hS5; have hbx := (HBOX.out hSS).1; replace s0 : W5.cell? ⟨w.heap.size, 0, none⟩ = some (.slice a.A0 E.l0.length a.c0) := (blk_cell hbx 0).trans rfl; replace s1 : W5.cell? ⟨w.heap.size, 1, none⟩ = some (.slice a.A1 E.l1.length a.c1) := (blk_cell hbx 1).trans rfl; replace s2 : W5.cell? ⟨w.heap.size, 2, none⟩ = some (.slice a.A2 E.l2.length a.c2) := (blk_cell hbx 2).trans rfl; replace s3 : W5.cell? ⟨w.heap.size, 3, none⟩ = some (.slice a.A3 E.l3.length a.c3) := (blk_cell hbx 3).trans rfl; replace s4 : W5.cell? ⟨w.heap.size, 4, none⟩ = some (.slice a.A4 E.l4.length a.c4) := (blk_cell hbx 4).trans rfl; replace s5 : W5.cell? ⟨w.heap.size, 5, none⟩ = some (.slice a.A5 E.l5.length a.c5) := (blk_cell hbx 5).trans rfl; have HO5 := Aside0.mk hO5; have HS5 := Aside0.mk hSS; clear hO5 hS5 hSS hbx))
  obtain ⟨adT, A6, c6, eT, q0, q1, q2, q3, q4, q5, q6, q7, lT, CT⟩ := at_T61 HF.out.h5 (task : Int) hge hlt
  simp only [show rd_T61 E.l5 (task : Int) = E.l5.getD task z61 from rfl, Int.toNat_natCast] at q0 q1 q2 q3 q4 q5 q6 q7 lT CT
  have h := H.out
  generalize E.l5.getD task z61 = tk at q0 q1 q2 q3 q4 q5 q6 q7 lT CT h
  have HQ6 := Aside0.mk q6
  have HET := Aside0.mk eT
  have HLT := Aside0.mk lT
  have HCT := Aside0.mk CT
  clear lT CT H
  replace q0 := cell_up HO5.out.B q0
  replace q1 := cell_up HO5.out.B q1
  replace q2 := cell_up HO5.out.B q2
  replace q3 := cell_up HO5.out.B q3
  replace q4 := cell_up HO5.out.B q4
  replace q5 := cell_up HO5.out.B q5
  replace q6 := cell_up HO5.out.B q6
  replace q7 := cell_up HO5.out.B q7
  rw [eT] at s5
  have hB6 := below_alloc (Below.refl W5.heap.size W5) (.cells #[.string tk.f0, .int .i64 tk.f1, .int .i64 tk.f2, .string tk.f3, .string tk.f4, .int .i64 tk.f5, .slice A6 tk.f6.length c6, .int .i64 tk.f7] 61)
  have t5 := cell_up hB6 s5
  have t6 := cell_up hB6 q6
  by_cases hpm : tk.f4.toList = []
  · rw [if_pos hpm] at h
    have hpb : (tk.f4.toList != []) = false := bne_eq_false_iff_eq.mpr hpm
    have HH := Aside0.mk h
    clear h
    have hO6 : Ok w (a.v E) E AR cR (W5.alloc (.cells #[.string tk.f0, .int .i64 tk.f1, .int .i64 tk.f2, .string tk.f3, .string tk.f4, .int .i64 tk.f5, .slice A6 tk.f6.length c6, .int .i64 tk.f7] 61)) b { V0 with cs := cs1 } { St0 gl cl [] limit with channels := cl' } := HO5.out.up hB6
    have HO6 := Aside0.mk hO6
    clear hO6
    by_cases hg2 : g = 2
    · subst hg2
      go_wp2_with (first
        | (go_at_call 51; refine (block_calls (exec_calls k) HO6.out HLT.out HCT.out HCT.out.2.1 HH.out).mono ?_; rintro e W7 ⟨rfl, V7, hO7, hS7⟩; have hSS := HS5.out.trans ((Step.of_below hB6 b _).trans hS7); have hbx := (HBOX.out hSS).2; have z0 : W7.cell? ⟨w.heap.size + 1 + 1, 0, none⟩ = some (.slice none 0 0) := (blk_cell hbx 0).trans rfl; have z1 : W7.cell? ⟨w.heap.size + 1 + 1, 1, none⟩ = some (.slice none 0 0) := (blk_cell hbx 1).trans rfl; have z2 : W7.cell? ⟨w.heap.size + 1 + 1, 2, none⟩ = some (.slice none 0 0) := (blk_cell hbx 2).trans rfl; have z3 : W7.cell? ⟨w.heap.size + 1 + 1, 3, none⟩ = some (.slice none 0 0) := (blk_cell hbx 3).trans rfl; have z4 : W7.cell? ⟨w.heap.size + 1 + 1, 4, none⟩ = some (.int .i64 0) := (blk_cell hbx 4).trans rfl; have z5 : W7.cell? ⟨w.heap.size + 1 + 1, 5, none⟩ = some (.int .i64 0) := (blk_cell hbx 5).trans rfl; have z6 : W7.cell? ⟨w.heap.size + 1 + 1, 6, none⟩ = some (.slice none 0 0) := (blk_cell hbx 6).trans rfl; have y0 := blk_frozen hbx 0; have y1 := blk_frozen hbx 1; have y2 := blk_frozen hbx 2; have y3 := blk_frozen hbx 3; have y4 := blk_frozen hbx 4; have y5 := blk_frozen hbx 5; have y6 := blk_frozen hbx 6; have HBX := Aside0.mk hbx; have HO7 := Aside0.mk hO7; clear hO7 hS7 hSS hbx))
      have hrr := sets7_blk HBX.out (.slice none 0 0) (.slice none 0 0) (.slice none 0 0) (.slice none 0 0) (.int .i64 0) (.int .i64 0) (.slice none 0 0)
      have hbb := sets7_below (g := w.heap.size + 1 + 1) HO7.out.B (by omega) (.slice none 0 0) (.slice none 0 0) (.slice none 0 0) (.slice none 0 0) (.int .i64 0) (.int .i64 0) (.slice none 0 0)
      unfold sets7 at hrr hbb
      refine bodyPost_ret (results_list (rs := [.cell 12 72, .tmp 13]) rfl (by simp) (.cell (w.heap.size + 1 + 1) 72 _ (0, 0) _ rfl hrr Try.underlying72 rfl (by kernel_rfl) (.tmp .nil))) rfl ?_
      exact ⟨_, rfl, res_zero _ _, hbb⟩
    · have hg2b : (g == 2) = false := beq_eq_false_iff_ne.mpr hg2
      go_wp2_with (first
        | (go_at_call 51; refine (block_calls (exec_calls k) HO6.out HLT.out HCT.out HCT.out.2.1 HH.out).mono ?_; rintro e W7 ⟨rfl, V7, hO7, hS7⟩; have hSS := HS5.out.trans ((Step.of_below hB6 b _).trans hS7); have hbx := (HBOX.out hSS).2; have z0 : W7.cell? ⟨w.heap.size + 1 + 1, 0, none⟩ = some (.slice none 0 0) := (blk_cell hbx 0).trans rfl; have z1 : W7.cell? ⟨w.heap.size + 1 + 1, 1, none⟩ = some (.slice none 0 0) := (blk_cell hbx 1).trans rfl; have z2 : W7.cell? ⟨w.heap.size + 1 + 1, 2, none⟩ = some (.slice none 0 0) := (blk_cell hbx 2).trans rfl; have z3 : W7.cell? ⟨w.heap.size + 1 + 1, 3, none⟩ = some (.slice none 0 0) := (blk_cell hbx 3).trans rfl; have z4 : W7.cell? ⟨w.heap.size + 1 + 1, 4, none⟩ = some (.int .i64 0) := (blk_cell hbx 4).trans rfl; have z5 : W7.cell? ⟨w.heap.size + 1 + 1, 5, none⟩ = some (.int .i64 0) := (blk_cell hbx 5).trans rfl; have z6 : W7.cell? ⟨w.heap.size + 1 + 1, 6, none⟩ = some (.slice none 0 0) := (blk_cell hbx 6).trans rfl; have y0 := blk_frozen hbx 0; have y1 := blk_frozen hbx 1; have y2 := blk_frozen hbx 2; have y3 := blk_frozen hbx 3; have y4 := blk_frozen hbx 4; have y5 := blk_frozen hbx 5; have y6 := blk_frozen hbx 6; have HNF7 : Aside0 (¬ Foot b V7 (w.heap.size + 1 + 1)) := ⟨hSS.nfoot (by have := (Array.getElem?_eq_some_iff.1 HK12.out).1; exact this) (HNF.out _ (by have := HS1.out; omega))⟩; obtain ⟨AG7, cG7, eG, _⟩ := Kd.Q_slice hO7.m.G.q; obtain ⟨AC7, cC7, eC, _⟩ := Kd.Q_slice hO7.m.C.q; obtain ⟨AE7, cE7, eE, _⟩ := Kd.Q_slice hO7.m.E.q; obtain ⟨AO7, cO7, eO, _⟩ := Kd.Q_slice hO7.m.O.q; obtain ⟨AS7, cS7, eS, _⟩ := Kd.Q_slice hO7.m.S.q; have EQ7 : Aside0 (V7.G = .slice AG7 V7.gs.length cG7 ∧ V7.C = .slice AC7 V7.cs.length cC7 ∧ V7.E = .slice AE7 M'.emitted.length cE7 ∧ V7.O = .slice AO7 M'.outputs.length cO7 ∧ V7.S = .slice AS7 M'.sensors.length cS7) := ⟨eG, eC, eE, eO, eS⟩; have d6 := hO7.m.cell 6 rfl; have d7 := hO7.m.cell 7 rfl; have d8 := hO7.m.cell 8 rfl; have d9 := hO7.m.cell 9 rfl; have d10 := hO7.m.cell 10 rfl; have d11 := hO7.m.cell 11 rfl; have d12 := hO7.m.cell 12 rfl; rw [eG] at d6; rw [eC] at d7; rw [eE] at d8; rw [eO] at d9; rw [eS] at d12; clear eG eC eE eO eS; have HBX := Aside0.mk hbx; have HO7 := Aside0.mk hO7; clear hO7 hS7 hSS hbx))
      have hrr := sets7_blk HBX.out (.slice AG7 V7.gs.length cG7) (.slice AC7 V7.cs.length cC7) (.slice AE7 M'.emitted.length cE7) (.slice AO7 M'.outputs.length cO7) (.int .i64 M'.dropped) (.int .i64 M'.used) (.slice AS7 M'.sensors.length cS7)
      have hbb := sets7_below (g := w.heap.size + 1 + 1) HO7.out.B (by omega) (.slice AG7 V7.gs.length cG7) (.slice AC7 V7.cs.length cC7) (.slice AE7 M'.emitted.length cE7) (.slice AO7 M'.outputs.length cO7) (.int .i64 M'.dropped) (.int .i64 M'.used) (.slice AS7 M'.sensors.length cS7)
      have hres := res_of_mac (g := w.heap.size + 1 + 1) HO7.out.m (sets7_far (g := w.heap.size + 1 + 1) (.slice AG7 V7.gs.length cG7) (.slice AC7 V7.cs.length cC7) (.slice AE7 M'.emitted.length cE7) (.slice AO7 M'.outputs.length cO7) (.int .i64 M'.dropped) (.int .i64 M'.used) (.slice AS7 M'.sensors.length cS7)) HNF7.out
      rw [EQ7.out.1, EQ7.out.2.1, EQ7.out.2.2.1, EQ7.out.2.2.2.1, EQ7.out.2.2.2.2] at hres
      unfold sets7 at hrr hbb hres
      refine bodyPost_ret (results_list (rs := [.cell 12 72, .tmp 13]) rfl (by simp) (.cell (w.heap.size + 1 + 1) 72 _ (0, 0) _ rfl hrr Try.underlying72 rfl (by kernel_rfl) (.tmp .nil))) rfl ?_
      exact ⟨_, by rw [if_neg hg2]; rfl, by rw [if_neg hg2]; exact hres, hbb⟩
  · rw [if_neg hpm] at h
    have hpb : tk.f4.toList.isEmpty = false := by cases hh : tk.f4.toList with | nil => exact absurd hh hpm | cons _ _ => rfl
    have HH := Aside0.mk h
    clear h
    go_wp2
    obtain ⟨W6, hW6⟩ : ∃ W6, W6 = W5.alloc (.cells #[.string tk.f0, .int .i64 tk.f1, .int .i64 tk.f2, .string tk.f3, .string tk.f4, .int .i64 tk.f5, .slice A6 tk.f6.length c6, .int .i64 tk.f7] 61) := ⟨_, rfl⟩
    have hB6' : Below W5.heap.size W5 W6 := by rw [hW6]; exact hB6
    have hk6 : W6.heap[W5.heap.size]? = some (.cells #[.string tk.f0, .int .i64 tk.f1, .int .i64 tk.f2, .string tk.f3, .string tk.f4, .int .i64 tk.f5, .slice A6 tk.f6.length c6, .int .i64 tk.f7] 61 (0, 0)) := by rw [hW6]; exact World.alloc_heap_new W5 _
    rw [← hW6]
    have HO6 := Aside0.mk (HO5.out.up hB6')
    have HS6 := Aside0.mk (HS5.out.trans (Step.of_below hB6' b _))
    have dE : W6.cell? ⟨b, 14, none⟩ = some V0.L := HO6.out.m.cell 14 rfl
    have d4 : W6.cell? ⟨W5.heap.size, 4, none⟩ = some (.string tk.f4) := (blk_cell hk6 4).trans rfl
    have HKT := Aside0.mk hk6
    have hbs : W5.heap.size < W6.heap.size := (Array.getElem?_eq_some_iff.1 hk6).1
    have HBS := Aside0.mk hbs
    have hb5 : ¬ Foot b { V0 with cs := cs1 } W5.heap.size := fun hf => by have := (HO5.out.m.foot_lt hf).2; omega
    have HB5F := Aside0.mk hb5
    clear hW6 hB6' hk6 hbs hb5 hB6 t5 t6 s0 s1 s2 s3 s4 s5 q0 q1 q2 q3 q4 q5 q6 q7
    refine start_ (n := 14) (S := (fun w' => w'.cell? ⟨b, 14, none⟩ = some V0.L ∧ w'.cell? ⟨W5.heap.size, 4, none⟩ = some (.string tk.f4))) (ds := [13]) #[false, false, false, false, false, false, false, false, false, false, false, false, false, false] (by kernel_rfl) rfl rfl ⟨dE, d4⟩ (fun hHeld => ?_)
    refine pure_ (i := 0) (N := some 59) (v := ?_) (a' := ?_) #[true, false, false, false, false, false, false, false, false, false, false, false, false, false] rfl rfl (by kernel_rfl) (fun _ _ _ h => h) (Or.inl ⟨by rfl, ?_⟩) ?_ ?_
    rotate_left
    · intro w'
      go_simp
      with_reducible rfl
    rotate_left
    · simp only [Act.put, List.setIfInBounds_toArray, List.set_cons_zero, List.set_cons_succ]
      rfl
    refine pure_ (i := 1) (N := some 60) (v := ?_) (a' := ?_) #[true, true, false, false, false, false, false, false, false, false, false, false, false, false] rfl rfl (by kernel_rfl) (fun _ _ _ h => h) (Or.inl ⟨by rfl, ?_⟩) ?_ ?_
    rotate_left
    · intro w'
      go_simp
      with_reducible rfl
    rotate_left
    · simp only [Act.put, List.setIfInBounds_toArray, List.set_cons_zero, List.set_cons_succ]
      rfl
    refine pure_ (i := 2) (N := some 61) (v := ?_) (a' := ?_) #[true, true, true, false, false, false, false, false, false, false, false, false, false, false] rfl rfl (by kernel_rfl) (fun _ _ _ h => h) (Or.inl ⟨by rfl, ?_⟩) ?_ ?_
    rotate_left
    · intro w'
      go_simp
      with_reducible rfl
    rotate_left
    · simp only [Act.put, List.setIfInBounds_toArray, List.set_cons_zero, List.set_cons_succ]
      rfl
    refine pure_ (i := 3) (N := some 62) (v := ?_) (a' := ?_) #[true, true, true, true, false, false, false, false, false, false, false, false, false, false] rfl rfl (by kernel_rfl) (fun _ _ _ h => h) (Or.inl ⟨by rfl, ?_⟩) ?_ ?_
    rotate_left
    · intro w'
      go_simp
      with_reducible rfl
    rotate_left
    · simp only [Act.put, List.setIfInBounds_toArray, List.set_cons_zero, List.set_cons_succ]
      rfl
    refine take_ (i := 4) (N := some 63) (v := ?_) (a' := ?_) #[true, true, true, true, true, false, false, false, false, false, false, false, false, false] rfl rfl (by kernel_rfl) (fun _ _ _ h => h) (Or.inl ⟨by rfl, ?_⟩) hHeld ?_ ?_
    rotate_left
    · rintro w' ⟨s0, s1⟩
      go_simp
      with_reducible rfl
    rotate_left
    · simp only [Act.put, List.setIfInBounds_toArray, List.set_cons_zero, List.set_cons_succ]
      rfl
    refine pure_ (i := 5) (N := some 64) (v := ?_) (a' := ?_) #[true, true, true, true, true, true, false, false, false, false, false, false, false, false] rfl rfl (by kernel_rfl) (fun _ _ _ h => h) (Or.inl ⟨by rfl, ?_⟩) ?_ ?_
    rotate_left
    · intro w'
      go_simp
      with_reducible rfl
    rotate_left
    · simp only [Act.put, List.setIfInBounds_toArray, List.set_cons_zero, List.set_cons_succ]
      rfl
    refine take_ (i := 6) (N := some 65) (v := ?_) (a' := ?_) #[true, true, true, true, true, true, true, false, false, false, false, false, false, false] rfl rfl (by kernel_rfl) (fun _ _ _ h => h) (Or.inl ⟨by rfl, ?_⟩) hHeld ?_ ?_
    rotate_left
    · rintro w' ⟨s0, s1⟩
      go_simp
      with_reducible rfl
    rotate_left
    · simp only [Act.put, List.setIfInBounds_toArray, List.set_cons_zero, List.set_cons_succ]
      rfl
    refine pure_ (i := 7) (N := some 66) (v := ?_) (a' := ?_) #[true, true, true, true, true, true, true, true, false, false, false, false, false, false] rfl rfl (by kernel_rfl) (fun _ _ _ h => h) (Or.inl ⟨by rfl, ?_⟩) ?_ ?_
    rotate_left
    · intro w'
      go_simp
      with_reducible rfl
    rotate_left
    · simp only [Act.put, List.setIfInBounds_toArray, List.set_cons_zero, List.set_cons_succ]
      rfl
    refine pure_ (i := 8) (N := some 67) (v := ?_) (a' := ?_) #[true, true, true, true, true, true, true, true, true, false, false, false, false, false] rfl rfl (by kernel_rfl) (fun _ _ _ h => h) (Or.inl ⟨by rfl, ?_⟩) ?_ ?_
    rotate_left
    · intro w'
      go_simp
      with_reducible rfl
    rotate_left
    · simp only [Act.put, List.setIfInBounds_toArray, List.set_cons_zero, List.set_cons_succ]
      rfl
    refine one_ (i := 9) (N := some 68) #[true, true, true, true, true, true, true, true, true, true, false, false, false, false] rfl rfl (by kernel_rfl) (by decide) (fun K hK => ?_)
    have HO7 := Aside0.mk (HO6.out.up (below_drew1 (Below.refl W6.heap.size W6)))
    have HS7 := Aside0.mk (HS6.out.trans (Step.of_below (below_drew1 (Below.refl W6.heap.size W6)) b _))
    refine event_step (w1 := W6.drew.alloc (.cells #[.string tk.f4, .int .i16 msg] 115)) (v := .slice (some ⟨W6.drew.heap.size, 0, none⟩) 1 1) (by rfl) (by first | (go_simp; done) | (go_simp; rfl)) ?_
    have e7 := cell_up (below_alloc (Below.refl W6.drew.heap.size W6.drew) (.cells #[.string tk.f4, .int .i16 msg] 115)) hHeld.1
    have e8 := cell_up (below_alloc (Below.refl W6.drew.heap.size W6.drew) (.cells #[.string tk.f4, .int .i16 msg] 115)) hHeld.2
    clear hHeld dE d4
    refine hK.out _ _ ⟨e7, e8⟩ (fun hHeld => ?_)
    clear hK K
    refine norm_ (a' := ?_) ?_ ?_
    rotate_left
    · show Act.put _ (some 68) _ = _
      simp only [Act.put, List.setIfInBounds_toArray, List.set_cons_zero, List.set_cons_succ]
      rfl
    refine one_ (i := 10) (N := some 69) #[true, true, true, true, true, true, true, true, true, true, true, false, false, false] rfl rfl (by kernel_rfl) (by decide) (fun K hK => ?_)
    refine Kd.Q_append_step kLoc (w0 := w) w.heap.size ?hw (.tmp 63) (.tmp 68) 101 115 (.agg #[.string ⟨#[]⟩, .int .i16 0]) 24 rfl Try.underlying101 info115 rfl (by decide) (by decide) V0.L ([] : List (ByteArray × Int)) (tk.f4, msg) [.string tk.f4, .int .i16 msg] (fun _ => True) (fun _ => False) rfl rfl ?aP (fun _ hk => hk.elim) ?aF ?aO ?aB ?aS ?aL ?_
    case hw => rfl
    case aP => exact ⟨[.string tk.f4], [.int .i16 msg], rfl, rfl, rfl⟩
    case aF => exact fun _ _ => trivial
    case aO => exact HO7.out.m.L.q
    case aB => exact HO7.out.B
    case aS => exact HO7.out.B.size
    case aL => decide
    intro u1 w8 ho8 hb8 hg8 ha8
    obtain ⟨A9, c9, rfl, _⟩ := Kd.Q_slice ho8
    simp only [List.nil_append, List.length_cons, List.length_nil, Nat.zero_add] at ho8 ha8
    have hpo := HO7.out.m.put_L ho8 hg8 ha8
    have hbk := (hg8.block b HO7.out.m.lt (fun e => HO7.out.m.L.neb HO7.out.m.blk (by decide) e.symm)).trans HO7.out.m.blk
    have dE : w8.cell? ⟨b, 14, none⟩ = some V0.L := (blk_cell hbk 14).trans rfl
    have fE := blk_frozen hbk 14
    have hS8 : Step W6.drew w8 b { V0 with cs := cs1 } { V0 with cs := cs1 } := Step.of_turn (Turn.of_grown hg8) hg8.size (fun k hk => ⟨.inr (.inr (.inr (.inr (.inr (.inr (.inl hk))))))⟩) (fun _ _ hf => hf)
    have hkt : w8.heap[W5.heap.size]? = some (.cells #[.string tk.f0, .int .i64 tk.f1, .int .i64 tk.f2, .string tk.f3, .string tk.f4, .int .i64 tk.f5, .slice A6 tk.f6.length c6, .int .i64 tk.f7] 61 (0, 0)) := (hS8.keep _ (by have := HBS.out; exact this) HB5F.out).trans HKT.out
    have d4 : w8.cell? ⟨W5.heap.size, 4, none⟩ = some (.string tk.f4) := (blk_cell hkt 4).trans rfl
    have HPO := Aside0.mk hpo
    have HB8 := Aside0.mk hb8
    clear hHeld e7 e8 hpo ho8 hb8 hg8 ha8 hbk hS8 hkt
    refine hK.out _ _ ⟨dE, d4⟩ (fun hHeld => ?_)
    clear hK K
    refine norm_ (a' := ?_) ?_ ?_
    rotate_left
    · show Act.put _ (some 69) _ = _
      simp only [Act.put, List.setIfInBounds_toArray, List.set_cons_zero, List.set_cons_succ]
      rfl
    refine pure_ (i := 11) (N := some 70) (v := ?_) (a' := ?_) #[true, true, true, true, true, true, true, true, true, true, true, true, false, false] rfl rfl (by kernel_rfl) (fun _ _ _ h => h) (Or.inl ⟨by rfl, ?_⟩) ?_ ?_
    rotate_left
    · intro w'
      go_simp
      with_reducible rfl
    rotate_left
    · simp only [Act.put, List.setIfInBounds_toArray, List.set_cons_zero, List.set_cons_succ]
      rfl
    refine pure_ (i := 12) (N := some 71) (v := ?_) (a' := ?_) #[true, true, true, true, true, true, true, true, true, true, true, true, true, false] rfl rfl (by kernel_rfl) (fun _ _ _ h => h) (Or.inl ⟨by rfl, ?_⟩) ?_ ?_
    rotate_left
    · intro w'
      go_simp
      with_reducible rfl
    rotate_left
    · simp only [Act.put, List.setIfInBounds_toArray, List.set_cons_zero, List.set_cons_succ]
      rfl
    refine last_ (i := 13) (N := none) #[true, true, true, true, true, true, true, true, true, true, true, true, true, true] rfl rfl (by kernel_rfl) (by decide) (fun K hK => ?_)
    go_simp
    refine hK.out _ _ ?_
    clear hK K hHeld
    refine done_ (by kernel_rfl) ?_
    have hO9 := HO7.out.next HPO.out.1 (HB8.out.setCell (p := ⟨b, 14, none⟩) HO7.out.m.base _) (by show 1 ≤ lim; decide) rfl
    have hS9 := HS7.out.trans HPO.out.2
    generalize hw9 : w8.setCell ⟨b, 14, none⟩ (.slice A9 1 c9) = W9 at hO9 hS9 ⊢
    have t5 : W9.cell? ⟨w.heap.size, 5, none⟩ = some (.slice (some adT) E.l5.length a.c5) := (blk_cell (HBOX.out hS9).1 5).trans (by rw [HET.out]; rfl)
    have t6 := cell_up hO9.B HQ6.out
    have HO9 := Aside0.mk hO9
    have HS9 := Aside0.mk hS9
    clear hO9 hS9 hw9 dE fE d4
    by_cases hg2 : g = 2
    · subst hg2
      go_wp2_with (first
        | (go_at_call 51; refine (block_calls (exec_calls k) HO9.out HLT.out HCT.out HCT.out.2.1 HH.out).mono ?_; rintro e W7 ⟨rfl, V7, hO7, hS7⟩; have hSS := HS9.out.trans hS7; have hbx := (HBOX.out hSS).2; have z0 : W7.cell? ⟨w.heap.size + 1 + 1, 0, none⟩ = some (.slice none 0 0) := (blk_cell hbx 0).trans rfl; have z1 : W7.cell? ⟨w.heap.size + 1 + 1, 1, none⟩ = some (.slice none 0 0) := (blk_cell hbx 1).trans rfl; have z2 : W7.cell? ⟨w.heap.size + 1 + 1, 2, none⟩ = some (.slice none 0 0) := (blk_cell hbx 2).trans rfl; have z3 : W7.cell? ⟨w.heap.size + 1 + 1, 3, none⟩ = some (.slice none 0 0) := (blk_cell hbx 3).trans rfl; have z4 : W7.cell? ⟨w.heap.size + 1 + 1, 4, none⟩ = some (.int .i64 0) := (blk_cell hbx 4).trans rfl; have z5 : W7.cell? ⟨w.heap.size + 1 + 1, 5, none⟩ = some (.int .i64 0) := (blk_cell hbx 5).trans rfl; have z6 : W7.cell? ⟨w.heap.size + 1 + 1, 6, none⟩ = some (.slice none 0 0) := (blk_cell hbx 6).trans rfl; have y0 := blk_frozen hbx 0; have y1 := blk_frozen hbx 1; have y2 := blk_frozen hbx 2; have y3 := blk_frozen hbx 3; have y4 := blk_frozen hbx 4; have y5 := blk_frozen hbx 5; have y6 := blk_frozen hbx 6; have HBX := Aside0.mk hbx; have HO7 := Aside0.mk hO7; clear hO7 hS7 hSS hbx))
      have hrr := sets7_blk HBX.out (.slice none 0 0) (.slice none 0 0) (.slice none 0 0) (.slice none 0 0) (.int .i64 0) (.int .i64 0) (.slice none 0 0)
      have hbb := sets7_below (g := w.heap.size + 1 + 1) HO7.out.B (by omega) (.slice none 0 0) (.slice none 0 0) (.slice none 0 0) (.slice none 0 0) (.int .i64 0) (.int .i64 0) (.slice none 0 0)
      unfold sets7 at hrr hbb
      refine bodyPost_ret (results_list (rs := [.cell 12 72, .tmp 13]) rfl (by simp) (.cell (w.heap.size + 1 + 1) 72 _ (0, 0) _ rfl hrr Try.underlying72 rfl (by kernel_rfl) (.tmp .nil))) rfl ?_
      exact ⟨_, rfl, res_zero _ _, hbb⟩
    · have hg2b : (g == 2) = false := beq_eq_false_iff_ne.mpr hg2
      go_wp2_with (first
        | (go_at_call 51; refine (block_calls (exec_calls k) HO9.out HLT.out HCT.out HCT.out.2.1 HH.out).mono ?_; rintro e W7 ⟨rfl, V7, hO7, hS7⟩; have hSS := HS9.out.trans hS7; have hbx := (HBOX.out hSS).2; have z0 : W7.cell? ⟨w.heap.size + 1 + 1, 0, none⟩ = some (.slice none 0 0) := (blk_cell hbx 0).trans rfl; have z1 : W7.cell? ⟨w.heap.size + 1 + 1, 1, none⟩ = some (.slice none 0 0) := (blk_cell hbx 1).trans rfl; have z2 : W7.cell? ⟨w.heap.size + 1 + 1, 2, none⟩ = some (.slice none 0 0) := (blk_cell hbx 2).trans rfl; have z3 : W7.cell? ⟨w.heap.size + 1 + 1, 3, none⟩ = some (.slice none 0 0) := (blk_cell hbx 3).trans rfl; have z4 : W7.cell? ⟨w.heap.size + 1 + 1, 4, none⟩ = some (.int .i64 0) := (blk_cell hbx 4).trans rfl; have z5 : W7.cell? ⟨w.heap.size + 1 + 1, 5, none⟩ = some (.int .i64 0) := (blk_cell hbx 5).trans rfl; have z6 : W7.cell? ⟨w.heap.size + 1 + 1, 6, none⟩ = some (.slice none 0 0) := (blk_cell hbx 6).trans rfl; have y0 := blk_frozen hbx 0; have y1 := blk_frozen hbx 1; have y2 := blk_frozen hbx 2; have y3 := blk_frozen hbx 3; have y4 := blk_frozen hbx 4; have y5 := blk_frozen hbx 5; have y6 := blk_frozen hbx 6; have HNF7 : Aside0 (¬ Foot b V7 (w.heap.size + 1 + 1)) := ⟨hSS.nfoot (by have := (Array.getElem?_eq_some_iff.1 HK12.out).1; exact this) (HNF.out _ (by have := HS1.out; omega))⟩; obtain ⟨AG7, cG7, eG, _⟩ := Kd.Q_slice hO7.m.G.q; obtain ⟨AC7, cC7, eC, _⟩ := Kd.Q_slice hO7.m.C.q; obtain ⟨AE7, cE7, eE, _⟩ := Kd.Q_slice hO7.m.E.q; obtain ⟨AO7, cO7, eO, _⟩ := Kd.Q_slice hO7.m.O.q; obtain ⟨AS7, cS7, eS, _⟩ := Kd.Q_slice hO7.m.S.q; have EQ7 : Aside0 (V7.G = .slice AG7 V7.gs.length cG7 ∧ V7.C = .slice AC7 V7.cs.length cC7 ∧ V7.E = .slice AE7 M'.emitted.length cE7 ∧ V7.O = .slice AO7 M'.outputs.length cO7 ∧ V7.S = .slice AS7 M'.sensors.length cS7) := ⟨eG, eC, eE, eO, eS⟩; have d6 := hO7.m.cell 6 rfl; have d7 := hO7.m.cell 7 rfl; have d8 := hO7.m.cell 8 rfl; have d9 := hO7.m.cell 9 rfl; have d10 := hO7.m.cell 10 rfl; have d11 := hO7.m.cell 11 rfl; have d12 := hO7.m.cell 12 rfl; rw [eG] at d6; rw [eC] at d7; rw [eE] at d8; rw [eO] at d9; rw [eS] at d12; clear eG eC eE eO eS; have HBX := Aside0.mk hbx; have HO7 := Aside0.mk hO7; clear hO7 hS7 hSS hbx))
      have hrr := sets7_blk HBX.out (.slice AG7 V7.gs.length cG7) (.slice AC7 V7.cs.length cC7) (.slice AE7 M'.emitted.length cE7) (.slice AO7 M'.outputs.length cO7) (.int .i64 M'.dropped) (.int .i64 M'.used) (.slice AS7 M'.sensors.length cS7)
      have hbb := sets7_below (g := w.heap.size + 1 + 1) HO7.out.B (by omega) (.slice AG7 V7.gs.length cG7) (.slice AC7 V7.cs.length cC7) (.slice AE7 M'.emitted.length cE7) (.slice AO7 M'.outputs.length cO7) (.int .i64 M'.dropped) (.int .i64 M'.used) (.slice AS7 M'.sensors.length cS7)
      have hres := res_of_mac (g := w.heap.size + 1 + 1) HO7.out.m (sets7_far (g := w.heap.size + 1 + 1) (.slice AG7 V7.gs.length cG7) (.slice AC7 V7.cs.length cC7) (.slice AE7 M'.emitted.length cE7) (.slice AO7 M'.outputs.length cO7) (.int .i64 M'.dropped) (.int .i64 M'.used) (.slice AS7 M'.sensors.length cS7)) HNF7.out
      rw [EQ7.out.1, EQ7.out.2.1, EQ7.out.2.2.1, EQ7.out.2.2.2.1, EQ7.out.2.2.2.2] at hres
      unfold sets7 at hrr hbb hres
      refine bodyPost_ret (results_list (rs := [.cell 12 72, .tmp 13]) rfl (by simp) (.cell (w.heap.size + 1 + 1) 72 _ (0, 0) _ rfl hrr Try.underlying72 rfl (by kernel_rfl) (.tmp .nil))) rfl ?_
      exact ⟨_, by rw [if_neg hg2]; rfl, by rw [if_neg hg2]; exact hres, hbb⟩
end Go.Proofs.Yteonloecenodbaa.PX
/- The example's program as data. -/
namespace Go.Proofs.Yteonloecenodbaa.PX
open Go.RowKit Go.Shelf Go.Proofs.YteonloecenodbaaW.PrintWords Go.Proofs.YteonloecenodbaaW.PrintLast Go.Proofs.YteonloecenodbaaW.PrintMore
set_option linter.unusedVariables false
section
variable {α : Type} {d : Kd α} {w : World} {g t : Nat}
theorem C_nil (d : Kd α) (w : World) (A : Option Addr) : Kd.C d w A 0 [] := ⟨rfl, by decide, fun h => absurd h (by decide)⟩
theorem C_one {cs : List Value} {x : α} (h : w.heap[g]? = some (.cells cs.toArray t (0, 0))) (hk : d.K w x cs) : Kd.C d w (some ⟨g, 0, none⟩) 1 [x] := by
  refine ⟨rfl, by decide, fun _ => ⟨_, rfl, fun j p hj => ?_⟩⟩
  cases j with
  | zero =>
    obtain rfl : x = p := by simpa using hj
    refine ⟨cs, d.K_len hk, hk, fun i u hi => ?_⟩
    rw [add_norm, Nat.zero_mul, Nat.zero_add, Nat.zero_add, blk_cell h]
    simpa using hi
  | succ j => simp at hj
theorem C_two {c1 c2 : List Value} {x y : α} (h : w.heap[g]? = some (.cells (c1 ++ c2).toArray t (0, 0))) (h1 : d.K w x c1) (h2 : d.K w y c2) : Kd.C d w (some ⟨g, 0, none⟩) 2 [x, y] := by
  have e1 := d.K_len h1
  refine ⟨rfl, by decide, fun _ => ⟨_, rfl, fun j p hj => ?_⟩⟩
  cases j with
  | zero =>
    obtain rfl : x = p := by simpa using hj
    refine ⟨c1, e1, h1, fun i u hi => ?_⟩
    have hl := (List.getElem?_eq_some_iff.1 hi).1
    rw [add_norm, Nat.zero_mul, Nat.zero_add, Nat.zero_add, blk_cell h]
    simp only [List.getElem?_toArray]
    rw [List.getElem?_append_left hl]
    exact hi
  | succ j =>
    cases j with
    | zero =>
      obtain rfl : y = p := by simpa using hj
      refine ⟨c2, d.K_len h2, h2, fun i u hi => ?_⟩
      rw [add_norm, Nat.zero_add, blk_cell h]
      simp only [List.getElem?_toArray]
      rw [List.getElem?_append_right (by omega), show (0 + 1) * d.sz + i - c1.length = i by omega]
      exact hi
    | succ j => simp at hj
end
def bx : ByteArray := ⟨#[120]⟩
def bs_ : ByteArray := ⟨#[115]⟩
def bt_ : ByteArray := ⟨#[116]⟩
def be : ByteArray := ⟨#[]⟩
def nX : S56 := ⟨2, bx, 0, 0, [], 0⟩
def rS : S56 := ⟨4, bs_, 0, 0, [], 0⟩
def eX : S56 := ⟨6, be, 0, 5, [nX, rS], 0⟩
def s1X : S59 := ⟨2, bx, 0, [eX], [], [], 0⟩
def s2X : S59 := ⟨8, be, 0, [nX], [], [], 0⟩
def tX : S61 := ⟨bt_, 9, 0, be, be, 0, [s1X, s2X], 0⟩
def gX : S85 := ⟨bx, 0, 3, 0⟩
def EX : Env := { l0 := [], l1 := [gX], l2 := [bs_], l3 := [], l4 := [], l5 := [tX], ds := [⟨bx, 2, 0, 0⟩, ⟨bs_, 4, 0, 0⟩, ⟨bt_, 8, 0, 0⟩], rd := [5] }
def aX (g10 g11 g20 : Nat) : PL := ⟨none, some ⟨g10, 0, none⟩, some ⟨g11, 0, none⟩, none, none, some ⟨g20, 0, none⟩, 0, 1, 1, 0, 0, 1⟩
theorem pfX {w : World} {gy g10 g11 g13 g16 g18 g20 : Nat}
    (hy : w.heap[gy]? = some (.cells #[.int .i64 2, .string ⟨#[120]⟩, .int .i16 0, .int .i64 0, .slice none 0 0, .int .i64 0, .int .i64 4, .string ⟨#[115]⟩, .int .i16 0, .int .i64 0, .slice none 0 0, .int .i64 0] 56 (0, 0)))
    (h10 : w.heap[g10]? = some (.cells #[.string ⟨#[120]⟩, .int .i64 0, .int .i16 3, .int .i64 0] 85 (0, 0))) (h11 : w.heap[g11]? = some (.cells #[.string ⟨#[115]⟩] 9 (0, 0)))
    (h13 : w.heap[g13]? = some (.cells #[.int .i64 6, .string ⟨#[]⟩, .int .i16 0, .int .i64 5, .slice (some ⟨gy, 0, none⟩) 2 2, .int .i64 0] 56 (0, 0)))
    (h16 : w.heap[g16]? = some (.cells #[.int .i64 2, .string ⟨#[120]⟩, .int .i16 0, .int .i64 0, .slice none 0 0, .int .i64 0] 56 (0, 0)))
    (h18 : w.heap[g18]? = some (.cells #[.int .i64 2, .string ⟨#[120]⟩, .int .i64 0, .slice (some ⟨g13, 0, none⟩) 1 1, .slice none 0 0, .slice none 0 0, .int .i64 0, .int .i64 8, .string ⟨#[]⟩, .int .i64 0, .slice (some ⟨g16, 0, none⟩) 1 1, .slice none 0 0, .slice none 0 0, .int .i64 0] 59 (0, 0)))
    (h20 : w.heap[g20]? = some (.cells #[.string ⟨#[116]⟩, .int .i64 9, .int .i64 0, .string ⟨#[]⟩, .string ⟨#[]⟩, .int .i64 0, .slice (some ⟨g18, 0, none⟩) 2 2, .int .i64 0] 61 (0, 0))) :
    PF w (aX g10 g11 g20) EX := by
  have kn : k56.K w nX [.int .i64 2, .string bx, .int .i16 0, .int .i64 0, .slice none 0 0, .int .i64 0] := k56_mk w nX (Nat.le_refl _) (C_nil k56 w none)
  have kr : k56.K w rS [.int .i64 4, .string bs_, .int .i16 0, .int .i64 0, .slice none 0 0, .int .i64 0] := k56_mk w rS (Nat.le_refl _) (C_nil k56 w none)
  have cy : Kd.C k56 w (some ⟨gy, 0, none⟩) 2 [nX, rS] := C_two hy kn kr
  have ke : k56.K w eX [.int .i64 6, .string be, .int .i16 0, .int .i64 5, .slice (some ⟨gy, 0, none⟩) 2 2, .int .i64 0] := k56_mk w eX (Nat.le_refl _) cy
  have c13 : Kd.C k56 w (some ⟨g13, 0, none⟩) 1 [eX] := C_one h13 ke
  have c16 : Kd.C k56 w (some ⟨g16, 0, none⟩) 1 [nX] := C_one h16 kn
  have k1 : k59.K w s1X [.int .i64 2, .string bx, .int .i64 0, .slice (some ⟨g13, 0, none⟩) 1 1, .slice none 0 0, .slice none 0 0, .int .i64 0] := k59_mk w s1X (Nat.le_refl _) c13 (Nat.le_refl _) (C_nil k59 w none) (Nat.le_refl _) (C_nil k59 w none)
  have k2 : k59.K w s2X [.int .i64 8, .string be, .int .i64 0, .slice (some ⟨g16, 0, none⟩) 1 1, .slice none 0 0, .slice none 0 0, .int .i64 0] := k59_mk w s2X (Nat.le_refl _) c16 (Nat.le_refl _) (C_nil k59 w none) (Nat.le_refl _) (C_nil k59 w none)
  have c18 : Kd.C k59 w (some ⟨g18, 0, none⟩) 2 [s1X, s2X] := C_two h18 k1 k2
  have kt : k61.K w tX [.string bt_, .int .i64 9, .int .i64 0, .string be, .string be, .int .i64 0, .slice (some ⟨g18, 0, none⟩) 2 2, .int .i64 0] := k61_mk w tX (Nat.le_refl _) c18
  exact ⟨C_nil _ _ _, Nat.le_refl _, C_one h10 (k85_mk w gX), Nat.le_refl _, C_one h11 (show Kd.string.K w bs_ [.string bs_] from rfl), Nat.le_refl _, C_nil _ _ _, Nat.le_refl _, C_nil _ _ _, Nat.le_refl _, C_one h20 kt, Nat.le_refl _⟩
theorem dsX : DS EX := ⟨⟨10, by kernel_rfl⟩, by decide, fun x hx => by
  have h : x ∈ [(2, (⟨bt_, 8, 0, 0⟩ : S164)), (1, ⟨bs_, 4, 0, 0⟩), (0, ⟨bx, 2, 0, 0⟩)] := hx
  simp only [List.mem_cons, List.mem_nil_iff, or_false] at h
  rcases h with rfl | rfl | rfl <;> decide⟩
theorem fitX : interp_fits.f 10 EX.l0 EX.l1 EX.l2 EX.l3 EX.l4 EX.l5 [[3]] [] = some true := by kernel_rfl
def MX : St := ⟨[[15]], [], [15], [], 0, 1, [0], [], 0⟩
theorem runX : runE EX 10 0 0 [[3]] [] 0 = some (0, MX) := by kernel_rfl
end Go.Proofs.Yteonloecenodbaa.PX
/- tricklelaw19.wakes: the document's example. -/
namespace Go.Proofs.Yteonloecenodbaa.PX
open Go.RowKit Go.Shelf Go.Proofs.YteonloecenodbaaW.PrintWords Go.Proofs.YteonloecenodbaaW.PrintLast Go.Proofs.YteonloecenodbaaW.PrintMore
set_option linter.unusedVariables false
set_option linter.unusedSimpArgs false
set_option maxRecDepth 100000 in
set_option maxHeartbeats 4000000 in
theorem name_x (s : ByteArray) (w : World) : Calls Try.prog 33 #[.string s] w fun e w' => e = .returned (.agg #[.int .i64 2, .string s, .int .i16 0, .int .i64 0, .slice none 0 0, .int .i64 0]) ∧ Below w.heap.size w w' := by
  go_enter Try.func33, Try.ntmps33
  go_wp2
  first
    | (go_ret; exact ⟨rfl, below_alloc (Below.refl _ _) _⟩)
    | (refine bodyPost_ret (results_cell_row rfl _ _ w.heap.size 56 #[.int .i64 2, .string s, .int .i16 0, .int .i64 0, .slice none 0 0, .int .i64 0] (0, 0) _ rfl (World.alloc_heap_new w _) Try.underlying56 rfl (by kernel_rfl)) rfl ?_; exact ⟨rfl, below_alloc (Below.refl _ _) _⟩)
theorem sets6 {wb w : World} {g t : Nat} {x0 x1 x2 x3 x4 x5 : Value} (hB : Below wb.heap.size wb w) (h : w.heap[g]? = some (.cells #[x0, x1, x2, x3, x4, x5] t (0, 0))) (y0 y1 y2 y3 y4 y5 : Value) (hg : wb.heap.size ≤ g) :
    ((((((w.setCell ⟨g, 0, none⟩ y0).setCell ⟨g, 1, none⟩ y1).setCell ⟨g, 2, none⟩ y2).setCell ⟨g, 3, none⟩ y3).setCell ⟨g, 4, none⟩ y4).setCell ⟨g, 5, none⟩ y5).heap[g]? = some (.cells #[y0, y1, y2, y3, y4, y5] t (0, 0)) ∧
    (∀ k, k ≠ g → ((((((w.setCell ⟨g, 0, none⟩ y0).setCell ⟨g, 1, none⟩ y1).setCell ⟨g, 2, none⟩ y2).setCell ⟨g, 3, none⟩ y3).setCell ⟨g, 4, none⟩ y4).setCell ⟨g, 5, none⟩ y5).heap[k]? = w.heap[k]?) ∧
    Below wb.heap.size wb ((((((w.setCell ⟨g, 0, none⟩ y0).setCell ⟨g, 1, none⟩ y1).setCell ⟨g, 2, none⟩ y2).setCell ⟨g, 3, none⟩ y3).setCell ⟨g, 4, none⟩ y4).setCell ⟨g, 5, none⟩ y5) := by
  refine ⟨(blk_set (blk_set (blk_set (blk_set (blk_set (blk_set h 0 y0) 1 y1) 2 y2) 3 y3) 4 y4) 5 y5).trans (by simp), fun k hk => ?_, (((((hB.setCell (p := ⟨g, 0, none⟩) hg y0).setCell (p := ⟨g, 1, none⟩) hg y1).setCell (p := ⟨g, 2, none⟩) hg y2).setCell (p := ⟨g, 3, none⟩) hg y3).setCell (p := ⟨g, 4, none⟩) hg y4).setCell (p := ⟨g, 5, none⟩) hg y5⟩
  rw [Below.heap_setCell _ ⟨g, 5, none⟩ _ k hk, Below.heap_setCell _ ⟨g, 4, none⟩ _ k hk, Below.heap_setCell _ ⟨g, 3, none⟩ _ k hk, Below.heap_setCell _ ⟨g, 2, none⟩ _ k hk, Below.heap_setCell _ ⟨g, 1, none⟩ _ k hk, Below.heap_setCell _ ⟨g, 0, none⟩ _ k hk]
theorem wake_run {w w' : World} {g10 g11 g20 : Nat} (hp : PF w' (aX g10 g11 g20) EX) (hB : Below w.heap.size w w') :
    Calls Try.prog 34 #[.agg #[.slice none 0 0, .slice (some ⟨g10, 0, none⟩) 1 1, .slice (some ⟨g11, 0, none⟩) 1 1, .slice none 0 0, .slice none 0 0, .slice (some ⟨g20, 0, none⟩) 1 1], .int .i64 0, .int .i16 0, .agg #[.slice (some ⟨w'.heap.size + 1, 0, none⟩) 1 1, .slice none 0 0], .slice (some ⟨w'.heap.size + 1 + 1, 0, none⟩) 1 1, .int .i64 0]
      (((w'.alloc (.cells #[.int .i16 3] 29)).alloc (.cells #[.slice (some ⟨w'.heap.size, 0, none⟩) 1 1] 33)).alloc (.cells #[.int .i16 5] 29)) fun e W5 => ∃ adG cG adr cr AC nC cC adE cE AO nO cO adS cS, e = .returned (.tuple #[.agg #[.slice (some adG) 1 cG, .slice AC nC cC, .slice (some adE) 1 cE, .slice AO nO cO, .int .i64 0, .int .i64 1, .slice (some adS) 1 cS], .int .i64 0]) ∧
        W5.cell? adG = some (.slice (some adr) 1 cr) ∧ W5.cell? adr = some (.int .i16 15) ∧ W5.cell? adE = some (.int .i16 15) ∧ W5.cell? adS = some (.int .i64 0) ∧ Below w.heap.size w W5 := by
  obtain ⟨W3, hW3⟩ : ∃ W3, W3 = ((w'.alloc (.cells #[.int .i16 3] 29)).alloc (.cells #[.slice (some ⟨w'.heap.size, 0, none⟩) 1 1] 33)).alloc (.cells #[.int .i16 5] 29) := ⟨_, rfl⟩
  have hB3 : Below w'.heap.size w' W3 := by rw [hW3]; exact below_alloc (below_alloc (below_alloc (Below.refl _ _) _) _) _
  have b0 : W3.heap[w'.heap.size]? = some (.cells [Value.int .i16 3].toArray 29 (0, 0)) := by
    rw [hW3]; exact (Below.heap_alloc _ _ _ (by simp; omega)).trans ((Below.heap_alloc _ _ _ (by simp)).trans (World.alloc_heap_new w' _))
  have b1 : W3.heap[w'.heap.size + 1]? = some (.cells [Value.slice (some ⟨w'.heap.size, 0, none⟩) 1 1].toArray 33 (0, 0)) := by
    rw [hW3]
    have := World.alloc_heap_new (w'.alloc (.cells #[.int .i16 3] 29)) (.cells #[.slice (some ⟨w'.heap.size, 0, none⟩) 1 1] 33)
    rw [World.size_alloc] at this
    exact (Below.heap_alloc _ _ _ (by simp)).trans this
  have b2 : W3.heap[w'.heap.size + 1 + 1]? = some (.cells [Value.int .i16 5].toArray 29 (0, 0)) := by
    rw [hW3]
    have := World.alloc_heap_new ((w'.alloc (.cells #[.int .i16 3] 29)).alloc (.cells #[.slice (some ⟨w'.heap.size, 0, none⟩) 1 1] 33)) (.cells #[.int .i16 5] 29)
    rwa [World.size_alloc, World.size_alloc] at this
  have hR : Kd.C (Kd.int .i16) W3 (some ⟨w'.heap.size + 1 + 1, 0, none⟩) 1 [(5 : Int)] := C_one b2 (show (Kd.int .i16).K W3 5 [.int .i16 5] from rfl)
  have hr : Kd.C (Kd.int .i16) W3 (some ⟨w'.heap.size, 0, none⟩) 1 [(3 : Int)] := C_one b0 (show (Kd.int .i16).K W3 3 [.int .i16 3] from rfl)
  have hG : Kd.C (Kd.slice 29 (Kd.int .i16)) W3 (some ⟨w'.heap.size + 1, 0, none⟩) 1 [[(3 : Int)]] := C_one b1 ⟨_, _, rfl, Nat.le_refl _, hr⟩
  rw [← hW3]
  refine (run_calls W3 (aX g10 g11 g20) EX (hp.up hB3) dsX _ 1 none 0 [[3]] [] hG (Nat.le_refl _) (C_nil _ _ _) (Nat.le_refl _) _ 1 hR (by decide) (by intro xs hxs; simp at hxs; subst hxs; decide) 0 (by decide) 0 0 (Int.le_refl _) 10 fitX 10 0 MX runX).mono ?_
  rintro e W5 ⟨v, rfl, ⟨G, C, Em, O, S, gs, cs, hv, hTwo, hE, hO, hS⟩, hB5⟩
  rw [if_neg (by decide)] at hv hTwo hE hO hS ⊢
  obtain ⟨AG, cG, rfl, _⟩ := Kd.Q_slice hTwo.qG.q
  obtain ⟨AC, cC, rfl, _⟩ := Kd.Q_slice hTwo.qC.q
  obtain ⟨AE, cE, rfl, _⟩ := Kd.Q_slice hE.q
  obtain ⟨AO, cO, rfl, _⟩ := Kd.Q_slice hO.q
  obtain ⟨AS, cS, rfl, _⟩ := Kd.Q_slice hS.q
  obtain ⟨adG, rfl, hn, A1, c1, hs, hx0, hq⟩ := row_of hTwo.qG hTwo.gr 0 (Int.le_refl _) (by decide)
  obtain ⟨adr, e1, hx1⟩ := int_at hq 0 (Int.le_refl _) (by decide)
  obtain ⟨adE, e2, hx2⟩ := int_at hE 0 (Int.le_refl _) (by decide)
  obtain ⟨adS, e3, hx3⟩ := int_at hS 0 (Int.le_refl _) (by decide)
  subst e1 e2 e3
  rw [show (0 : Int).toNat = 0 from rfl, aadd0] at hx0 hx1 hx2 hx3
  rw [hn] at hv
  exact ⟨adG, cG, adr, c1, AC, cs.length, cC, adE, cE, AO, _, cO, adS, cS, by rw [hv]; rfl, hx0, hx1, hx2, hx3, hB.trans ((hB3.trans (hB5.mono hB3.size)).mono hB.size)⟩
def wakes.T2 : Bool × List (List Nat × List Nat) := (true, [([], []), ([0], [0]), ([], []), ([], []), ([3], [3]), ([4], [4]), ([], []), ([6], [6]), ([7], [7]), ([5, 8], [5, 8]), ([9], [9]), ([10], [10]), ([1, 2, 11], [1, 2, 11]), ([], []), ([13, 12, 6, 0, 1, 2, 3, 4, 5, 6, 7, 8, 9, 10, 11, 12, 13], [12, 13])])
def wakes.B2 : List Nat := [0, 1, 0, 0, 8, 24, 0, 64, 192, 504, 1016, 2040, 4095, 0, 16383]
theorem wakes.tab2 : rtab .any (opsOf Try.f11 2) = wakes.T2 := by kernel_rfl
theorem wakes.bits2 : waitsOk wakes.T2.2 wakes.B2 = true := by kernel_rfl
set_option maxRecDepth 100000 in
set_option maxHeartbeats 16000000 in
theorem wakes_calls (w : World) : Calls Try.prog 11 #[] w fun e w' => e = .returned (.bool true) ∧ Below w.heap.size w w' := by
  go_enter Try.func11, Try.ntmps11
  go_wp2_with (first
    | (go_at_call 33; refine (name_x _ _).mono ?_; rintro e w1 ⟨rfl, hB1⟩))
  obtain ⟨gy, hgy⟩ : ∃ gy, gy = w1.heap.size := ⟨_, rfl⟩
  obtain ⟨gx, hgx⟩ : ∃ gx, gx = w1.heap.size + 1 := ⟨_, rfl⟩
  obtain ⟨wb0, hwb⟩ : ∃ wb0, wb0 = (w1.alloc (.cells #[.int .i64 2, .string ⟨#[120]⟩, .int .i16 0, .int .i64 0, .slice none 0 0, .int .i64 0, .int .i64 4, .string ⟨#[115]⟩, .int .i16 0, .int .i64 0, .slice none 0 0, .int .i64 0] 56)).alloc (.cells #[.int .i64 6, .string ⟨#[]⟩, .int .i16 0, .int .i64 5, .slice (some ⟨w1.heap.size, 0, none⟩) 2 2, .int .i64 0] 56) := ⟨_, rfl⟩
  have hkx : wb0.heap[gx]? = some (.cells #[.int .i64 6, .string ⟨#[]⟩, .int .i16 0, .int .i64 5, .slice (some ⟨gy, 0, none⟩) 2 2, .int .i64 0] 56 (0, 0)) := by
    rw [hwb, hgx, hgy]
    have := World.alloc_heap_new (w1.alloc (.cells #[.int .i64 2, .string ⟨#[120]⟩, .int .i16 0, .int .i64 0, .slice none 0 0, .int .i64 0, .int .i64 4, .string ⟨#[115]⟩, .int .i16 0, .int .i64 0, .slice none 0 0, .int .i64 0] 56)) (.cells #[.int .i64 6, .string ⟨#[]⟩, .int .i16 0, .int .i64 5, .slice (some ⟨w1.heap.size, 0, none⟩) 2 2, .int .i64 0] 56)
    rwa [World.size_alloc] at this
  have hky : wb0.heap[gy]? = some (.cells #[.int .i64 2, .string ⟨#[120]⟩, .int .i16 0, .int .i64 0, .slice none 0 0, .int .i64 0, .int .i64 4, .string ⟨#[115]⟩, .int .i16 0, .int .i64 0, .slice none 0 0, .int .i64 0] 56 (0, 0)) := by
    rw [hwb, hgy]
    exact (Below.heap_alloc _ _ _ (by simp)).trans (World.alloc_heap_new w1 _)
  have hBw : Below w.heap.size w wb0 := by rw [hwb]; exact below_alloc (below_alloc hB1 _) _
  rw [← hwb]
  rw [← hgx, ← hgy]
  have HKY : Aside0 (wb0.drew.heap[gy]? = some (.cells #[.int .i64 2, .string ⟨#[120]⟩, .int .i16 0, .int .i64 0, .slice none 0 0, .int .i64 0, .int .i64 4, .string ⟨#[115]⟩, .int .i16 0, .int .i64 0, .slice none 0 0, .int .i64 0] 56 (0, 0))) := ⟨hky⟩
  have HWB : Aside0 (Below w.heap.size w wb0.drew ∧ wb0.drew.heap[gy]? = some (.cells #[.int .i64 2, .string ⟨#[120]⟩, .int .i16 0, .int .i64 0, .slice none 0 0, .int .i64 0, .int .i64 4, .string ⟨#[115]⟩, .int .i16 0, .int .i64 0, .slice none 0 0, .int .i64 0] 56 (0, 0))) := ⟨below_drew1 hBw, hky⟩
  have X0 : Aside0 (wb0.drew.cell? ⟨gx, 0, none⟩ = some (.int .i64 6)) := ⟨(blk_cell hkx 0).trans rfl⟩
  have X1 : Aside0 (wb0.drew.cell? ⟨gx, 1, none⟩ = some (.string ⟨#[]⟩)) := ⟨(blk_cell hkx 1).trans rfl⟩
  have X2 : Aside0 (wb0.drew.cell? ⟨gx, 2, none⟩ = some (.int .i16 0)) := ⟨(blk_cell hkx 2).trans rfl⟩
  have X3 : Aside0 (wb0.drew.cell? ⟨gx, 3, none⟩ = some (.int .i64 5)) := ⟨(blk_cell hkx 3).trans rfl⟩
  have X4 : Aside0 (wb0.drew.cell? ⟨gx, 4, none⟩ = some (.slice (some ⟨gy, 0, none⟩) 2 2)) := ⟨(blk_cell hkx 4).trans rfl⟩
  have X5 : Aside0 (wb0.drew.cell? ⟨gx, 5, none⟩ = some (.int .i64 0)) := ⟨(blk_cell hkx 5).trans rfl⟩
  clear hwb hgx hgy hkx hky hBw hB1 HKY
  refine start_ (n := 15) (S := fun w' => True) (ds := []) #[false, false, false, false, false, false, false, false, false, false, false, false, false, false, false] (by kernel_rfl) rfl rfl trivial (fun hHeld => ?_)
  refine with_tabW wakes.tab2 wakes.bits2 (fun HT_ HW_ => ?_)
  generalize wb0.drew = wb at X0 X1 X2 X3 X4 X5 HWB hHeld ⊢
  have FB : Below wb.heap.size wb wb := Below.refl _ _
  refine inv_at [0, 1, 2, 3, 4, 5, 6, 7, 8, 9, 10, 11, 12, 13, 14] (fun a0_ b a w' => ∃ (g10 : Nat) (g11 : Nat) (g13 : Nat) (g16 : Nat) (g18 : Nat) (g20 : Nat) (g2 : Nat) (m1_ : Value) (m2_ : Value) (m4_ : Value) (m5_ : Value) (m7_ : Value) (m8_ : Value) (m9_ : Value) (m10_ : Value) (m11_ : Value) (m12_ : Value) (m13_ : Value), a = putSel a0_ b [(0, 9, .agg #[.string ⟨#[120]⟩, .int .i64 0, .int .i16 3, .int .i64 0]), (1, 10, m1_), (2, 11, m2_), (3, 12, .agg #[.int .i64 6, .string ⟨#[]⟩, .int .i16 0, .int .i64 5, .slice (some ⟨gy, 0, none⟩) 2 2, .int .i64 0]), (4, 13, m4_), (5, 14, m5_), (6, 15, .agg #[.int .i64 2, .string ⟨#[120]⟩, .int .i16 0, .int .i64 0, .slice none 0 0, .int .i64 0]), (7, 16, m7_), (8, 17, m8_), (9, 18, m9_), (10, 19, m10_), (11, 20, m11_), (12, 21, m12_), (13, 2, m13_)] ∧ (Below wb.heap.size wb w') ∧ (b 13 = true → wb.heap.size ≤ g2) ∧ (b 1 = true → w'.heap[g10]? = some (.cells #[.string ⟨#[120]⟩, .int .i64 0, .int .i16 3, .int .i64 0] 85 (0, 0))) ∧ (b 2 = true → w'.heap[g11]? = some (.cells #[.string ⟨#[115]⟩] 9 (0, 0))) ∧ (b 4 = true → w'.heap[g13]? = some (.cells #[.int .i64 6, .string ⟨#[]⟩, .int .i16 0, .int .i64 5, .slice (some ⟨gy, 0, none⟩) 2 2, .int .i64 0] 56 (0, 0))) ∧ (b 7 = true → w'.heap[g16]? = some (.cells #[.int .i64 2, .string ⟨#[120]⟩, .int .i16 0, .int .i64 0, .slice none 0 0, .int .i64 0] 56 (0, 0))) ∧ (b 9 = true → w'.heap[g18]? = some (.cells #[.int .i64 2, .string ⟨#[120]⟩, .int .i64 0, .slice (some ⟨g13, 0, none⟩) 1 1, .slice none 0 0, .slice none 0 0, .int .i64 0, .int .i64 8, .string ⟨#[]⟩, .int .i64 0, .slice (some ⟨g16, 0, none⟩) 1 1, .slice none 0 0, .slice none 0 0, .int .i64 0] 59 (0, 0))) ∧ (b 11 = true → w'.heap[g20]? = some (.cells #[.string ⟨#[116]⟩, .int .i64 9, .int .i64 0, .string ⟨#[]⟩, .string ⟨#[]⟩, .int .i64 0, .slice (some ⟨g18, 0, none⟩) 2 2, .int .i64 0] 61 (0, 0))) ∧ (b 13 = true → b 14 = false → w'.heap[g2]? = some (.cells #[.slice none 0 0, .slice none 0 0, .slice none 0 0, .slice none 0 0, .slice none 0 0, .slice none 0 0] 28 (0, 0))) ∧ (b 14 = true → w'.heap[g2]? = some (.cells #[.slice none 0 0, .slice (some ⟨g10, 0, none⟩) 1 1, .slice (some ⟨g11, 0, none⟩) 1 1, .slice none 0 0, .slice none 0 0, .slice (some ⟨g20, 0, none⟩) 1 1] 28 (0, 0))) ∧ (b 1 = true → (m1_ : Value) = .slice (some ⟨g10, 0, none⟩) 1 1) ∧ (b 2 = true → (m2_ : Value) = .slice (some ⟨g11, 0, none⟩) 1 1) ∧ (b 4 = true → (m4_ : Value) = .slice (some ⟨g13, 0, none⟩) 1 1) ∧ (b 5 = true → (m5_ : Value) = .agg #[.int .i64 2, .string ⟨#[120]⟩, .int .i64 0, .slice (some ⟨g13, 0, none⟩) 1 1, .slice none 0 0, .slice none 0 0, .int .i64 0]) ∧ (b 7 = true → (m7_ : Value) = .slice (some ⟨g16, 0, none⟩) 1 1) ∧ (b 8 = true → (m8_ : Value) = .agg #[.int .i64 8, .string ⟨#[]⟩, .int .i64 0, .slice (some ⟨g16, 0, none⟩) 1 1, .slice none 0 0, .slice none 0 0, .int .i64 0]) ∧ (b 9 = true → (m9_ : Value) = .slice (some ⟨g18, 0, none⟩) 2 2) ∧ (b 10 = true → (m10_ : Value) = .agg #[.string ⟨#[116]⟩, .int .i64 9, .int .i64 0, .string ⟨#[]⟩, .string ⟨#[]⟩, .int .i64 0, .slice (some ⟨g18, 0, none⟩) 2 2, .int .i64 0]) ∧ (b 11 = true → (m11_ : Value) = .slice (some ⟨g20, 0, none⟩) 1 1) ∧ (b 12 = true → (m12_ : Value) = .agg #[.slice none 0 0, .slice (some ⟨g10, 0, none⟩) 1 1, .slice (some ⟨g11, 0, none⟩) 1 1, .slice none 0 0, .slice none 0 0, .slice (some ⟨g20, 0, none⟩) 1 1]) ∧ (b 13 = true → (m13_ : Value) = .pointer (some ⟨g2, 0, none⟩))) HT_.out HW_.out (by kernel_rfl) (by kernel_rfl) ?_ ?_ ?_
  · exact ⟨0, 0, 0, 0, 0, 0, 0, .bool false, .bool false, .bool false, .bool false, .bool false, .bool false, .bool false, .bool false, .bool false, .bool false, .bool false, by simp only [putSel, Bool.false_eq_true, if_false], FB, fun h_ => absurd h_ (by decide), fun h_ => absurd h_ (by decide), fun h_ => absurd h_ (by decide), fun h_ => absurd h_ (by decide), fun h_ => absurd h_ (by decide), fun h_ => absurd h_ (by decide), fun h_ => absurd h_ (by decide), fun h_ => absurd h_ (by decide), fun h_ => absurd h_ (by decide), fun h_ => absurd h_ (by decide), fun h_ => absurd h_ (by decide), fun h_ => absurd h_ (by decide), fun h_ => absurd h_ (by decide), fun h_ => absurd h_ (by decide), fun h_ => absurd h_ (by decide), fun h_ => absurd h_ (by decide), fun h_ => absurd h_ (by decide), fun h_ => absurd h_ (by decide), fun h_ => absurd h_ (by decide), fun h_ => absurd h_ (by decide)⟩
  · skip
    clear FB
    refine steps_cons ?_ ?_
    · rintro b a w' ⟨g10, g11, g13, g16, g18, g20, g2, m1_, m2_, m4_, m5_, m7_, m8_, m9_, m10_, m11_, m12_, m13_, ha, Q_FB, Q_FG, Q_F10, Q_F11, Q_F13, Q_F16, Q_F18, Q_F20, Q_F2, Q_F2b, Q_X1_, Q_X2_, Q_X4_, Q_X5_, Q_X7_, Q_X8_, Q_X9_, Q_X10_, Q_X11_, Q_X12_, Q_X13_⟩ hb_ hon hoff
      refine ⟨_, rfl, fun K hK => ?_⟩
      replace ha := Aside0.mk ha
      have FB := Aside0.mk Q_FB
      refine value_ (w1 := w') (v := .agg #[.string ⟨#[120]⟩, .int .i64 0, .int .i16 3, .int .i64 0]) (by rfl) rfl ?_ ?_
      · go_simp
        (try simp only [i64_w])
        try rfl
      refine hK.out _ _ ⟨g10, g11, g13, g16, g18, g20, g2, m1_, m2_, m4_, m5_, m7_, m8_, m9_, m10_, m11_, m12_, m13_, (by rw [ha.out]; exact putSel_upk 0 hb_ rfl rfl rfl), Q_FB, Q_FG, fun h0_ => absurd ((hoff 1 (by kernel_rfl)).symm.trans h0_) (by decide), Q_F11, Q_F13, Q_F16, Q_F18, Q_F20, Q_F2, fun h0_ => absurd ((hoff 14 (by kernel_rfl)).symm.trans h0_) (by decide), fun h0_ => absurd ((hoff 1 (by kernel_rfl)).symm.trans h0_) (by decide), Q_X2_, Q_X4_, Q_X5_, Q_X7_, Q_X8_, Q_X9_, Q_X10_, Q_X11_, fun h0_ => absurd ((hoff 12 (by kernel_rfl)).symm.trans h0_) (by decide), Q_X13_⟩
    refine steps_cons ?_ ?_
    · rintro b a w' ⟨g10, g11, g13, g16, g18, g20, g2, m1_, m2_, m4_, m5_, m7_, m8_, m9_, m10_, m11_, m12_, m13_, ha, Q_FB, Q_FG, Q_F10, Q_F11, Q_F13, Q_F16, Q_F18, Q_F20, Q_F2, Q_F2b, Q_X1_, Q_X2_, Q_X4_, Q_X5_, Q_X7_, Q_X8_, Q_X9_, Q_X10_, Q_X11_, Q_X12_, Q_X13_⟩ hb_ hon hoff
      refine ⟨_, rfl, fun K hK => ?_⟩
      have e9 : a.tmps[9]? = some (.agg #[.string ⟨#[120]⟩, .int .i64 0, .int .i16 3, .int .i64 0]) := by rw [ha]; exact putSel_on (e := (0, 9, .agg #[.string ⟨#[120]⟩, .int .i64 0, .int .i16 3, .int .i64 0])) 0 rfl rfl (hon 0 (by kernel_rfl)) rfl
      replace ha := Aside0.mk ha
      have FB := Aside0.mk Q_FB
      refine event_step (w1 := w'.alloc (.cells #[.string ⟨#[120]⟩, .int .i64 0, .int .i16 3, .int .i64 0] 85)) (v := .slice (some ⟨w'.heap.size, 0, none⟩) 1 1) (by rfl) (by first | (go_simp; done) | (go_simp; rfl)) ?_
      refine hK.out _ _ ⟨w'.heap.size, g11, g13, g16, g18, g20, g2, (.slice (some ⟨w'.heap.size, 0, none⟩) 1 1), m2_, m4_, m5_, m7_, m8_, m9_, m10_, m11_, m12_, m13_, (by rw [ha.out]; exact putSel_upk 1 hb_ rfl rfl rfl), below_alloc FB.out _, Q_FG, fun _ => World.alloc_heap_new w' _, fun h0_ => (Below.heap_alloc _ _ _ (Array.getElem?_eq_some_iff.1 (Q_F11 h0_)).1).trans (Q_F11 h0_), fun h0_ => (Below.heap_alloc _ _ _ (Array.getElem?_eq_some_iff.1 (Q_F13 h0_)).1).trans (Q_F13 h0_), fun h0_ => (Below.heap_alloc _ _ _ (Array.getElem?_eq_some_iff.1 (Q_F16 h0_)).1).trans (Q_F16 h0_), fun h0_ => (Below.heap_alloc _ _ _ (Array.getElem?_eq_some_iff.1 (Q_F18 h0_)).1).trans (Q_F18 h0_), fun h0_ => (Below.heap_alloc _ _ _ (Array.getElem?_eq_some_iff.1 (Q_F20 h0_)).1).trans (Q_F20 h0_), fun h0_ h1_ => (Below.heap_alloc _ _ _ (Array.getElem?_eq_some_iff.1 (Q_F2 h0_ h1_)).1).trans (Q_F2 h0_ h1_), fun h0_ => absurd ((hoff 14 (by kernel_rfl)).symm.trans h0_) (by decide), fun _ => rfl, Q_X2_, Q_X4_, Q_X5_, Q_X7_, Q_X8_, Q_X9_, Q_X10_, Q_X11_, fun h0_ => absurd ((hoff 12 (by kernel_rfl)).symm.trans h0_) (by decide), Q_X13_⟩
    refine steps_cons ?_ ?_
    · rintro b a w' ⟨g10, g11, g13, g16, g18, g20, g2, m1_, m2_, m4_, m5_, m7_, m8_, m9_, m10_, m11_, m12_, m13_, ha, Q_FB, Q_FG, Q_F10, Q_F11, Q_F13, Q_F16, Q_F18, Q_F20, Q_F2, Q_F2b, Q_X1_, Q_X2_, Q_X4_, Q_X5_, Q_X7_, Q_X8_, Q_X9_, Q_X10_, Q_X11_, Q_X12_, Q_X13_⟩ hb_ hon hoff
      refine ⟨_, rfl, fun K hK => ?_⟩
      replace ha := Aside0.mk ha
      have FB := Aside0.mk Q_FB
      refine event_step (w1 := w'.alloc (.cells #[.string ⟨#[115]⟩] 9)) (v := .slice (some ⟨w'.heap.size, 0, none⟩) 1 1) (by rfl) (by first | (go_simp; done) | (go_simp; rfl)) ?_
      refine hK.out _ _ ⟨g10, w'.heap.size, g13, g16, g18, g20, g2, m1_, (.slice (some ⟨w'.heap.size, 0, none⟩) 1 1), m4_, m5_, m7_, m8_, m9_, m10_, m11_, m12_, m13_, (by rw [ha.out]; exact putSel_upk 2 hb_ rfl rfl rfl), below_alloc FB.out _, Q_FG, fun h0_ => (Below.heap_alloc _ _ _ (Array.getElem?_eq_some_iff.1 (Q_F10 h0_)).1).trans (Q_F10 h0_), fun _ => World.alloc_heap_new w' _, fun h0_ => (Below.heap_alloc _ _ _ (Array.getElem?_eq_some_iff.1 (Q_F13 h0_)).1).trans (Q_F13 h0_), fun h0_ => (Below.heap_alloc _ _ _ (Array.getElem?_eq_some_iff.1 (Q_F16 h0_)).1).trans (Q_F16 h0_), fun h0_ => (Below.heap_alloc _ _ _ (Array.getElem?_eq_some_iff.1 (Q_F18 h0_)).1).trans (Q_F18 h0_), fun h0_ => (Below.heap_alloc _ _ _ (Array.getElem?_eq_some_iff.1 (Q_F20 h0_)).1).trans (Q_F20 h0_), fun h0_ h1_ => (Below.heap_alloc _ _ _ (Array.getElem?_eq_some_iff.1 (Q_F2 h0_ h1_)).1).trans (Q_F2 h0_ h1_), fun h0_ => absurd ((hoff 14 (by kernel_rfl)).symm.trans h0_) (by decide), Q_X1_, fun _ => rfl, Q_X4_, Q_X5_, Q_X7_, Q_X8_, Q_X9_, Q_X10_, Q_X11_, fun h0_ => absurd ((hoff 12 (by kernel_rfl)).symm.trans h0_) (by decide), Q_X13_⟩
    refine steps_cons ?_ ?_
    · rintro b a w' ⟨g10, g11, g13, g16, g18, g20, g2, m1_, m2_, m4_, m5_, m7_, m8_, m9_, m10_, m11_, m12_, m13_, ha, Q_FB, Q_FG, Q_F10, Q_F11, Q_F13, Q_F16, Q_F18, Q_F20, Q_F2, Q_F2b, Q_X1_, Q_X2_, Q_X4_, Q_X5_, Q_X7_, Q_X8_, Q_X9_, Q_X10_, Q_X11_, Q_X12_, Q_X13_⟩ hb_ hon hoff
      refine ⟨_, rfl, fun K hK => ?_⟩
      have e1 : a.tmps[1]? = some (.pointer (some ⟨gx, 0, none⟩)) := by rw [ha]; exact (putSel_off rfl).trans rfl
      replace ha := Aside0.mk ha
      have FB := Aside0.mk Q_FB
      have x0 := cell_up FB.out X0.out
      have x1 := cell_up FB.out X1.out
      have x2 := cell_up FB.out X2.out
      have x3 := cell_up FB.out X3.out
      have x4 := cell_up FB.out X4.out
      have x5 := cell_up FB.out X5.out
      refine value_ (w1 := w') (v := .agg #[.int .i64 6, .string ⟨#[]⟩, .int .i16 0, .int .i64 5, .slice (some ⟨gy, 0, none⟩) 2 2, .int .i64 0]) (by rfl) rfl ?_ ?_
      · go_simp
        (try simp only [i64_w])
        try rfl
      refine hK.out _ _ ⟨g10, g11, g13, g16, g18, g20, g2, m1_, m2_, m4_, m5_, m7_, m8_, m9_, m10_, m11_, m12_, m13_, (by rw [ha.out]; exact putSel_upk 3 hb_ rfl rfl rfl), Q_FB, Q_FG, Q_F10, Q_F11, fun h0_ => absurd ((hoff 4 (by kernel_rfl)).symm.trans h0_) (by decide), Q_F16, fun h0_ => absurd ((hoff 9 (by kernel_rfl)).symm.trans h0_) (by decide), fun h0_ => absurd ((hoff 11 (by kernel_rfl)).symm.trans h0_) (by decide), Q_F2, fun h0_ => absurd ((hoff 14 (by kernel_rfl)).symm.trans h0_) (by decide), Q_X1_, Q_X2_, fun h0_ => absurd ((hoff 4 (by kernel_rfl)).symm.trans h0_) (by decide), fun h0_ => absurd ((hoff 5 (by kernel_rfl)).symm.trans h0_) (by decide), Q_X7_, Q_X8_, fun h0_ => absurd ((hoff 9 (by kernel_rfl)).symm.trans h0_) (by decide), fun h0_ => absurd ((hoff 10 (by kernel_rfl)).symm.trans h0_) (by decide), fun h0_ => absurd ((hoff 11 (by kernel_rfl)).symm.trans h0_) (by decide), fun h0_ => absurd ((hoff 12 (by kernel_rfl)).symm.trans h0_) (by decide), Q_X13_⟩
    refine steps_cons ?_ ?_
    · rintro b a w' ⟨g10, g11, g13, g16, g18, g20, g2, m1_, m2_, m4_, m5_, m7_, m8_, m9_, m10_, m11_, m12_, m13_, ha, Q_FB, Q_FG, Q_F10, Q_F11, Q_F13, Q_F16, Q_F18, Q_F20, Q_F2, Q_F2b, Q_X1_, Q_X2_, Q_X4_, Q_X5_, Q_X7_, Q_X8_, Q_X9_, Q_X10_, Q_X11_, Q_X12_, Q_X13_⟩ hb_ hon hoff
      refine ⟨_, rfl, fun K hK => ?_⟩
      have e12 : a.tmps[12]? = some (.agg #[.int .i64 6, .string ⟨#[]⟩, .int .i16 0, .int .i64 5, .slice (some ⟨gy, 0, none⟩) 2 2, .int .i64 0]) := by rw [ha]; exact putSel_on (e := (3, 12, .agg #[.int .i64 6, .string ⟨#[]⟩, .int .i16 0, .int .i64 5, .slice (some ⟨gy, 0, none⟩) 2 2, .int .i64 0])) 3 rfl rfl (hon 3 (by kernel_rfl)) rfl
      replace ha := Aside0.mk ha
      have FB := Aside0.mk Q_FB
      refine event_step (w1 := w'.alloc (.cells #[.int .i64 6, .string ⟨#[]⟩, .int .i16 0, .int .i64 5, .slice (some ⟨gy, 0, none⟩) 2 2, .int .i64 0] 56)) (v := .slice (some ⟨w'.heap.size, 0, none⟩) 1 1) (by rfl) (by first | (go_simp; done) | (go_simp; rfl)) ?_
      refine hK.out _ _ ⟨g10, g11, w'.heap.size, g16, g18, g20, g2, m1_, m2_, (.slice (some ⟨w'.heap.size, 0, none⟩) 1 1), m5_, m7_, m8_, m9_, m10_, m11_, m12_, m13_, (by rw [ha.out]; exact putSel_upk 4 hb_ rfl rfl rfl), below_alloc FB.out _, Q_FG, fun h0_ => (Below.heap_alloc _ _ _ (Array.getElem?_eq_some_iff.1 (Q_F10 h0_)).1).trans (Q_F10 h0_), fun h0_ => (Below.heap_alloc _ _ _ (Array.getElem?_eq_some_iff.1 (Q_F11 h0_)).1).trans (Q_F11 h0_), fun _ => World.alloc_heap_new w' _, fun h0_ => (Below.heap_alloc _ _ _ (Array.getElem?_eq_some_iff.1 (Q_F16 h0_)).1).trans (Q_F16 h0_), fun h0_ => absurd ((hoff 9 (by kernel_rfl)).symm.trans h0_) (by decide), fun h0_ => absurd ((hoff 11 (by kernel_rfl)).symm.trans h0_) (by decide), fun h0_ h1_ => (Below.heap_alloc _ _ _ (Array.getElem?_eq_some_iff.1 (Q_F2 h0_ h1_)).1).trans (Q_F2 h0_ h1_), fun h0_ => absurd ((hoff 14 (by kernel_rfl)).symm.trans h0_) (by decide), Q_X1_, Q_X2_, fun _ => rfl, fun h0_ => absurd ((hoff 5 (by kernel_rfl)).symm.trans h0_) (by decide), Q_X7_, Q_X8_, fun h0_ => absurd ((hoff 9 (by kernel_rfl)).symm.trans h0_) (by decide), fun h0_ => absurd ((hoff 10 (by kernel_rfl)).symm.trans h0_) (by decide), fun h0_ => absurd ((hoff 11 (by kernel_rfl)).symm.trans h0_) (by decide), fun h0_ => absurd ((hoff 12 (by kernel_rfl)).symm.trans h0_) (by decide), Q_X13_⟩
    refine steps_cons ?_ ?_
    · rintro b a w' ⟨g10, g11, g13, g16, g18, g20, g2, m1_, m2_, m4_, m5_, m7_, m8_, m9_, m10_, m11_, m12_, m13_, ha, Q_FB, Q_FG, Q_F10, Q_F11, Q_F13, Q_F16, Q_F18, Q_F20, Q_F2, Q_F2b, Q_X1_, Q_X2_, Q_X4_, Q_X5_, Q_X7_, Q_X8_, Q_X9_, Q_X10_, Q_X11_, Q_X12_, Q_X13_⟩ hb_ hon hoff
      refine ⟨_, rfl, fun K hK => ?_⟩
      have e13 : a.tmps[13]? = some (m4_) := by rw [ha]; exact putSel_on (e := (4, 13, m4_)) 4 rfl rfl (hon 4 (by kernel_rfl)) rfl
      rw [Q_X4_ (hon 4 (by kernel_rfl))] at e13
      replace ha := Aside0.mk ha
      have FB := Aside0.mk Q_FB
      have F13 := Aside0.mk (Q_F13 (hon 4 (by kernel_rfl)))
      refine value_ (w1 := w') (v := .agg #[.int .i64 2, .string ⟨#[120]⟩, .int .i64 0, .slice (some ⟨g13, 0, none⟩) 1 1, .slice none 0 0, .slice none 0 0, .int .i64 0]) (by rfl) rfl ?_ ?_
      · go_simp
        (try simp only [i64_w])
        try rfl
      refine hK.out _ _ ⟨g10, g11, g13, g16, g18, g20, g2, m1_, m2_, m4_, (.agg #[.int .i64 2, .string ⟨#[120]⟩, .int .i64 0, .slice (some ⟨g13, 0, none⟩) 1 1, .slice none 0 0, .slice none 0 0, .int .i64 0]), m7_, m8_, m9_, m10_, m11_, m12_, m13_, (by rw [ha.out]; exact putSel_upk 5 hb_ rfl rfl rfl), Q_FB, Q_FG, Q_F10, Q_F11, Q_F13, Q_F16, fun h0_ => absurd ((hoff 9 (by kernel_rfl)).symm.trans h0_) (by decide), fun h0_ => absurd ((hoff 11 (by kernel_rfl)).symm.trans h0_) (by decide), Q_F2, fun h0_ => absurd ((hoff 14 (by kernel_rfl)).symm.trans h0_) (by decide), Q_X1_, Q_X2_, Q_X4_, fun _ => rfl, Q_X7_, Q_X8_, fun h0_ => absurd ((hoff 9 (by kernel_rfl)).symm.trans h0_) (by decide), fun h0_ => absurd ((hoff 10 (by kernel_rfl)).symm.trans h0_) (by decide), fun h0_ => absurd ((hoff 11 (by kernel_rfl)).symm.trans h0_) (by decide), fun h0_ => absurd ((hoff 12 (by kernel_rfl)).symm.trans h0_) (by decide), Q_X13_⟩
    refine steps_cons ?_ ?_
    · rintro b a w' ⟨g10, g11, g13, g16, g18, g20, g2, m1_, m2_, m4_, m5_, m7_, m8_, m9_, m10_, m11_, m12_, m13_, ha, Q_FB, Q_FG, Q_F10, Q_F11, Q_F13, Q_F16, Q_F18, Q_F20, Q_F2, Q_F2b, Q_X1_, Q_X2_, Q_X4_, Q_X5_, Q_X7_, Q_X8_, Q_X9_, Q_X10_, Q_X11_, Q_X12_, Q_X13_⟩ hb_ hon hoff
      refine ⟨_, rfl, fun K hK => ?_⟩
      replace ha := Aside0.mk ha
      have FB := Aside0.mk Q_FB
      refine goes_ Try.func33 (by kernel_rfl) rfl #[.string ⟨#[120]⟩] (by rfl) rfl rfl (by first | (simp only [List.map_toArray, List.map_cons, List.map_nil, Act.eval, Array.getD_eq_getD_getElem?, Option.getD_some]; done) | (simp only [List.map_toArray, List.map_cons, List.map_nil, Act.eval, Array.getD_eq_getD_getElem?, Option.getD_some]; rfl)) ?_
      refine (name_x ⟨#[120]⟩ w').mono ?_
      rintro e w1 ⟨rfl, hB6_⟩
      have hB6 := Aside0.mk hB6_
      refine ⟨_, rfl, ?_⟩
      refine hK.out _ _ ⟨g10, g11, g13, g16, g18, g20, g2, m1_, m2_, m4_, m5_, m7_, m8_, m9_, m10_, m11_, m12_, m13_, (by rw [ha.out]; exact putSel_upk 6 hb_ rfl rfl rfl), below_step FB.out hB6.out, Q_FG, fun h0_ => (hB6.out.block _ (Array.getElem?_eq_some_iff.1 (Q_F10 h0_)).1).trans (Q_F10 h0_), fun h0_ => (hB6.out.block _ (Array.getElem?_eq_some_iff.1 (Q_F11 h0_)).1).trans (Q_F11 h0_), fun h0_ => (hB6.out.block _ (Array.getElem?_eq_some_iff.1 (Q_F13 h0_)).1).trans (Q_F13 h0_), fun h0_ => absurd ((hoff 7 (by kernel_rfl)).symm.trans h0_) (by decide), fun h0_ => absurd ((hoff 9 (by kernel_rfl)).symm.trans h0_) (by decide), fun h0_ => absurd ((hoff 11 (by kernel_rfl)).symm.trans h0_) (by decide), fun h0_ h1_ => (hB6.out.block _ (Array.getElem?_eq_some_iff.1 (Q_F2 h0_ h1_)).1).trans (Q_F2 h0_ h1_), fun h0_ => absurd ((hoff 14 (by kernel_rfl)).symm.trans h0_) (by decide), Q_X1_, Q_X2_, Q_X4_, Q_X5_, fun h0_ => absurd ((hoff 7 (by kernel_rfl)).symm.trans h0_) (by decide), fun h0_ => absurd ((hoff 8 (by kernel_rfl)).symm.trans h0_) (by decide), fun h0_ => absurd ((hoff 9 (by kernel_rfl)).symm.trans h0_) (by decide), fun h0_ => absurd ((hoff 10 (by kernel_rfl)).symm.trans h0_) (by decide), fun h0_ => absurd ((hoff 11 (by kernel_rfl)).symm.trans h0_) (by decide), fun h0_ => absurd ((hoff 12 (by kernel_rfl)).symm.trans h0_) (by decide), Q_X13_⟩
    refine steps_cons ?_ ?_
    · rintro b a w' ⟨g10, g11, g13, g16, g18, g20, g2, m1_, m2_, m4_, m5_, m7_, m8_, m9_, m10_, m11_, m12_, m13_, ha, Q_FB, Q_FG, Q_F10, Q_F11, Q_F13, Q_F16, Q_F18, Q_F20, Q_F2, Q_F2b, Q_X1_, Q_X2_, Q_X4_, Q_X5_, Q_X7_, Q_X8_, Q_X9_, Q_X10_, Q_X11_, Q_X12_, Q_X13_⟩ hb_ hon hoff
      refine ⟨_, rfl, fun K hK => ?_⟩
      have e15 : a.tmps[15]? = some (.agg #[.int .i64 2, .string ⟨#[120]⟩, .int .i16 0, .int .i64 0, .slice none 0 0, .int .i64 0]) := by rw [ha]; exact putSel_on (e := (6, 15, .agg #[.int .i64 2, .string ⟨#[120]⟩, .int .i16 0, .int .i64 0, .slice none 0 0, .int .i64 0])) 6 rfl rfl (hon 6 (by kernel_rfl)) rfl
      replace ha := Aside0.mk ha
      have FB := Aside0.mk Q_FB
      refine event_step (w1 := w'.alloc (.cells #[.int .i64 2, .string ⟨#[120]⟩, .int .i16 0, .int .i64 0, .slice none 0 0, .int .i64 0] 56)) (v := .slice (some ⟨w'.heap.size, 0, none⟩) 1 1) (by rfl) (by first | (go_simp; done) | (go_simp; rfl)) ?_
      refine hK.out _ _ ⟨g10, g11, g13, w'.heap.size, g18, g20, g2, m1_, m2_, m4_, m5_, (.slice (some ⟨w'.heap.size, 0, none⟩) 1 1), m8_, m9_, m10_, m11_, m12_, m13_, (by rw [ha.out]; exact putSel_upk 7 hb_ rfl rfl rfl), below_alloc FB.out _, Q_FG, fun h0_ => (Below.heap_alloc _ _ _ (Array.getElem?_eq_some_iff.1 (Q_F10 h0_)).1).trans (Q_F10 h0_), fun h0_ => (Below.heap_alloc _ _ _ (Array.getElem?_eq_some_iff.1 (Q_F11 h0_)).1).trans (Q_F11 h0_), fun h0_ => (Below.heap_alloc _ _ _ (Array.getElem?_eq_some_iff.1 (Q_F13 h0_)).1).trans (Q_F13 h0_), fun _ => World.alloc_heap_new w' _, fun h0_ => absurd ((hoff 9 (by kernel_rfl)).symm.trans h0_) (by decide), fun h0_ => absurd ((hoff 11 (by kernel_rfl)).symm.trans h0_) (by decide), fun h0_ h1_ => (Below.heap_alloc _ _ _ (Array.getElem?_eq_some_iff.1 (Q_F2 h0_ h1_)).1).trans (Q_F2 h0_ h1_), fun h0_ => absurd ((hoff 14 (by kernel_rfl)).symm.trans h0_) (by decide), Q_X1_, Q_X2_, Q_X4_, Q_X5_, fun _ => rfl, fun h0_ => absurd ((hoff 8 (by kernel_rfl)).symm.trans h0_) (by decide), fun h0_ => absurd ((hoff 9 (by kernel_rfl)).symm.trans h0_) (by decide), fun h0_ => absurd ((hoff 10 (by kernel_rfl)).symm.trans h0_) (by decide), fun h0_ => absurd ((hoff 11 (by kernel_rfl)).symm.trans h0_) (by decide), fun h0_ => absurd ((hoff 12 (by kernel_rfl)).symm.trans h0_) (by decide), Q_X13_⟩
    refine steps_cons ?_ ?_
    · rintro b a w' ⟨g10, g11, g13, g16, g18, g20, g2, m1_, m2_, m4_, m5_, m7_, m8_, m9_, m10_, m11_, m12_, m13_, ha, Q_FB, Q_FG, Q_F10, Q_F11, Q_F13, Q_F16, Q_F18, Q_F20, Q_F2, Q_F2b, Q_X1_, Q_X2_, Q_X4_, Q_X5_, Q_X7_, Q_X8_, Q_X9_, Q_X10_, Q_X11_, Q_X12_, Q_X13_⟩ hb_ hon hoff
      refine ⟨_, rfl, fun K hK => ?_⟩
      have e16 : a.tmps[16]? = some (m7_) := by rw [ha]; exact putSel_on (e := (7, 16, m7_)) 7 rfl rfl (hon 7 (by kernel_rfl)) rfl
      rw [Q_X7_ (hon 7 (by kernel_rfl))] at e16
      replace ha := Aside0.mk ha
      have FB := Aside0.mk Q_FB
      have F16 := Aside0.mk (Q_F16 (hon 7 (by kernel_rfl)))
      refine value_ (w1 := w') (v := .agg #[.int .i64 8, .string ⟨#[]⟩, .int .i64 0, .slice (some ⟨g16, 0, none⟩) 1 1, .slice none 0 0, .slice none 0 0, .int .i64 0]) (by rfl) rfl ?_ ?_
      · go_simp
        (try simp only [i64_w])
        try rfl
      refine hK.out _ _ ⟨g10, g11, g13, g16, g18, g20, g2, m1_, m2_, m4_, m5_, m7_, (.agg #[.int .i64 8, .string ⟨#[]⟩, .int .i64 0, .slice (some ⟨g16, 0, none⟩) 1 1, .slice none 0 0, .slice none 0 0, .int .i64 0]), m9_, m10_, m11_, m12_, m13_, (by rw [ha.out]; exact putSel_upk 8 hb_ rfl rfl rfl), Q_FB, Q_FG, Q_F10, Q_F11, Q_F13, Q_F16, fun h0_ => absurd ((hoff 9 (by kernel_rfl)).symm.trans h0_) (by decide), fun h0_ => absurd ((hoff 11 (by kernel_rfl)).symm.trans h0_) (by decide), Q_F2, fun h0_ => absurd ((hoff 14 (by kernel_rfl)).symm.trans h0_) (by decide), Q_X1_, Q_X2_, Q_X4_, Q_X5_, Q_X7_, fun _ => rfl, fun h0_ => absurd ((hoff 9 (by kernel_rfl)).symm.trans h0_) (by decide), fun h0_ => absurd ((hoff 10 (by kernel_rfl)).symm.trans h0_) (by decide), fun h0_ => absurd ((hoff 11 (by kernel_rfl)).symm.trans h0_) (by decide), fun h0_ => absurd ((hoff 12 (by kernel_rfl)).symm.trans h0_) (by decide), Q_X13_⟩
    refine steps_cons ?_ ?_
    · rintro b a w' ⟨g10, g11, g13, g16, g18, g20, g2, m1_, m2_, m4_, m5_, m7_, m8_, m9_, m10_, m11_, m12_, m13_, ha, Q_FB, Q_FG, Q_F10, Q_F11, Q_F13, Q_F16, Q_F18, Q_F20, Q_F2, Q_F2b, Q_X1_, Q_X2_, Q_X4_, Q_X5_, Q_X7_, Q_X8_, Q_X9_, Q_X10_, Q_X11_, Q_X12_, Q_X13_⟩ hb_ hon hoff
      refine ⟨_, rfl, fun K hK => ?_⟩
      have e14 : a.tmps[14]? = some (m5_) := by rw [ha]; exact putSel_on (e := (5, 14, m5_)) 5 rfl rfl (hon 5 (by kernel_rfl)) rfl
      rw [Q_X5_ (hon 5 (by kernel_rfl))] at e14
      have e17 : a.tmps[17]? = some (m8_) := by rw [ha]; exact putSel_on (e := (8, 17, m8_)) 8 rfl rfl (hon 8 (by kernel_rfl)) rfl
      rw [Q_X8_ (hon 8 (by kernel_rfl))] at e17
      replace ha := Aside0.mk ha
      have FB := Aside0.mk Q_FB
      have F13 := Aside0.mk (Q_F13 (hon 4 (by kernel_rfl)))
      have F16 := Aside0.mk (Q_F16 (hon 7 (by kernel_rfl)))
      refine event_step (w1 := w'.alloc (.cells #[.int .i64 2, .string ⟨#[120]⟩, .int .i64 0, .slice (some ⟨g13, 0, none⟩) 1 1, .slice none 0 0, .slice none 0 0, .int .i64 0, .int .i64 8, .string ⟨#[]⟩, .int .i64 0, .slice (some ⟨g16, 0, none⟩) 1 1, .slice none 0 0, .slice none 0 0, .int .i64 0] 59)) (v := .slice (some ⟨w'.heap.size, 0, none⟩) 2 2) (by rfl) (by first | (go_simp; done) | (go_simp; rfl)) ?_
      refine hK.out _ _ ⟨g10, g11, g13, g16, w'.heap.size, g20, g2, m1_, m2_, m4_, m5_, m7_, m8_, (.slice (some ⟨w'.heap.size, 0, none⟩) 2 2), m10_, m11_, m12_, m13_, (by rw [ha.out]; exact putSel_upk 9 hb_ rfl rfl rfl), below_alloc FB.out _, Q_FG, fun h0_ => (Below.heap_alloc _ _ _ (Array.getElem?_eq_some_iff.1 (Q_F10 h0_)).1).trans (Q_F10 h0_), fun h0_ => (Below.heap_alloc _ _ _ (Array.getElem?_eq_some_iff.1 (Q_F11 h0_)).1).trans (Q_F11 h0_), fun _ => (Below.heap_alloc _ _ _ (Array.getElem?_eq_some_iff.1 F13.out).1).trans F13.out, fun _ => (Below.heap_alloc _ _ _ (Array.getElem?_eq_some_iff.1 F16.out).1).trans F16.out, fun _ => World.alloc_heap_new w' _, fun h0_ => absurd ((hoff 11 (by kernel_rfl)).symm.trans h0_) (by decide), fun h0_ h1_ => (Below.heap_alloc _ _ _ (Array.getElem?_eq_some_iff.1 (Q_F2 h0_ h1_)).1).trans (Q_F2 h0_ h1_), fun h0_ => absurd ((hoff 14 (by kernel_rfl)).symm.trans h0_) (by decide), Q_X1_, Q_X2_, Q_X4_, Q_X5_, Q_X7_, Q_X8_, fun _ => rfl, fun h0_ => absurd ((hoff 10 (by kernel_rfl)).symm.trans h0_) (by decide), fun h0_ => absurd ((hoff 11 (by kernel_rfl)).symm.trans h0_) (by decide), fun h0_ => absurd ((hoff 12 (by kernel_rfl)).symm.trans h0_) (by decide), Q_X13_⟩
    refine steps_cons ?_ ?_
    · rintro b a w' ⟨g10, g11, g13, g16, g18, g20, g2, m1_, m2_, m4_, m5_, m7_, m8_, m9_, m10_, m11_, m12_, m13_, ha, Q_FB, Q_FG, Q_F10, Q_F11, Q_F13, Q_F16, Q_F18, Q_F20, Q_F2, Q_F2b, Q_X1_, Q_X2_, Q_X4_, Q_X5_, Q_X7_, Q_X8_, Q_X9_, Q_X10_, Q_X11_, Q_X12_, Q_X13_⟩ hb_ hon hoff
      refine ⟨_, rfl, fun K hK => ?_⟩
      have e18 : a.tmps[18]? = some (m9_) := by rw [ha]; exact putSel_on (e := (9, 18, m9_)) 9 rfl rfl (hon 9 (by kernel_rfl)) rfl
      rw [Q_X9_ (hon 9 (by kernel_rfl))] at e18
      replace ha := Aside0.mk ha
      have FB := Aside0.mk Q_FB
      have F13 := Aside0.mk (Q_F13 (hon 4 (by kernel_rfl)))
      have F16 := Aside0.mk (Q_F16 (hon 7 (by kernel_rfl)))
      have F18 := Aside0.mk (Q_F18 (hon 9 (by kernel_rfl)))
      refine value_ (w1 := w') (v := .agg #[.string ⟨#[116]⟩, .int .i64 9, .int .i64 0, .string ⟨#[]⟩, .string ⟨#[]⟩, .int .i64 0, .slice (some ⟨g18, 0, none⟩) 2 2, .int .i64 0]) (by rfl) rfl ?_ ?_
      · go_simp
        (try simp only [i64_w])
        try rfl
      refine hK.out _ _ ⟨g10, g11, g13, g16, g18, g20, g2, m1_, m2_, m4_, m5_, m7_, m8_, m9_, (.agg #[.string ⟨#[116]⟩, .int .i64 9, .int .i64 0, .string ⟨#[]⟩, .string ⟨#[]⟩, .int .i64 0, .slice (some ⟨g18, 0, none⟩) 2 2, .int .i64 0]), m11_, m12_, m13_, (by rw [ha.out]; exact putSel_upk 10 hb_ rfl rfl rfl), Q_FB, Q_FG, Q_F10, Q_F11, Q_F13, Q_F16, Q_F18, fun h0_ => absurd ((hoff 11 (by kernel_rfl)).symm.trans h0_) (by decide), Q_F2, fun h0_ => absurd ((hoff 14 (by kernel_rfl)).symm.trans h0_) (by decide), Q_X1_, Q_X2_, Q_X4_, Q_X5_, Q_X7_, Q_X8_, Q_X9_, fun _ => rfl, fun h0_ => absurd ((hoff 11 (by kernel_rfl)).symm.trans h0_) (by decide), fun h0_ => absurd ((hoff 12 (by kernel_rfl)).symm.trans h0_) (by decide), Q_X13_⟩
    refine steps_cons ?_ ?_
    · rintro b a w' ⟨g10, g11, g13, g16, g18, g20, g2, m1_, m2_, m4_, m5_, m7_, m8_, m9_, m10_, m11_, m12_, m13_, ha, Q_FB, Q_FG, Q_F10, Q_F11, Q_F13, Q_F16, Q_F18, Q_F20, Q_F2, Q_F2b, Q_X1_, Q_X2_, Q_X4_, Q_X5_, Q_X7_, Q_X8_, Q_X9_, Q_X10_, Q_X11_, Q_X12_, Q_X13_⟩ hb_ hon hoff
      refine ⟨_, rfl, fun K hK => ?_⟩
      have e19 : a.tmps[19]? = some (m10_) := by rw [ha]; exact putSel_on (e := (10, 19, m10_)) 10 rfl rfl (hon 10 (by kernel_rfl)) rfl
      rw [Q_X10_ (hon 10 (by kernel_rfl))] at e19
      replace ha := Aside0.mk ha
      have FB := Aside0.mk Q_FB
      have F13 := Aside0.mk (Q_F13 (hon 4 (by kernel_rfl)))
      have F16 := Aside0.mk (Q_F16 (hon 7 (by kernel_rfl)))
      have F18 := Aside0.mk (Q_F18 (hon 9 (by kernel_rfl)))
      refine event_step (w1 := w'.alloc (.cells #[.string ⟨#[116]⟩, .int .i64 9, .int .i64 0, .string ⟨#[]⟩, .string ⟨#[]⟩, .int .i64 0, .slice (some ⟨g18, 0, none⟩) 2 2, .int .i64 0] 61)) (v := .slice (some ⟨w'.heap.size, 0, none⟩) 1 1) (by rfl) (by first | (go_simp; done) | (go_simp; rfl)) ?_
      refine hK.out _ _ ⟨g10, g11, g13, g16, g18, w'.heap.size, g2, m1_, m2_, m4_, m5_, m7_, m8_, m9_, m10_, (.slice (some ⟨w'.heap.size, 0, none⟩) 1 1), m12_, m13_, (by rw [ha.out]; exact putSel_upk 11 hb_ rfl rfl rfl), below_alloc FB.out _, Q_FG, fun h0_ => (Below.heap_alloc _ _ _ (Array.getElem?_eq_some_iff.1 (Q_F10 h0_)).1).trans (Q_F10 h0_), fun h0_ => (Below.heap_alloc _ _ _ (Array.getElem?_eq_some_iff.1 (Q_F11 h0_)).1).trans (Q_F11 h0_), fun _ => (Below.heap_alloc _ _ _ (Array.getElem?_eq_some_iff.1 F13.out).1).trans F13.out, fun _ => (Below.heap_alloc _ _ _ (Array.getElem?_eq_some_iff.1 F16.out).1).trans F16.out, fun _ => (Below.heap_alloc _ _ _ (Array.getElem?_eq_some_iff.1 F18.out).1).trans F18.out, fun _ => World.alloc_heap_new w' _, fun h0_ h1_ => (Below.heap_alloc _ _ _ (Array.getElem?_eq_some_iff.1 (Q_F2 h0_ h1_)).1).trans (Q_F2 h0_ h1_), fun h0_ => absurd ((hoff 14 (by kernel_rfl)).symm.trans h0_) (by decide), Q_X1_, Q_X2_, Q_X4_, Q_X5_, Q_X7_, Q_X8_, Q_X9_, Q_X10_, fun _ => rfl, fun h0_ => absurd ((hoff 12 (by kernel_rfl)).symm.trans h0_) (by decide), Q_X13_⟩
    refine steps_cons ?_ ?_
    · rintro b a w' ⟨g10, g11, g13, g16, g18, g20, g2, m1_, m2_, m4_, m5_, m7_, m8_, m9_, m10_, m11_, m12_, m13_, ha, Q_FB, Q_FG, Q_F10, Q_F11, Q_F13, Q_F16, Q_F18, Q_F20, Q_F2, Q_F2b, Q_X1_, Q_X2_, Q_X4_, Q_X5_, Q_X7_, Q_X8_, Q_X9_, Q_X10_, Q_X11_, Q_X12_, Q_X13_⟩ hb_ hon hoff
      refine ⟨_, rfl, fun K hK => ?_⟩
      have e10 : a.tmps[10]? = some (m1_) := by rw [ha]; exact putSel_on (e := (1, 10, m1_)) 1 rfl rfl (hon 1 (by kernel_rfl)) rfl
      rw [Q_X1_ (hon 1 (by kernel_rfl))] at e10
      have e11 : a.tmps[11]? = some (m2_) := by rw [ha]; exact putSel_on (e := (2, 11, m2_)) 2 rfl rfl (hon 2 (by kernel_rfl)) rfl
      rw [Q_X2_ (hon 2 (by kernel_rfl))] at e11
      have e20 : a.tmps[20]? = some (m11_) := by rw [ha]; exact putSel_on (e := (11, 20, m11_)) 11 rfl rfl (hon 11 (by kernel_rfl)) rfl
      rw [Q_X11_ (hon 11 (by kernel_rfl))] at e20
      replace ha := Aside0.mk ha
      have FB := Aside0.mk Q_FB
      have F10 := Aside0.mk (Q_F10 (hon 1 (by kernel_rfl)))
      have F11 := Aside0.mk (Q_F11 (hon 2 (by kernel_rfl)))
      have F13 := Aside0.mk (Q_F13 (hon 4 (by kernel_rfl)))
      have F16 := Aside0.mk (Q_F16 (hon 7 (by kernel_rfl)))
      have F18 := Aside0.mk (Q_F18 (hon 9 (by kernel_rfl)))
      have F20 := Aside0.mk (Q_F20 (hon 11 (by kernel_rfl)))
      refine value_ (w1 := w') (v := .agg #[.slice none 0 0, .slice (some ⟨g10, 0, none⟩) 1 1, .slice (some ⟨g11, 0, none⟩) 1 1, .slice none 0 0, .slice none 0 0, .slice (some ⟨g20, 0, none⟩) 1 1]) (by rfl) rfl ?_ ?_
      · go_simp
        (try simp only [i64_w])
        try rfl
      refine hK.out _ _ ⟨g10, g11, g13, g16, g18, g20, g2, m1_, m2_, m4_, m5_, m7_, m8_, m9_, m10_, m11_, (.agg #[.slice none 0 0, .slice (some ⟨g10, 0, none⟩) 1 1, .slice (some ⟨g11, 0, none⟩) 1 1, .slice none 0 0, .slice none 0 0, .slice (some ⟨g20, 0, none⟩) 1 1]), m13_, (by rw [ha.out]; exact putSel_upk 12 hb_ rfl rfl rfl), Q_FB, Q_FG, Q_F10, Q_F11, Q_F13, Q_F16, Q_F18, Q_F20, Q_F2, fun h0_ => absurd ((hoff 14 (by kernel_rfl)).symm.trans h0_) (by decide), Q_X1_, Q_X2_, Q_X4_, Q_X5_, Q_X7_, Q_X8_, Q_X9_, Q_X10_, Q_X11_, fun _ => rfl, Q_X13_⟩
    refine steps_cons ?_ ?_
    · rintro b a w' ⟨g10, g11, g13, g16, g18, g20, g2, m1_, m2_, m4_, m5_, m7_, m8_, m9_, m10_, m11_, m12_, m13_, ha, Q_FB, Q_FG, Q_F10, Q_F11, Q_F13, Q_F16, Q_F18, Q_F20, Q_F2, Q_F2b, Q_X1_, Q_X2_, Q_X4_, Q_X5_, Q_X7_, Q_X8_, Q_X9_, Q_X10_, Q_X11_, Q_X12_, Q_X13_⟩ hb_ hon hoff
      refine ⟨_, rfl, fun K hK => ?_⟩
      replace ha := Aside0.mk ha
      have FB := Aside0.mk Q_FB
      refine event_step (w1 := w'.alloc (.cells #[.slice none 0 0, .slice none 0 0, .slice none 0 0, .slice none 0 0, .slice none 0 0, .slice none 0 0] 28)) (v := .pointer (some ⟨w'.heap.size, 0, none⟩)) (by rfl) (by first | (go_simp; done) | (go_simp; rfl)) ?_
      refine hK.out _ _ ⟨g10, g11, g13, g16, g18, g20, w'.heap.size, m1_, m2_, m4_, m5_, m7_, m8_, m9_, m10_, m11_, m12_, (.pointer (some ⟨w'.heap.size, 0, none⟩)), (by rw [ha.out]; exact putSel_upk 13 hb_ rfl rfl rfl), below_alloc FB.out _, fun _ => below_size FB.out, fun h0_ => (Below.heap_alloc _ _ _ (Array.getElem?_eq_some_iff.1 (Q_F10 h0_)).1).trans (Q_F10 h0_), fun h0_ => (Below.heap_alloc _ _ _ (Array.getElem?_eq_some_iff.1 (Q_F11 h0_)).1).trans (Q_F11 h0_), fun h0_ => (Below.heap_alloc _ _ _ (Array.getElem?_eq_some_iff.1 (Q_F13 h0_)).1).trans (Q_F13 h0_), fun h0_ => (Below.heap_alloc _ _ _ (Array.getElem?_eq_some_iff.1 (Q_F16 h0_)).1).trans (Q_F16 h0_), fun h0_ => (Below.heap_alloc _ _ _ (Array.getElem?_eq_some_iff.1 (Q_F18 h0_)).1).trans (Q_F18 h0_), fun h0_ => (Below.heap_alloc _ _ _ (Array.getElem?_eq_some_iff.1 (Q_F20 h0_)).1).trans (Q_F20 h0_), fun _ _ => World.alloc_heap_new w' _, fun h0_ => absurd ((hoff 14 (by kernel_rfl)).symm.trans h0_) (by decide), Q_X1_, Q_X2_, Q_X4_, Q_X5_, Q_X7_, Q_X8_, Q_X9_, Q_X10_, Q_X11_, Q_X12_, fun _ => rfl⟩
    refine steps_cons ?_ ?_
    · rintro b a w' ⟨g10, g11, g13, g16, g18, g20, g2, m1_, m2_, m4_, m5_, m7_, m8_, m9_, m10_, m11_, m12_, m13_, ha, Q_FB, Q_FG, Q_F10, Q_F11, Q_F13, Q_F16, Q_F18, Q_F20, Q_F2, Q_F2b, Q_X1_, Q_X2_, Q_X4_, Q_X5_, Q_X7_, Q_X8_, Q_X9_, Q_X10_, Q_X11_, Q_X12_, Q_X13_⟩ hb_ hon hoff
      refine ⟨_, rfl, fun K hK => ?_⟩
      have e2 : a.tmps[2]? = some (m13_) := by rw [ha]; exact putSel_on (e := (13, 2, m13_)) 13 rfl rfl (hon 13 (by kernel_rfl)) rfl
      rw [Q_X13_ (hon 13 (by kernel_rfl))] at e2
      have e21 : a.tmps[21]? = some (m12_) := by rw [ha]; exact putSel_on (e := (12, 21, m12_)) 12 rfl rfl (hon 12 (by kernel_rfl)) rfl
      rw [Q_X12_ (hon 12 (by kernel_rfl))] at e21
      replace ha := Aside0.mk ha
      have FB := Aside0.mk Q_FB
      have FG := Aside0.mk (Q_FG (hon 13 (by kernel_rfl)))
      have F10 := Aside0.mk (Q_F10 (hon 1 (by kernel_rfl)))
      have F11 := Aside0.mk (Q_F11 (hon 2 (by kernel_rfl)))
      have F13 := Aside0.mk (Q_F13 (hon 4 (by kernel_rfl)))
      have F16 := Aside0.mk (Q_F16 (hon 7 (by kernel_rfl)))
      have F18 := Aside0.mk (Q_F18 (hon 9 (by kernel_rfl)))
      have F20 := Aside0.mk (Q_F20 (hon 11 (by kernel_rfl)))
      have F2 := Aside0.mk (Q_F2 (hon 13 (by kernel_rfl)) hb_)
      have hbf := Aside0.mk (sets6 FB.out F2.out (.slice none 0 0) (.slice (some ⟨g10, 0, none⟩) 1 1) (.slice (some ⟨g11, 0, none⟩) 1 1) (.slice none 0 0) (.slice none 0 0) (.slice (some ⟨g20, 0, none⟩) 1 1) FG.out)
      have c0 : w'.cell? ⟨g2, 0, none⟩ = some (.slice none 0 0) := (blk_cell F2.out 0).trans rfl
      have c1 : w'.cell? ⟨g2, 1, none⟩ = some (.slice none 0 0) := (blk_cell F2.out 1).trans rfl
      have c2 : w'.cell? ⟨g2, 2, none⟩ = some (.slice none 0 0) := (blk_cell F2.out 2).trans rfl
      have c3 : w'.cell? ⟨g2, 3, none⟩ = some (.slice none 0 0) := (blk_cell F2.out 3).trans rfl
      have c4 : w'.cell? ⟨g2, 4, none⟩ = some (.slice none 0 0) := (blk_cell F2.out 4).trans rfl
      have c5 : w'.cell? ⟨g2, 5, none⟩ = some (.slice none 0 0) := (blk_cell F2.out 5).trans rfl
      have f0 := blk_frozen F2.out 0
      have f1 := blk_frozen F2.out 1
      have f2 := blk_frozen F2.out 2
      have f3 := blk_frozen F2.out 3
      have f4 := blk_frozen F2.out 4
      have f5 := blk_frozen F2.out 5
      refine skip_ (w1 := ((((((w'.setCell ⟨g2, 0, none⟩ (.slice none 0 0)).setCell ⟨g2, 1, none⟩ (.slice (some ⟨g10, 0, none⟩) 1 1)).setCell ⟨g2, 2, none⟩ (.slice (some ⟨g11, 0, none⟩) 1 1)).setCell ⟨g2, 3, none⟩ (.slice none 0 0)).setCell ⟨g2, 4, none⟩ (.slice none 0 0)).setCell ⟨g2, 5, none⟩ (.slice (some ⟨g20, 0, none⟩) 1 1))) (by rfl) rfl (by first | (go_simp; done) | (go_simp; rfl)) ?_
      refine hK.out _ _ ⟨g10, g11, g13, g16, g18, g20, g2, m1_, m2_, m4_, m5_, m7_, m8_, m9_, m10_, m11_, m12_, m13_, (by rw [ha.out]; exact putSel_none (v := undef) rfl), hbf.out.2.2, Q_FG, fun _ => (hbf.out.2.1 _ (fun e => by have h1 := F10.out; rw [e] at h1; have h2 := F2.out; rw [h1] at h2; injection h2 with h2; injection h2 with _ h2; exact absurd h2 (by decide))).trans F10.out, fun _ => (hbf.out.2.1 _ (fun e => by have h1 := F11.out; rw [e] at h1; have h2 := F2.out; rw [h1] at h2; injection h2 with h2; injection h2 with _ h2; exact absurd h2 (by decide))).trans F11.out, fun _ => (hbf.out.2.1 _ (fun e => by have h1 := F13.out; rw [e] at h1; have h2 := F2.out; rw [h1] at h2; injection h2 with h2; injection h2 with _ h2; exact absurd h2 (by decide))).trans F13.out, fun _ => (hbf.out.2.1 _ (fun e => by have h1 := F16.out; rw [e] at h1; have h2 := F2.out; rw [h1] at h2; injection h2 with h2; injection h2 with _ h2; exact absurd h2 (by decide))).trans F16.out, fun _ => (hbf.out.2.1 _ (fun e => by have h1 := F18.out; rw [e] at h1; have h2 := F2.out; rw [h1] at h2; injection h2 with h2; injection h2 with _ h2; exact absurd h2 (by decide))).trans F18.out, fun _ => (hbf.out.2.1 _ (fun e => by have h1 := F20.out; rw [e] at h1; have h2 := F2.out; rw [h1] at h2; injection h2 with h2; injection h2 with _ h2; exact absurd h2 (by decide))).trans F20.out, fun _ h1_ => absurd ((up_self b 14).symm.trans h1_) (by decide), fun _ => hbf.out.1, Q_X1_, Q_X2_, Q_X4_, Q_X5_, Q_X7_, Q_X8_, Q_X9_, Q_X10_, Q_X11_, Q_X12_, Q_X13_⟩
    exact steps_nil
  · rintro b a w' hall ⟨g10, g11, g13, g16, g18, g20, g2, m1_, m2_, m4_, m5_, m7_, m8_, m9_, m10_, m11_, m12_, m13_, ha, Q_FB, Q_FG, Q_F10, Q_F11, Q_F13, Q_F16, Q_F18, Q_F20, Q_F2, Q_F2b, Q_X1_, Q_X2_, Q_X4_, Q_X5_, Q_X7_, Q_X8_, Q_X9_, Q_X10_, Q_X11_, Q_X12_, Q_X13_⟩
    clear FB
    have hb0_ := hall 0 (by kernel_rfl)
    have hb1_ := hall 1 (by kernel_rfl)
    have hb2_ := hall 2 (by kernel_rfl)
    have hb3_ := hall 3 (by kernel_rfl)
    have hb4_ := hall 4 (by kernel_rfl)
    have hb5_ := hall 5 (by kernel_rfl)
    have hb6_ := hall 6 (by kernel_rfl)
    have hb7_ := hall 7 (by kernel_rfl)
    have hb8_ := hall 8 (by kernel_rfl)
    have hb9_ := hall 9 (by kernel_rfl)
    have hb10_ := hall 10 (by kernel_rfl)
    have hb11_ := hall 11 (by kernel_rfl)
    have hb12_ := hall 12 (by kernel_rfl)
    have hb13_ := hall 13 (by kernel_rfl)
    have hb14_ := hall 14 (by kernel_rfl)
    subst ha
    obtain rfl := Q_X1_ hb1_
    obtain rfl := Q_X2_ hb2_
    obtain rfl := Q_X4_ hb4_
    obtain rfl := Q_X5_ hb5_
    obtain rfl := Q_X7_ hb7_
    obtain rfl := Q_X8_ hb8_
    obtain rfl := Q_X9_ hb9_
    obtain rfl := Q_X10_ hb10_
    obtain rfl := Q_X11_ hb11_
    obtain rfl := Q_X12_ hb12_
    obtain rfl := Q_X13_ hb13_
    simp only [putSel, hb0_, hb1_, hb2_, hb3_, hb4_, hb5_, hb6_, hb7_, hb8_, hb9_, hb10_, hb11_, hb12_, hb13_, hb14_, if_true, Act.put, List.setIfInBounds_toArray, List.set_cons_zero, List.set_cons_succ]
    have FB := Aside0.mk Q_FB
    clear Q_FB
    have FG := Aside0.mk (Q_FG hb13_)
    clear Q_FG
    have F10 := Aside0.mk (Q_F10 hb1_)
    clear Q_F10
    have F11 := Aside0.mk (Q_F11 hb2_)
    clear Q_F11
    have F13 := Aside0.mk (Q_F13 hb4_)
    clear Q_F13
    have F16 := Aside0.mk (Q_F16 hb7_)
    clear Q_F16
    have F18 := Aside0.mk (Q_F18 hb9_)
    clear Q_F18
    have F20 := Aside0.mk (Q_F20 hb11_)
    clear Q_F20
    clear Q_F2
    have F2b := Aside0.mk (Q_F2b hb14_)
    clear Q_F2b
    clear hall hb0_ hb1_ hb2_ hb3_ hb4_ hb5_ hb6_ hb7_ hb8_ hb9_ hb10_ hb11_ hb12_ hb13_ hb14_
    have hy := (FB.out.block _ (Array.getElem?_eq_some_iff.1 HWB.out.2).1).trans HWB.out.2
    have hpf := pfX hy F10.out F11.out F13.out F16.out F18.out F20.out
    have hbw := HWB.out.1.trans (FB.out.mono HWB.out.1.size)
    have HPF := Aside0.mk hpf
    have HBW := Aside0.mk hbw
    have d0 : w'.cell? ⟨g2, 0, none⟩ = some (.slice none 0 0) := (blk_cell F2b.out 0).trans rfl
    have d1 : w'.cell? ⟨g2, 1, none⟩ = some (.slice (some ⟨g10, 0, none⟩) 1 1) := (blk_cell F2b.out 1).trans rfl
    have d2 : w'.cell? ⟨g2, 2, none⟩ = some (.slice (some ⟨g11, 0, none⟩) 1 1) := (blk_cell F2b.out 2).trans rfl
    have d3 : w'.cell? ⟨g2, 3, none⟩ = some (.slice none 0 0) := (blk_cell F2b.out 3).trans rfl
    have d4 : w'.cell? ⟨g2, 4, none⟩ = some (.slice none 0 0) := (blk_cell F2b.out 4).trans rfl
    have d5 : w'.cell? ⟨g2, 5, none⟩ = some (.slice (some ⟨g20, 0, none⟩) 1 1) := (blk_cell F2b.out 5).trans rfl
    clear hy hpf hbw F10 F11 F13 F16 F18 F20 F2b FB FG HWB X0 X1 X2 X3 X4 X5 HT_ HW_
    have HRC := Aside0.mk (wake_run HPF.out HBW.out)
    clear HPF HBW
    go_wp2_with (first
      | (go_at_call 34; refine HRC.out.mono ?_; rintro e W5 ⟨adG, cG, adr, cr, AC, nC, cC, adE, cE, AO, nO, cO, adS, cS, rfl, x0, x1, x2, x3, hB5⟩; have x0' := cell_up (below_alloc (Below.refl W5.heap.size W5) (.cells #[.slice (some adG) 1 cG, .slice AC nC cC, .slice (some adE) 1 cE, .slice AO nO cO, .int .i64 0, .int .i64 1, .slice (some adS) 1 cS] 72)) x0; have x1' := cell_up (below_alloc (Below.refl W5.heap.size W5) (.cells #[.slice (some adG) 1 cG, .slice AC nC cC, .slice (some adE) 1 cE, .slice AO nO cO, .int .i64 0, .int .i64 1, .slice (some adS) 1 cS] 72)) x1; have x2' := cell_up (below_alloc (Below.refl W5.heap.size W5) (.cells #[.slice (some adG) 1 cG, .slice AC nC cC, .slice (some adE) 1 cE, .slice AO nO cO, .int .i64 0, .int .i64 1, .slice (some adS) 1 cS] 72)) x2; have x3' := cell_up (below_alloc (Below.refl W5.heap.size W5) (.cells #[.slice (some adG) 1 cG, .slice AC nC cC, .slice (some adE) 1 cE, .slice AO nO cO, .int .i64 0, .int .i64 1, .slice (some adS) 1 cS] 72)) x3))
    go_ret
    exact ⟨rfl, below_alloc hB5 _⟩
end Go.Proofs.Yteonloecenodbaa.PX
-- Written by a program of this session (wip/xprint.py, over the kit's print tool). Lean checks it.
namespace Go.Proofs.Yteonloecenodbaa.PX
open Go.RowKit Go.Proofs.YteonloecenodbaaW.PrintWords Go.Proofs.YteonloecenodbaaW.PrintLast Go.Proofs.YteonloecenodbaaW.PrintMore
attribute [local go_sem] max2_int min2_int max_two min_two max_three min_three max_four min_four   -- for this text's walks alone
set_option linter.unusedVariables false
set_option linter.unusedSimpArgs false

/-! ### trickleref18_Lookup: function 60 -/
-- NOT PRINTED: function 58 (trickleref18_checker_task)

/-! ### trickleref18_count: function 86 -/
/-- A state of type 123 at block g of W; what its slices lead to came in by w0. -/
def IsS123 (w0 W : World) (g : Nat) (f0 : List (S144)) (f1 : List (S85)) (f2 : List ByteArray) (f3 : List ByteArray) (f4 : List (S131)) (f5 : List (S61)) (f6 : List ByteArray) (f7 : Int) (f8 : Bool) (f9 : Bool) (f10 : List (S120)) : Prop := ∃ A0 c0, ∃ A1 c1, ∃ A2 c2, ∃ A3 c3, ∃ A4 c4, ∃ A5 c5, ∃ A6 c6, ∃ A10 c10, W.heap[g]? = some (.cells #[.slice A0 f0.length c0, .slice A1 f1.length c1, .slice A2 f2.length c2, .slice A3 f3.length c3, .slice A4 f4.length c4, .slice A5 f5.length c5, .slice A6 f6.length c6, .int .i64 f7, .bool f8, .bool f9, .slice A10 f10.length c10] 123 (0, 0)) ∧ w0.heap.size ≤ g ∧ Kd.C k144 w0 A0 f0.length f0 ∧ Kd.C k85 w0 A1 f1.length f1 ∧ Kd.C Kd.string w0 A2 f2.length f2 ∧ Kd.C Kd.string w0 A3 f3.length f3 ∧ Kd.C k131 w0 A4 f4.length f4 ∧ Kd.C k61 w0 A5 f5.length f5 ∧ Kd.C Kd.string w0 A6 f6.length f6 ∧ Kd.C k120 w0 A10 f10.length f10
theorem IsS123.grown {w0 W : World} {g : Nat} {f0 : List (S144)} {f1 : List (S85)} {f2 : List ByteArray} {f3 : List ByteArray} {f4 : List (S131)} {f5 : List (S61)} {f6 : List ByteArray} {f7 : Int} {f8 : Bool} {f9 : Bool} {f10 : List (S120)} {W1 : World} {row : Option Nat} (h : IsS123 w0 W g f0 f1 f2 f3 f4 f5 f6 f7 f8 f9 f10) (hw : W.grownBy W1 row) (hne : some g ≠ row) : IsS123 w0 W1 g f0 f1 f2 f3 f4 f5 f6 f7 f8 f9 f10 := by
  obtain ⟨A0, c0, A1, c1, A2, c2, A3, c3, A4, c4, A5, c5, A6, c6, A10, c10, hb, hg, hr0, hr1, hr2, hr3, hr4, hr5, hr6, hr10⟩ := h
  exact ⟨A0, c0, A1, c1, A2, c2, A3, c3, A4, c4, A5, c5, A6, c6, A10, c10, blk_grown hb hw hne, hg, hr0, hr1, hr2, hr3, hr4, hr5, hr6, hr10⟩
theorem IsS123.kept {w0 W : World} {g : Nat} {f0 : List (S144)} {f1 : List (S85)} {f2 : List ByteArray} {f3 : List ByteArray} {f4 : List (S131)} {f5 : List (S61)} {f6 : List ByteArray} {f7 : Int} {f8 : Bool} {f9 : Bool} {f10 : List (S120)} {W1 : World} {S : Nat → Prop} (h : IsS123 w0 W g f0 f1 f2 f3 f4 f5 f6 f7 f8 f9 f10) (hk : Kept W W1 S) (hne : ¬ S g) : IsS123 w0 W1 g f0 f1 f2 f3 f4 f5 f6 f7 f8 f9 f10 := by
  obtain ⟨A0, c0, A1, c1, A2, c2, A3, c3, A4, c4, A5, c5, A6, c6, A10, c10, hb, hg, hr0, hr1, hr2, hr3, hr4, hr5, hr6, hr10⟩ := h
  exact ⟨A0, c0, A1, c1, A2, c2, A3, c3, A4, c4, A5, c5, A6, c6, A10, c10, blk_kept hb hk hne, hg, hr0, hr1, hr2, hr3, hr4, hr5, hr6, hr10⟩
theorem IsS123.below {w0 W : World} {g : Nat} {f0 : List (S144)} {f1 : List (S85)} {f2 : List ByteArray} {f3 : List ByteArray} {f4 : List (S131)} {f5 : List (S61)} {f6 : List ByteArray} {f7 : Int} {f8 : Bool} {f9 : Bool} {f10 : List (S120)} {W1 : World} (h : IsS123 w0 W g f0 f1 f2 f3 f4 f5 f6 f7 f8 f9 f10) (hw : Below W.heap.size W W1) : IsS123 w0 W1 g f0 f1 f2 f3 f4 f5 f6 f7 f8 f9 f10 := h.grown (grown_of_below hw none) (by simp)
theorem IsS123.alloc {w0 W : World} {g : Nat} {f0 : List (S144)} {f1 : List (S85)} {f2 : List ByteArray} {f3 : List ByteArray} {f4 : List (S131)} {f5 : List (S61)} {f6 : List ByteArray} {f7 : Int} {f8 : Bool} {f9 : Bool} {f10 : List (S120)} (h : IsS123 w0 W g f0 f1 f2 f3 f4 f5 f6 f7 f8 f9 f10) (o : Obj) : IsS123 w0 (W.alloc o) g f0 f1 f2 f3 f4 f5 f6 f7 f8 f9 f10 := h.below (below_alloc (Below.refl _ _) o)
theorem IsS123.drewN {w0 W : World} {g : Nat} {f0 : List (S144)} {f1 : List (S85)} {f2 : List ByteArray} {f3 : List ByteArray} {f4 : List (S131)} {f5 : List (S61)} {f6 : List ByteArray} {f7 : Int} {f8 : Bool} {f9 : Bool} {f10 : List (S120)} (h : IsS123 w0 W g f0 f1 f2 f3 f4 f5 f6 f7 f8 f9 f10) (m : Nat) : IsS123 w0 (W.drewN m) g f0 f1 f2 f3 f4 f5 f6 f7 f8 f9 f10 := h
theorem IsS123.drew {w0 W : World} {g : Nat} {f0 : List (S144)} {f1 : List (S85)} {f2 : List ByteArray} {f3 : List ByteArray} {f4 : List (S131)} {f5 : List (S61)} {f6 : List ByteArray} {f7 : Int} {f8 : Bool} {f9 : Bool} {f10 : List (S120)} (h : IsS123 w0 W g f0 f1 f2 f3 f4 f5 f6 f7 f8 f9 f10) : IsS123 w0 W.drew g f0 f1 f2 f3 f4 f5 f6 f7 f8 f9 f10 := h
theorem IsS123.at_ {w0 W : World} {g : Nat} {f0 : List (S144)} {f1 : List (S85)} {f2 : List ByteArray} {f3 : List ByteArray} {f4 : List (S131)} {f5 : List (S61)} {f6 : List ByteArray} {f7 : Int} {f8 : Bool} {f9 : Bool} {f10 : List (S120)} {w' : World} {m : Nat} (hq : W.drewN m = w') (h : IsS123 w0 W g f0 f1 f2 f3 f4 f5 f6 f7 f8 f9 f10) : IsS123 w0 w' g f0 f1 f2 f3 f4 f5 f6 f7 f8 f9 f10 := by subst hq; exact IsS123.drewN h m
theorem IsS123.apart {w0 W : World} {g : Nat} {f0 : List (S144)} {f1 : List (S85)} {f2 : List ByteArray} {f3 : List ByteArray} {f4 : List (S131)} {f5 : List (S61)} {f6 : List ByteArray} {f7 : Int} {f8 : Bool} {f9 : Bool} {f10 : List (S120)} {α : Type} {d : Kd α} {e : Nat} {base : Nat} {ok : Nat → Prop} {v : Value} {xs : List α} (h : IsS123 w0 W g f0 f1 f2 f3 f4 f5 f6 f7 f8 f9 f10) (ho : d.R e W base ok v xs) (ht : ∀ q, q ∈ e :: d.E → q ≠ 123) : d.R e W base (fun k => ok k ∧ k ≠ g) v xs := by
  obtain ⟨A0, c0, A1, c1, A2, c2, A3, c3, A4, c4, A5, c5, A6, c6, A10, c10, hb, hg, hr0, hr1, hr2, hr3, hr4, hr5, hr6, hr10⟩ := h
  exact Kd.R_types ho hb ht
theorem IsS123.own_ne {w0 W : World} {g : Nat} {f0 : List (S144)} {f1 : List (S85)} {f2 : List ByteArray} {f3 : List ByteArray} {f4 : List (S131)} {f5 : List (S61)} {f6 : List ByteArray} {f7 : Int} {f8 : Bool} {f9 : Bool} {f10 : List (S120)} {α : Type} {d : Kd α} {e : Nat} {base : Nat} {ok : Nat → Prop} {v : Value} {xs : List α} (h : IsS123 w0 W g f0 f1 f2 f3 f4 f5 f6 f7 f8 f9 f10) (ho : d.R e W base ok v xs) (ht : e ≠ 123) : some g ≠ v.ownBlock := by
  obtain ⟨A0, c0, A1, c1, A2, c2, A3, c3, A4, c4, A5, c5, A6, c6, A10, c10, hb, hg, hr0, hr1, hr2, hr3, hr4, hr5, hr6, hr10⟩ := h
  exact Kd.R_ne ho hb ht
theorem IsS123.lt {w0 W : World} {g : Nat} {f0 : List (S144)} {f1 : List (S85)} {f2 : List ByteArray} {f3 : List ByteArray} {f4 : List (S131)} {f5 : List (S61)} {f6 : List ByteArray} {f7 : Int} {f8 : Bool} {f9 : Bool} {f10 : List (S120)} (h : IsS123 w0 W g f0 f1 f2 f3 f4 f5 f6 f7 f8 f9 f10) : g < W.heap.size := by
  obtain ⟨A0, c0, A1, c1, A2, c2, A3, c3, A4, c4, A5, c5, A6, c6, A10, c10, hb, hg, hr0, hr1, hr2, hr3, hr4, hr5, hr6, hr10⟩ := h
  exact blk_lt hb
theorem IsS123.far {w0 W : World} {g : Nat} {f0 : List (S144)} {f1 : List (S85)} {f2 : List ByteArray} {f3 : List ByteArray} {f4 : List (S131)} {f5 : List (S61)} {f6 : List ByteArray} {f7 : Int} {f8 : Bool} {f9 : Bool} {f10 : List (S120)} {p : Addr} (h : IsS123 w0 W g f0 f1 f2 f3 f4 f5 f6 f7 f8 f9 f10) (hne : g ≠ p.block) (u : Value) : IsS123 w0 (W.setCell p u) g f0 f1 f2 f3 f4 f5 f6 f7 f8 f9 f10 := by
  obtain ⟨A0, c0, A1, c1, A2, c2, A3, c3, A4, c4, A5, c5, A6, c6, A10, c10, hb, hg, hr0, hr1, hr2, hr3, hr4, hr5, hr6, hr10⟩ := h
  exact ⟨A0, c0, A1, c1, A2, c2, A3, c3, A4, c4, A5, c5, A6, c6, A10, c10, blk_far hb hne u, hg, hr0, hr1, hr2, hr3, hr4, hr5, hr6, hr10⟩
theorem IsS123.new (w0 W : World) (A0 : Option Addr) (c0 : Nat) (A1 : Option Addr) (c1 : Nat) (A2 : Option Addr) (c2 : Nat) (A3 : Option Addr) (c3 : Nat) (A4 : Option Addr) (c4 : Nat) (A5 : Option Addr) (c5 : Nat) (A6 : Option Addr) (c6 : Nat) (A10 : Option Addr) (c10 : Nat) (f0 : List (S144)) (f1 : List (S85)) (f2 : List ByteArray) (f3 : List ByteArray) (f4 : List (S131)) (f5 : List (S61)) (f6 : List ByteArray) (f7 : Int) (f8 : Bool) (f9 : Bool) (f10 : List (S120)) (hB : Below w0.heap.size w0 W) (hr0 : Kd.C k144 w0 A0 f0.length f0) (hr1 : Kd.C k85 w0 A1 f1.length f1) (hr2 : Kd.C Kd.string w0 A2 f2.length f2) (hr3 : Kd.C Kd.string w0 A3 f3.length f3) (hr4 : Kd.C k131 w0 A4 f4.length f4) (hr5 : Kd.C k61 w0 A5 f5.length f5) (hr6 : Kd.C Kd.string w0 A6 f6.length f6) (hr10 : Kd.C k120 w0 A10 f10.length f10) : IsS123 w0 (W.alloc (.cells #[.slice A0 f0.length c0, .slice A1 f1.length c1, .slice A2 f2.length c2, .slice A3 f3.length c3, .slice A4 f4.length c4, .slice A5 f5.length c5, .slice A6 f6.length c6, .int .i64 f7, .bool f8, .bool f9, .slice A10 f10.length c10] 123)) W.heap.size f0 f1 f2 f3 f4 f5 f6 f7 f8 f9 f10 := ⟨A0, c0, A1, c1, A2, c2, A3, c3, A4, c4, A5, c5, A6, c6, A10, c10, by simpa using heap_alloc_new W _, hB.size, hr0, hr1, hr2, hr3, hr4, hr5, hr6, hr10⟩

/-! ### trickleref18_readings: function 116 -/
end Go.Proofs.Yteonloecenodbaa.PX
-- Written by a program of this session (wip/xprint.py, over the kit's print tool). Lean checks it.
namespace Go.Proofs.Yteonloecenodbaa.PX
open Go.RowKit Go.Proofs.YteonloecenodbaaW.PrintWords Go.Proofs.YteonloecenodbaaW.PrintLast Go.Proofs.YteonloecenodbaaW.PrintMore
attribute [local go_sem] max2_int min2_int max_two min_two max_three min_three max_four min_four   -- for this text's walks alone
set_option linter.unusedVariables false
set_option linter.unusedSimpArgs false

/-! ### trickleref18_Readings: function 110 -/
-- NOT PRINTED: function 84 (trickleref18_checker_stmt)

-- NOT PRINTED: function 85 (trickleref18_checker_expr)

-- NOT PRINTED: function 59 (trickleref18_checker_block)

-- NOT PRINTED: function 36 (trickleref18_Check)

-- NOT PRINTED: function 12 (tricklelaw19_Small)

/-! ### trickleref19_Few: function 21 -/
mutual
def trickleref19_Few.j1 : Nat → Int → List (List Int) → List (List Int) → Option (Bool)
  | 0, _, _, _ => none
  | k + 1, x3, x479000, x479001 => trickleref19_Few.l1 k x3 0 x479000 x479001
def trickleref19_Few.l1 : Nat → Int → Int → List (List Int) → List (List Int) → Option (Bool)
  | 0, _, _, _, _ => none
  | k + 1, x3, x5, x479000, x479001 => if x5 < (x479001.length : Int) then (if x3 ≤ 400 then (if 0 ≤ x5 then (trickleref19_Few.l1 k (wrap64 (x3 + ((rd_L4 x479001 x5).length : Int))) (wrap64 (x5 + 1)) x479000 x479001) else (none)) else (some (decide (x3 ≤ 400)))) else (some (decide (x3 ≤ 400)))
def trickleref19_Few.l0 : Nat → Int → Int → List (List Int) → List (List Int) → Option (Bool)
  | 0, _, _, _, _ => none
  | k + 1, x3, x4, x479000, x479001 => if x4 < (x479000.length : Int) then (if x3 ≤ 400 then (if 0 ≤ x4 then (trickleref19_Few.l0 k (wrap64 (x3 + ((rd_L4 x479000 x4).length : Int))) (wrap64 (x4 + 1)) x479000 x479001) else (none)) else (trickleref19_Few.j1 k x3 x479000 x479001)) else (trickleref19_Few.j1 k x3 x479000 x479001)
end
def trickleref19_Few.f (k : Nat) (l0_0 : List (List Int)) (l0_1 : List (List Int)) : Option (Bool) := trickleref19_Few.l0 k (wrap64 ((l0_0.length : Int) + (l0_1.length : Int))) 0 l0_0 l0_1
set_option maxHeartbeats 8000000 in
set_option maxRecDepth 100000 in
theorem trickleref19_Few.calls (k : Nat) (A0_0 : Option Addr) (c0_0 : Nat) (l0_0 : List (List Int)) (A0_1 : Option Addr) (c0_1 : Nat) (l0_1 : List (List Int)) (r : Bool) (w : World) (hr0_0 : Kd.C (Kd.slice 29 (Kd.int .i16)) w A0_0 l0_0.length l0_0) (hc0_0 : l0_0.length ≤ c0_0) (hr0_1 : Kd.C (Kd.slice 29 (Kd.int .i16)) w A0_1 l0_1.length l0_1) (hc0_1 : l0_1.length ≤ c0_1) (h : trickleref19_Few.f k l0_0 l0_1 = some r) :
    Calls Try.prog 21 #[.agg #[.slice A0_0 l0_0.length c0_0, .slice A0_1 l0_1.length c0_1]] w fun e w' => e = .returned (.bool r) ∧ Below w.heap.size w w' := by
  have hu32 := Try.underlying32
  have HR0_0 := Aside0.mk hr0_0
  have HC0_0 := Aside0.mk hc0_0
  clear hr0_0 hc0_0
  have HR0_1 := Aside0.mk hr0_1
  have HC0_1 := Aside0.mk hc0_1
  clear hr0_1 hc0_1
  have HB := Aside0.mk (Below.refl w.heap.size w)
  have H : (trickleref19_Few.l0 k (wrap64 ((l0_0.length : Int) + (l0_1.length : Int))) 0 l0_0 l0_1) = some r := h
  clear h
  have HC2 := Aside0.mk H
  clear H
  go_enter Try.func21, Try.ntmps21
  go_upto_block 0 with (first | ((with_reducible refine gate_dst (N := 1) rfl ?_); refine box_event ?hg (N := 1) ?hd (cs := #[.slice A0_0 l0_0.length c0_0, .slice A0_1 l0_1.length c0_1]) (t := 32) ?hr ?_; (case hd => rfl); (case hg => rfl); (case hr => first | (go_simp; done) | (go_simp; rfl)); intro gb478 hg w3 hbox hb; have n0_ := Aside0.mk (below_step (by repeat (first | (with_reducible first | exact HB.out | apply below_alloc | apply pw_below_drewN | apply below_drew1) | exact HB.out)) hb); have n1_ := Aside0.mk (hbox); have n2_ := Aside0.mk ((by rw [hg]; exact (below_size (by repeat (first | (with_reducible first | exact HB.out | apply below_alloc | apply pw_below_drewN | apply below_drew1) | exact HB.out))) : w.heap.size ≤ gb478)); have n3_ := Aside0.mk ((by rw [hg]; exact (below_size (by repeat (first | (with_reducible first | exact HB.out | apply below_alloc | apply pw_below_drewN | apply below_drew1) | exact HB.out))) : w.heap.size ≤ gb478)); clear HB; have HB := n0_; have BK478 := n1_; have GW478 := n2_; have GE478 := n3_; clear n0_ n1_ n2_ n3_; clear hb hbox hg; have hcz4_0 : w3.cell? ⟨gb478, 0, none⟩ = some (.slice A0_0 l0_0.length c0_0) := (blk_cell BK478.out 0).trans rfl; have hcz4_1 : w3.cell? ⟨gb478, 1, none⟩ = some (.slice A0_1 l0_1.length c0_1) := (blk_cell BK478.out 1).trans rfl; have hfz4_0 := blk_frozen BK478.out 0; have hfz4_1 := blk_frozen BK478.out 1))
  (try simp only [Act.put, List.setIfInBounds_toArray, List.set_cons_zero, List.set_cons_succ])
  go_cut [3] (fun v3 wc => ∃ (kq : Nat) (x3_1 : Int), v3 = .int .i64 x3_1 ∧ Aside0 (trickleref19_Few.j1 kq x3_1 l0_0 l0_1 = some r) ∧ Aside0 (kq ≤ k) ∧ Aside0 (wc.heap[gb478]? = some (.cells #[(.slice A0_0 l0_0.length c0_0), (.slice A0_1 l0_1.length c0_1)] 32 (0, 0))) ∧ Aside0 (Below w.heap.size w wc))
  case first =>
    have H := HC2.out
    clear HC2
    have H' := Aside0.mk H
    clear H
    go_wp2
    go_loopg [3, 4] k (fun kq v3 v4 w' => ∃ (x3_1 : Int) (x4_1 : Int), v3 = .int .i64 x3_1 ∧ v4 = .int .i64 x4_1 ∧ Aside0 (trickleref19_Few.l0 kq x3_1 x4_1 l0_0 l0_1 = some r) ∧ Aside0 (kq ≤ k) ∧ Aside0 (w'.heap[gb478]? = some (.cells #[(.slice A0_0 l0_0.length c0_0), (.slice A0_1 l0_1.length c0_1)] 32 (0, 0))) ∧ Aside0 (Below w.heap.size w w'))
    case atStart => exact ⟨(wrap64 ((l0_0.length : Int) + (l0_1.length : Int))), (0), (by first | rfl | (simp; done) | (simp [*]; done)), (by first | rfl | (simp; done) | (simp [*]; done)), H', ⟨Nat.le_refl _⟩, ⟨by (with_reducible repeat (first | refine blk_drewN ?_ _ | refine blk_drew ?_ | refine blk_alloc ?_ _)); exact BK478.out⟩, ⟨by repeat (first | (with_reducible first | exact HB.out | apply below_alloc | apply pw_below_drewN | apply below_drew1 | refine below_set ?_ GE478.out) | exact HB.out)⟩⟩
    case round =>
      clear H'
      try clear c2
      try clear p2
      try clear hcz4_0
      try clear hcz4_1
      try clear hfz4_0
      try clear hfz4_1
      obtain ⟨x3_1, x4_1, rfl, rfl, HA, HK1, BK478, HB⟩ := hrel
      cases gk with
      | zero => exact absurd HA.out (by simp [trickleref19_Few.l0])
      | succ k1 =>
        have H := HA.out
        clear HA
        simp only [trickleref19_Few.l0] at H
        by_cases c5 : x4_1 < (l0_0.length : Int)
        · rw [if_pos c5] at H
          have c5b0 : decide (x4_1 < (l0_0.length : Int)) = true := decide_eq_true c5
          clear c5
          (first | rw [c5b0] | (simp only [i64_w, i32_w]; rw [c5b0]) | skip)
          by_cases c6 : x3_1 ≤ 400
          · rw [if_pos c6] at H
            have c6b0 : decide (x3_1 ≤ 400) = true := decide_eq_true c6
            clear c6
            by_cases c7 : 0 ≤ x4_1
            · rw [if_pos c7] at H
              have c7b0 : decide (0 ≤ x4_1) = true := decide_eq_true c7
              clear c7
              have H' := Aside0.mk H
              clear H
              have hcz8_0 : wr.cell? ⟨gb478, 0, none⟩ = some (.slice A0_0 l0_0.length c0_0) := (blk_cell BK478.out 0).trans rfl
              have hcz8_1 : wr.cell? ⟨gb478, 1, none⟩ = some (.slice A0_1 l0_1.length c0_1) := (blk_cell BK478.out 1).trans rfl
              have hfz8_0 := blk_frozen BK478.out 0
              have hfz8_1 := blk_frozen BK478.out 1
              have p479 : 0 ≤ (x4_1 : Int) := of_decide_eq_true (by first | (with_reducible assumption) | assumption)
              have q479 : x4_1 < (l0_0.length : Int) := of_decide_eq_true (by first | (with_reducible assumption) | assumption)
              obtain ⟨ad479, A479_0, c479_0, e479, hx479_0, hl479_0, hi479_0⟩ := at_L4 HR0_0.out x4_1 p479 q479
              cases e479
              replace hx479_0 := (HB.out.cell (World.block_lt_of_cell? w _ hx479_0)).trans hx479_0
              have HR479_0 := Aside0.mk hi479_0
              have HC479_0 := Aside0.mk hl479_0
              clear hi479_0 hl479_0
              replace p479 := eq_true p479
              replace q479 := eq_true q479
              go_wp2
              go_roundg k1
              case measure => have := HK1.out; omega
              case rel => exact ⟨(wrap64 (x3_1 + ((rd_L4 l0_0 x4_1).length : Int))), (wrap64 (x4_1 + 1)), (by first | rfl | (simp; done) | (simp [*]; done)), (by first | rfl | (simp; done) | (simp [*]; done)), H', ⟨by have := HK1.out; omega⟩, ⟨by (with_reducible repeat (first | refine blk_drewN ?_ _ | refine blk_drew ?_ | refine blk_alloc ?_ _)); exact BK478.out⟩, ⟨by repeat (first | (with_reducible first | exact HB.out | apply below_alloc | apply pw_below_drewN | apply below_drew1 | refine below_set ?_ GE478.out) | exact HB.out)⟩⟩
            · rw [if_neg c7] at H
              exact absurd H (by simp)
          · rw [if_neg c6] at H
            have c6b0 : decide (x3_1 ≤ 400) = false := decide_eq_false c6
            clear c6
            have H' := Aside0.mk H
            clear H
            have hcz9_0 : wr.cell? ⟨gb478, 0, none⟩ = some (.slice A0_0 l0_0.length c0_0) := (blk_cell BK478.out 0).trans rfl
            have hcz9_1 : wr.cell? ⟨gb478, 1, none⟩ = some (.slice A0_1 l0_1.length c0_1) := (blk_cell BK478.out 1).trans rfl
            have hfz9_0 := blk_frozen BK478.out 0
            have hfz9_1 := blk_frozen BK478.out 1
            go_wp2
            go_meet
            case rel => exact ⟨_, (x3_1), (by first | rfl | (simp; done) | (simp [*]; done)), H', ⟨by have := HK1.out; first | omega | exact Nat.le_refl _⟩, ⟨by (with_reducible repeat (first | refine blk_drewN ?_ _ | refine blk_drew ?_ | refine blk_alloc ?_ _)); exact BK478.out⟩, ⟨by repeat (first | (with_reducible first | exact HB.out | apply below_alloc | apply pw_below_drewN | apply below_drew1 | refine below_set ?_ GE478.out) | exact HB.out)⟩⟩
        · rw [if_neg c5] at H
          have c5b0 : decide (x4_1 < (l0_0.length : Int)) = false := decide_eq_false c5
          clear c5
          (first | rw [c5b0] | (simp only [i64_w, i32_w]; rw [c5b0]) | skip)
          have H' := Aside0.mk H
          clear H
          have hcz10_0 : wr.cell? ⟨gb478, 0, none⟩ = some (.slice A0_0 l0_0.length c0_0) := (blk_cell BK478.out 0).trans rfl
          have hcz10_1 : wr.cell? ⟨gb478, 1, none⟩ = some (.slice A0_1 l0_1.length c0_1) := (blk_cell BK478.out 1).trans rfl
          have hfz10_0 := blk_frozen BK478.out 0
          have hfz10_1 := blk_frozen BK478.out 1
          go_wp2
          go_meet
          case rel => exact ⟨_, (x3_1), (by first | rfl | (simp; done) | (simp [*]; done)), H', ⟨by have := HK1.out; first | omega | exact Nat.le_refl _⟩, ⟨by (with_reducible repeat (first | refine blk_drewN ?_ _ | refine blk_drew ?_ | refine blk_alloc ?_ _)); exact BK478.out⟩, ⟨by repeat (first | (with_reducible first | exact HB.out | apply below_alloc | apply pw_below_drewN | apply below_drew1 | refine below_set ?_ GE478.out) | exact HB.out)⟩⟩
  case rest =>
    clear HC2
    try clear c2
    try clear p2
    try clear c4
    try clear p4
    try clear q4
    try clear hx4
    try clear c5
    try clear c5b0
    try clear c6
    try clear c6b0
    try clear p6
    try clear c7
    try clear c7b0
    try clear hcz10_0
    try clear hcz10_1
    try clear hcz4_0
    try clear hcz4_1
    try clear hcz8_0
    try clear hcz8_1
    try clear hcz9_0
    try clear hcz9_1
    try clear hfz10_0
    try clear hfz10_1
    try clear hfz4_0
    try clear hfz4_1
    try clear hfz8_0
    try clear hfz8_1
    try clear hfz9_0
    try clear hfz9_1
    try clear hx479_0
    try clear p2
    try clear p479
    try clear q479
    obtain ⟨kq, x3_1, rfl, HA, HJ1, BK478, HB⟩ := hcut
    cases kq with
    | zero => exact absurd HA.out (by simp [trickleref19_Few.j1])
    | succ kj1 =>
      have H := HA.out
      clear HA
      simp only [trickleref19_Few.j1] at H
      have H' := Aside0.mk H
      clear H
      go_wp2
      go_loopg [3, 5] kj1 (fun kq v3 v5 w' => ∃ (x3_2 : Int) (x5_2 : Int), v3 = .int .i64 x3_2 ∧ v5 = .int .i64 x5_2 ∧ Aside0 (trickleref19_Few.l1 kq x3_2 x5_2 l0_0 l0_1 = some r) ∧ Aside0 (kq ≤ kj1) ∧ Aside0 (w'.heap[gb478]? = some (.cells #[(.slice A0_0 l0_0.length c0_0), (.slice A0_1 l0_1.length c0_1)] 32 (0, 0))) ∧ Aside0 (Below w.heap.size w w'))
      case atStart => exact ⟨(x3_1), (0), (by first | rfl | (simp; done) | (simp [*]; done)), (by first | rfl | (simp; done) | (simp [*]; done)), H', ⟨Nat.le_refl _⟩, ⟨by (with_reducible repeat (first | refine blk_drewN ?_ _ | refine blk_drew ?_ | refine blk_alloc ?_ _)); exact BK478.out⟩, ⟨by repeat (first | (with_reducible first | exact HB.out | apply below_alloc | apply pw_below_drewN | apply below_drew1 | refine below_set ?_ GE478.out) | exact HB.out)⟩⟩
      case round =>
        clear H'
        try clear c2
        try clear p2
        try clear c4
        try clear p4
        try clear q4
        try clear hx4
        try clear c5
        try clear c5b0
        try clear c6
        try clear c6b0
        try clear p6
        try clear c7
        try clear c7b0
        try clear hcz10_0
        try clear hcz10_1
        try clear hcz4_0
        try clear hcz4_1
        try clear hcz8_0
        try clear hcz8_1
        try clear hcz9_0
        try clear hcz9_1
        try clear hfz10_0
        try clear hfz10_1
        try clear hfz4_0
        try clear hfz4_1
        try clear hfz8_0
        try clear hfz8_1
        try clear hfz9_0
        try clear hfz9_1
        try clear hx479_0
        try clear p2
        try clear p4
        try clear p479
        try clear p6
        try clear q4
        try clear q479
        obtain ⟨x3_2, x5_2, rfl, rfl, HA, HK2, BK478, HB⟩ := hrel
        cases gk with
        | zero => exact absurd HA.out (by simp [trickleref19_Few.l1])
        | succ k2 =>
          have H := HA.out
          clear HA
          simp only [trickleref19_Few.l1] at H
          by_cases c11 : x5_2 < (l0_1.length : Int)
          · rw [if_pos c11] at H
            have c11b0 : decide (x5_2 < (l0_1.length : Int)) = true := decide_eq_true c11
            clear c11
            by_cases c12 : x3_2 ≤ 400
            · rw [if_pos c12] at H
              have c12b0 : decide (x3_2 ≤ 400) = true := decide_eq_true c12
              clear c12
              by_cases c13 : 0 ≤ x5_2
              · rw [if_pos c13] at H
                have c13b0 : decide (0 ≤ x5_2) = true := decide_eq_true c13
                clear c13
                have H' := Aside0.mk H
                clear H
                have hcz14_0 : wr.cell? ⟨gb478, 0, none⟩ = some (.slice A0_0 l0_0.length c0_0) := (blk_cell BK478.out 0).trans rfl
                have hcz14_1 : wr.cell? ⟨gb478, 1, none⟩ = some (.slice A0_1 l0_1.length c0_1) := (blk_cell BK478.out 1).trans rfl
                have hfz14_0 := blk_frozen BK478.out 0
                have hfz14_1 := blk_frozen BK478.out 1
                have p480 : 0 ≤ (x5_2 : Int) := of_decide_eq_true (by first | (with_reducible assumption) | assumption)
                have q480 : x5_2 < (l0_1.length : Int) := of_decide_eq_true (by first | (with_reducible assumption) | assumption)
                obtain ⟨ad480, A480_0, c480_0, e480, hx480_0, hl480_0, hi480_0⟩ := at_L4 HR0_1.out x5_2 p480 q480
                cases e480
                replace hx480_0 := (HB.out.cell (World.block_lt_of_cell? w _ hx480_0)).trans hx480_0
                have HR480_0 := Aside0.mk hi480_0
                have HC480_0 := Aside0.mk hl480_0
                clear hi480_0 hl480_0
                replace p480 := eq_true p480
                replace q480 := eq_true q480
                go_wp2
                go_roundg k2
                case measure => have := HJ1.out; have := HK2.out; omega
                case rel => exact ⟨(wrap64 (x3_2 + ((rd_L4 l0_1 x5_2).length : Int))), (wrap64 (x5_2 + 1)), (by first | rfl | (simp; done) | (simp [*]; done)), (by first | rfl | (simp; done) | (simp [*]; done)), H', ⟨by have := HJ1.out; have := HK2.out; omega⟩, ⟨by (with_reducible repeat (first | refine blk_drewN ?_ _ | refine blk_drew ?_ | refine blk_alloc ?_ _)); exact BK478.out⟩, ⟨by repeat (first | (with_reducible first | exact HB.out | apply below_alloc | apply pw_below_drewN | apply below_drew1 | refine below_set ?_ GE478.out) | exact HB.out)⟩⟩
              · rw [if_neg c13] at H
                exact absurd H (by simp)
            · rw [if_neg c12] at H
              have c12b0 : decide (x3_2 ≤ 400) = false := decide_eq_false c12
              clear c12
              obtain rfl := Option.some.inj H
              have hcz15_0 : wr.cell? ⟨gb478, 0, none⟩ = some (.slice A0_0 l0_0.length c0_0) := (blk_cell BK478.out 0).trans rfl
              have hcz15_1 : wr.cell? ⟨gb478, 1, none⟩ = some (.slice A0_1 l0_1.length c0_1) := (blk_cell BK478.out 1).trans rfl
              have hfz15_0 := blk_frozen BK478.out 0
              have hfz15_1 := blk_frozen BK478.out 1
              go_wp2
              go_ret
              exact ⟨by first | rfl | (simp [errW_none, errW_some] <;> rfl) | (simp [*, errW_none, errW_some] <;> rfl), by repeat (first | (with_reducible first | exact HB.out | apply below_alloc | apply pw_below_drewN | apply below_drew1 | refine below_set ?_ GE478.out) | exact HB.out)⟩
          · rw [if_neg c11] at H
            have c11b0 : decide (x5_2 < (l0_1.length : Int)) = false := decide_eq_false c11
            clear c11
            obtain rfl := Option.some.inj H
            have hcz16_0 : wr.cell? ⟨gb478, 0, none⟩ = some (.slice A0_0 l0_0.length c0_0) := (blk_cell BK478.out 0).trans rfl
            have hcz16_1 : wr.cell? ⟨gb478, 1, none⟩ = some (.slice A0_1 l0_1.length c0_1) := (blk_cell BK478.out 1).trans rfl
            have hfz16_0 := blk_frozen BK478.out 0
            have hfz16_1 := blk_frozen BK478.out 1
            go_wp2
            go_ret
            exact ⟨by first | rfl | (simp [errW_none, errW_some] <;> rfl) | (simp [*, errW_none, errW_some] <;> rfl), by repeat (first | (with_reducible first | exact HB.out | apply below_alloc | apply pw_below_drewN | apply below_drew1 | refine below_set ?_ GE478.out) | exact HB.out)⟩

/-! ### tricklelaw19_few: function 13 -/
/-! ### tricklelaw19_plain: function 29 -/
-- NOT PRINTED: function 14 (tricklelaw19_run)

end Go.Proofs.Yteonloecenodbaa.PX
