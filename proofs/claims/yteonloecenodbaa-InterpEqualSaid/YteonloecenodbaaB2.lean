/- Parts of the proof, merged in build order: MEql, MMac, MBack, MBack2, MBack3, MTable. -/
import Derived.Test.YteonloecenodbaaB1
import Derived.RangeFuncNested
import Derived.RangeFuncBound
import Derived.RangeFuncCalls
import Derived.RangeFuncLeaves
import Derived.RangeFuncBox
import Derived.Shelf.Abstract
import Derived.Shelf.RegionOpen
import Derived.WalkKit
import Derived.OwnWalkIn
import Derived.TacticsInMore
import Derived.LoopNIn
import Derived.LoopIn
import Derived.RangeFuncWrites
import Derived.RangeFuncKeeps
import Derived.Maps.OwnIn
import Derived.Maps.OwnSet
import Derived.StringKeys
/- interp.Equal. -/
namespace Go.Proofs.Yteonloecenodbaa.PX
open Go.RowKit Go.Shelf Go.Proofs.YteonloecenodbaaW.PrintWords Go.Proofs.YteonloecenodbaaW.PrintLast Go.Proofs.YteonloecenodbaaW.PrintMore
set_option linter.unusedVariables false
theorem eqf_calls' {a b : List (List Int)} {r : Bool} (hr' : decide (a = b) = r) (A0 A1 : Option Addr) (c0 c1 : Nat) (w : World) (h0 : Kd.C (Kd.slice 29 (Kd.int .i16)) w A0 a.length a) (h1 : Kd.C (Kd.slice 29 (Kd.int .i16)) w A1 b.length b) (hl : a.length ≤ 1000000000) (hr : ∀ x ∈ a, x.length ≤ 1000000000) :
    Calls Try.prog 46 #[.slice A0 a.length c0, .slice A1 b.length c1, .func (.func 47) #[] #[]] w fun e w' => e = .returned (.bool r) ∧ Below w.heap.size w w' := by
  subst hr'
  exact eqf_calls A0 A1 c0 c1 a b w h0 h1 hl hr
set_option maxRecDepth 100000 in
set_option maxHeartbeats 4000000 in
theorem equal_calls {ag ac bg bc : List (List Int)} {r1 r2 : Bool} (hr1 : decide (ag = bg) = r1) (hr2 : decide (ac = bc) = r2) (A0 A1 A2 A3 : Option Addr) (c0 c1 c2 c3 : Nat) (w : World)
    (h0 : Kd.C (Kd.slice 29 (Kd.int .i16)) w A0 ag.length ag) (h1 : Kd.C (Kd.slice 29 (Kd.int .i16)) w A1 ac.length ac) (h2 : Kd.C (Kd.slice 29 (Kd.int .i16)) w A2 bg.length bg) (h3 : Kd.C (Kd.slice 29 (Kd.int .i16)) w A3 bc.length bc)
    (hlg : ag.length ≤ 1000000000 ∧ ∀ x ∈ ag, x.length ≤ 1000000000) (hlc : ac.length ≤ 1000000000 ∧ ∀ x ∈ ac, x.length ≤ 1000000000) :
    Calls Try.prog 23 #[.agg #[.slice A0 ag.length c0, .slice A1 ac.length c1], .agg #[.slice A2 bg.length c2, .slice A3 bc.length c3]] w fun e w' => e = .returned (.bool (r1 && r2)) ∧ Below w.heap.size w w' := by
  have hu32 := Try.underlying32
  have H0 := Aside0.mk h0
  have H1 := Aside0.mk h1
  have H2 := Aside0.mk h2
  have H3 := Aside0.mk h3
  have HG := Aside0.mk hlg
  have HC := Aside0.mk hlc
  have HR1 := Aside0.mk hr1
  have HR2 := Aside0.mk hr2
  clear h0 h1 h2 h3 hlg hlc hr1 hr2
  rcases r1
  all_goals
    go_enter Try.func23, Try.ntmps23
    go_wp2_with (first
      | ((with_reducible refine gate_dst (N := 2) rfl ?_); refine box_event ?hg (N := 2) ?hd (cs := #[.slice A0 ag.length c0, .slice A1 ac.length c1]) (t := 32) ?hr ?_; (case hd => rfl); (case hg => rfl); (case hr => first | (go_simp; done) | (go_simp; rfl)); intro gb1 hg1 w1 hbox1 hb1; have BK1 := Aside0.mk hbox1; have HB1 := Aside0.mk hb1; clear hg1 hbox1 hb1)
      | ((with_reducible refine gate_dst (N := 3) rfl ?_); refine box_event ?hg (N := 3) ?hd (cs := #[.slice A2 bg.length c2, .slice A3 bc.length c3]) (t := 32) ?hr ?_; (case hd => rfl); (case hg => rfl); (case hr => first | (go_simp; done) | (go_simp; rfl)); intro gb2 hg2 w2 hbox2 hb2; have BK2 := Aside0.mk hbox2; have HB2 := Aside0.mk (below_step HB1.out hb2); have BK3 := Aside0.mk (blk_below BK1.out hb2); have x0 : w2.cell? ⟨gb1, 0, none⟩ = _ := (blk_cell BK3.out 0).trans rfl; have x2 : w2.cell? ⟨gb2, 0, none⟩ = _ := (blk_cell BK2.out 0).trans rfl; clear hg2 hbox2 hb2)
      | (go_at_call 46; refine (eqf_calls' HR2.out A1 A3 c1 c3 _ (Kd.C_below H1.out HB3.out) (Kd.C_below H3.out HB3.out) HC.out.1 HC.out.2).mono ?_; rintro e w4 ⟨rfl, hb4⟩; have HB4 := Aside0.mk (below_step HB3.out hb4); clear hb4 x1 x3)
      | (go_at_call 46; refine (eqf_calls' HR1.out A0 A2 c0 c2 _ (Kd.C_below H0.out HB2.out) (Kd.C_below H2.out HB2.out) HG.out.1 HG.out.2).mono ?_; rintro e w3 ⟨rfl, hb3⟩; have HB3 := Aside0.mk (below_step HB2.out hb3); have x1 : w3.cell? ⟨gb1, 1, none⟩ = _ := (blk_cell (blk_below BK3.out hb3) 1).trans rfl; have x3 : w3.cell? ⟨gb2, 1, none⟩ = _ := (blk_cell (blk_below BK2.out hb3) 1).trans rfl; clear hb3 x0 x2))
    go_ret
    first
      | exact ⟨rfl, HB4.out⟩
      | exact ⟨rfl, HB3.out⟩
end Go.Proofs.Yteonloecenodbaa.PX
/- The block of an interpreter: what lies in it, and that its rows are apart. -/
namespace Go.Proofs.Yteonloecenodbaa.PX
open Go.RowKit Go.Proofs.YteonloecenodbaaW.PrintWords Go.Proofs.YteonloecenodbaaW.PrintMore
set_option linter.unusedVariables false
section
variable {α : Type} {d : Kd α} {e : Nat} {W W1 : World} {n0 : Nat} {v v1 : Value} {xs : List α}
/-- A row of its own, without rows inside. -/
structure QQ {α : Type} (d : Kd α) (e : Nat) (W : World) (n0 : Nat) (v : Value) (xs : List α) : Prop where
  E : d.E = []
  q : d.Q e W n0 (fun _ => True) v xs
theorem QQ.step (h : QQ d e W n0 v xs) (hm : ∀ k, v.ownBlock = some k → W1.heap[k]? = W.heap[k]?) : QQ d e W1 n0 v xs :=
  ⟨h.E, Kd.Q_mono (Kd.Q_step (Kd.Q_tight h.E h.q) (fun k hk _ => hm k hk.symm)) (fun _ _ => trivial)⟩
theorem QQ.lt (h : QQ d e W n0 v xs) : ∀ k, v.ownBlock = some k → k < W.heap.size := Kd.Q_lt h.q
theorem QQ.base (h : QQ d e W n0 v xs) : ∀ k, v.ownBlock = some k → n0 ≤ k := Kd.Q_base h.q
theorem QQ.typed (h : QQ d e W n0 v xs) (k : Nat) (hk : v.ownBlock = some k) : ∃ cells, W.heap[k]? = some (.cells cells e (0, 0)) := by
  obtain ⟨_, inner, hq, _⟩ := h.q
  exact (q_typed hq k hk).2
theorem QQ.ne {β : Type} {d' : Kd β} {e' : Nat} {u : Value} {ys : List β} (h : QQ d e W n0 v xs) (h' : QQ d' e' W n0 u ys) (hne : e ≠ e') : ∀ k, v.ownBlock = some k → u.ownBlock ≠ some k := fun k hk hu => by
  obtain ⟨c1, h1⟩ := h.typed k hk
  obtain ⟨c2, h2⟩ := h'.typed k hu
  rw [h1] at h2
  injection h2 with h2
  injection h2 with _ h2
  exact hne h2
theorem QQ.neb (h : QQ d e W n0 v xs) {b t : Nat} {cs : Array Value} (hb : W.heap[b]? = some (.cells cs t (0, 0))) (hne : e ≠ t) : v.ownBlock ≠ some b := fun hv => by
  obtain ⟨c1, h1⟩ := h.typed b hv
  rw [h1] at hb
  injection hb with h2
  injection h2 with _ h2
  exact hne h2
end
/-- A slice's three words. -/
structure Sl where
  A : Option Addr
  n : Nat
  c : Nat
def Sl.v (s : Sl) : Value := .slice s.A s.n s.c
def kSl : Kd Sl := Kd.scalar Sl.v (fun _ => rfl)
def kLoc : Kd (ByteArray × Int) := Kd.pair Kd.string (Kd.int .i16)
def kI : Kd Int := Kd.int .i16
def kN : Kd Int := Kd.int .i64
/-- The state of an execution. -/
structure St where
  globals : List (List Int)
  channels : List (List Int)
  emitted : List Int
  outputs : List S110
  dropped : Int
  used : Int
  sensors : List Int
  locals : List (ByteArray × Int)
  left : Int
/-- The slices' words. -/
structure VV where
  G : Value
  C : Value
  E : Value
  O : Value
  S : Value
  R : Value
  L : Value
  gs : List Sl
  cs : List Sl
structure PV where
  v0 : Value
  v1 : Value
  v2 : Value
  v3 : Value
  v4 : Value
  v5 : Value
def mcells (p : PV) (V : VV) (M : St) (ex : List Value) : List Value :=
  p.v0 :: p.v1 :: p.v2 :: p.v3 :: p.v4 :: p.v5 :: V.G :: V.C :: V.E :: V.O :: .int .i64 M.dropped :: .int .i64 M.used :: V.S :: V.R :: V.L :: .int .i64 M.left :: ex
def Apart (l : List Value) : Prop := l.Pairwise (fun a b => ∀ k, a.ownBlock = some k → b.ownBlock ≠ some k)
/-- Rows of words. -/
structure WRows (W : World) (n0 : Nat) (ss : List Sl) (xss : List (List Int)) : Prop where
  len : ss.length = xss.length
  row : ∀ (i : Nat) (s : Sl) (xs : List Int), ss[i]? = some s → xss[i]? = some xs → QQ kI 29 W n0 s.v xs
theorem WRows.imp {W W1 : World} {n0 : Nat} {ss : List Sl} {xss : List (List Int)} (h : WRows W n0 ss xss) (hi : ∀ s xs, s ∈ ss → QQ kI 29 W n0 s.v xs → QQ kI 29 W1 n0 s.v xs) : WRows W1 n0 ss xss :=
  ⟨h.len, fun i s xs h1 h2 => hi s xs (List.mem_of_getElem? h1) (h.row i s xs h1 h2)⟩
theorem WRows.mem {W : World} {n0 : Nat} {ss : List Sl} {xss : List (List Int)} (h : WRows W n0 ss xss) {s : Sl} (hs : s ∈ ss) : ∃ xs, QQ kI 29 W n0 s.v xs := by
  obtain ⟨i, hi, rfl⟩ := List.getElem_of_mem hs
  exact ⟨_, h.row i _ (xss[i]'(h.len ▸ hi)) (List.getElem?_eq_getElem hi) (List.getElem?_eq_getElem _)⟩
/-- Block b is the interpreter's. -/
structure Mac (tm tl : Nat) (p : PV) (ex : List Value) (W : World) (n0 b : Nat) (V : VV) (M : St) : Prop where
  tt : tm ≠ 29 ∧ tm ≠ 33 ∧ tm ≠ 110 ∧ tm ≠ 3 ∧ tm ≠ tl ∧ tl ≠ 29 ∧ tl ≠ 33 ∧ tl ≠ 110 ∧ tl ≠ 3
  blk : W.heap[b]? = some (.cells (mcells p V M ex).toArray tm (0, 0))
  base : n0 ≤ b
  G : QQ kSl 33 W n0 V.G V.gs
  C : QQ kSl 33 W n0 V.C V.cs
  gr : WRows W n0 V.gs M.globals
  cr : WRows W n0 V.cs M.channels
  E : QQ kI 29 W n0 V.E M.emitted
  O : QQ k110 110 W n0 V.O M.outputs
  S : QQ kN 3 W n0 V.S M.sensors
  L : QQ kLoc tl W n0 V.L M.locals
  a33 : Apart [V.G, V.C]
  a29 : Apart (V.E :: (V.gs ++ V.cs).map Sl.v)
section
variable {tm tl : Nat} {p : PV} {ex ex' : List Value} {W W1 W2 : World} {n0 b : Nat} {V V' : VV} {M M' : St}
/-- Nothing of its own has been written. -/
theorem Mac.move (h : Mac tm tl p ex W n0 b V M) (hm : ∀ k, n0 ≤ k → k < W.heap.size → W1.heap[k]? = W.heap[k]?) : Mac tm tl p ex W1 n0 b V M := by
  have hblt : b < W.heap.size := (Array.getElem?_eq_some_iff.1 h.blk).1
  have key : ∀ {α : Type} {d : Kd α} {e : Nat} {v : Value} {xs : List α}, QQ d e W n0 v xs → QQ d e W1 n0 v xs := fun hq => hq.step (fun k hk => hm k (hq.base k hk) (hq.lt k hk))
  exact ⟨h.tt, (hm b h.base hblt).trans h.blk, h.base, key h.G, key h.C, h.gr.imp (fun _ _ _ hq => key hq), h.cr.imp (fun _ _ _ hq => key hq), key h.E, key h.O, key h.S, key h.L, h.a33, h.a29⟩
theorem Mac.below (h : Mac tm tl p ex W n0 b V M) (hb : Below W.heap.size W W1) : Mac tm tl p ex W1 n0 b V M := h.move (fun k _ hk => hb.block k hk)
theorem Mac.lt (h : Mac tm tl p ex W n0 b V M) : b < W.heap.size := (Array.getElem?_eq_some_iff.1 h.blk).1
/-- What S names, and what is new, may have turned. -/
def Turn (W W2 : World) (S : Nat → Prop) : Prop := ∀ k, k < W.heap.size → ¬ S k → W2.heap[k]? = W.heap[k]?
theorem Turn.trans {S : Nat → Prop} (h : Turn W W1 S) (k : Turn W1 W2 S) (hs : W.heap.size ≤ W1.heap.size) : Turn W W2 S := fun i hi hn => (k i (by omega) hn).trans (h i hi hn)
theorem Turn.mono {S S' : Nat → Prop} (h : Turn W W2 S) (hs : ∀ k, S k → S' k) : Turn W W2 S' := fun i hi hn => h i hi (fun e => hn (hs i e))
theorem Turn.of_grown {row : Option Nat} (h : W.grownBy W2 row) : Turn W W2 (fun k => row = some k) := fun i hi hn => h.block i hi (fun e => hn e.symm)
theorem Turn.of_set (p : Addr) (v : Value) : Turn W (W.setCell p v) (fun k => k = p.block) := fun i hi hn => Below.heap_setCell W p v i hn
theorem Turn.of_below (h : Below W.heap.size W W2) {S : Nat → Prop} : Turn W W2 S := fun i hi _ => h.block i hi
theorem QQ.turn {α : Type} {d : Kd α} {e : Nat} {v : Value} {xs : List α} {S : Nat → Prop} (h : QQ d e W n0 v xs) (ht : Turn W W2 S) (hr : ∀ k, v.ownBlock = some k → ¬ S k) : QQ d e W2 n0 v xs :=
  h.step (fun k hk => ht k (h.lt k hk) (hr k hk))
theorem Apart.head {v : Value} {l : List Value} (h : Apart (v :: l)) {u : Value} (hu : u ∈ l) : ∀ k, v.ownBlock = some k → u.ownBlock ≠ some k := (List.pairwise_cons.1 h).1 u hu
/-- Old, or new. -/
def Lies (W : World) (v v1 : Value) : Prop := v1.ownBlock = v.ownBlock ∨ ∃ g, v1.ownBlock = some g ∧ W.heap.size ≤ g
theorem Mac.row_lt (h : Mac tm tl p ex W n0 b V M) {u : Value} (hu : u ∈ (V.gs ++ V.cs).map Sl.v) : ∀ k, u.ownBlock = some k → k < W.heap.size := by
  obtain ⟨s, hs, rfl⟩ := List.mem_map.1 hu
  rcases List.mem_append.1 hs with hs | hs
  · obtain ⟨xs, hq⟩ := h.gr.mem hs
    exact hq.lt
  · obtain ⟨xs, hq⟩ := h.cr.mem hs
    exact hq.lt
/-- A row has been written; what it holds now, stands in block b. -/
theorem Mac.turn_E (h : Mac tm tl p ex W n0 b V M) (ht : Turn W W2 (fun k => k = b ∨ V.E.ownBlock = some k)) {v1 : Value} {zs : List Int} (hq : QQ kI 29 W2 n0 v1 zs) (hat : Lies W V.E v1)
    (hV : V' = { V with E := v1 }) (hM : M' = { M with emitted := zs }) (hblk : W2.heap[b]? = some (.cells (mcells p V' M' ex').toArray tm (0, 0))) : Mac tm tl p ex' W2 n0 b V' M' := by
  subst hV hM
  have t := h.tt
  have nb : ∀ {α : Type} {d : Kd α} {e : Nat} {v : Value} {xs : List α}, QQ d e W n0 v xs → e ≠ tm → (∀ k, v.ownBlock = some k → V.E.ownBlock ≠ some k) → QQ d e W2 n0 v xs :=
    fun hq hne hr => hq.turn ht (fun k hk hS => hS.elim (fun e => hq.neb h.blk hne (by rw [hk, e])) (fun e => hr k hk e))
  have rowsne : ∀ s xs, s ∈ V.gs ++ V.cs → QQ kI 29 W n0 s.v xs → QQ kI 29 W2 n0 s.v xs := fun s xs hs hq => nb hq (Ne.symm t.1) (fun k hk he => h.a29.head (List.mem_map_of_mem hs) k he hk)
  refine ⟨t, hblk, h.base, nb h.G (Ne.symm t.2.1) (h.G.ne h.E (by decide)), nb h.C (Ne.symm t.2.1) (h.C.ne h.E (by decide)),
    h.gr.imp (fun s xs hs hq => rowsne s xs (List.mem_append_left _ hs) hq), h.cr.imp (fun s xs hs hq => rowsne s xs (List.mem_append_right _ hs) hq), hq,
    nb h.O (Ne.symm t.2.2.1) (h.O.ne h.E (by decide)), nb h.S (Ne.symm t.2.2.2.1) (h.S.ne h.E (by decide)), nb h.L (Ne.symm t.2.2.2.2.1) (h.L.ne h.E t.2.2.2.2.2.1), h.a33, ?_⟩
  have ha := List.pairwise_cons.1 h.a29
  refine List.pairwise_cons.2 ⟨fun u hu k hk => ?_, ha.2⟩
  rcases hat with hat | ⟨g, hg, hge⟩
  · exact ha.1 u hu k (hat ▸ hk)
  · intro huk
    have := h.row_lt hu k huk
    rw [hg] at hk
    obtain rfl := Option.some.inj hk
    omega
theorem Mac.turn_S (h : Mac tm tl p ex W n0 b V M) (ht : Turn W W2 (fun k => k = b ∨ V.S.ownBlock = some k)) {v1 : Value} {zs : List Int} (hq : QQ kN 3 W2 n0 v1 zs)
    (hV : V' = { V with S := v1 }) (hM : M' = { M with sensors := zs }) (hblk : W2.heap[b]? = some (.cells (mcells p V' M' ex').toArray tm (0, 0))) : Mac tm tl p ex' W2 n0 b V' M' := by
  subst hV hM
  have t := h.tt
  have nb : ∀ {α : Type} {d : Kd α} {e : Nat} {v : Value} {xs : List α}, QQ d e W n0 v xs → e ≠ tm → e ≠ 3 → QQ d e W2 n0 v xs :=
    fun hq hne hr => hq.turn ht (fun k hk hS => hS.elim (fun e => hq.neb h.blk hne (by rw [hk, e])) (fun e => hq.ne h.S hr k hk e))
  exact ⟨t, hblk, h.base, nb h.G (Ne.symm t.2.1) (by decide), nb h.C (Ne.symm t.2.1) (by decide), h.gr.imp (fun s xs hs hq => nb hq (Ne.symm t.1) (by decide)), h.cr.imp (fun s xs hs hq => nb hq (Ne.symm t.1) (by decide)),
    nb h.E (Ne.symm t.1) (by decide), nb h.O (Ne.symm t.2.2.1) (by decide), hq, nb h.L (Ne.symm t.2.2.2.2.1) t.2.2.2.2.2.2.2.2, h.a33, h.a29⟩
theorem Mac.turn_O (h : Mac tm tl p ex W n0 b V M) (ht : Turn W W2 (fun k => k = b ∨ V.O.ownBlock = some k)) {v1 : Value} {zs : List S110} (hq : QQ k110 110 W2 n0 v1 zs)
    (hV : V' = { V with O := v1 }) (hM : M' = { M with outputs := zs }) (hblk : W2.heap[b]? = some (.cells (mcells p V' M' ex').toArray tm (0, 0))) : Mac tm tl p ex' W2 n0 b V' M' := by
  subst hV hM
  have t := h.tt
  have nb : ∀ {α : Type} {d : Kd α} {e : Nat} {v : Value} {xs : List α}, QQ d e W n0 v xs → e ≠ tm → e ≠ 110 → QQ d e W2 n0 v xs :=
    fun hq hne hr => hq.turn ht (fun k hk hS => hS.elim (fun e => hq.neb h.blk hne (by rw [hk, e])) (fun e => hq.ne h.O hr k hk e))
  exact ⟨t, hblk, h.base, nb h.G (Ne.symm t.2.1) (by decide), nb h.C (Ne.symm t.2.1) (by decide), h.gr.imp (fun s xs hs hq => nb hq (Ne.symm t.1) (by decide)), h.cr.imp (fun s xs hs hq => nb hq (Ne.symm t.1) (by decide)),
    nb h.E (Ne.symm t.1) (by decide), hq, nb h.S (Ne.symm t.2.2.2.1) (by decide), nb h.L (Ne.symm t.2.2.2.2.1) t.2.2.2.2.2.2.2.1, h.a33, h.a29⟩
theorem Mac.turn_L (h : Mac tm tl p ex W n0 b V M) (ht : Turn W W2 (fun k => k = b ∨ V.L.ownBlock = some k)) {v1 : Value} {zs : List (ByteArray × Int)} (hq : QQ kLoc tl W2 n0 v1 zs)
    (hV : V' = { V with L := v1 }) (hM : M' = { M with locals := zs }) (hblk : W2.heap[b]? = some (.cells (mcells p V' M' ex').toArray tm (0, 0))) : Mac tm tl p ex' W2 n0 b V' M' := by
  subst hV hM
  have t := h.tt
  have nb : ∀ {α : Type} {d : Kd α} {e : Nat} {v : Value} {xs : List α}, QQ d e W n0 v xs → e ≠ tm → e ≠ tl → QQ d e W2 n0 v xs :=
    fun hq hne hr => hq.turn ht (fun k hk hS => hS.elim (fun e => hq.neb h.blk hne (by rw [hk, e])) (fun e => hq.ne h.L hr k hk e))
  exact ⟨t, hblk, h.base, nb h.G (Ne.symm t.2.1) (Ne.symm t.2.2.2.2.2.2.1), nb h.C (Ne.symm t.2.1) (Ne.symm t.2.2.2.2.2.2.1), h.gr.imp (fun s xs hs hq => nb hq (Ne.symm t.1) (Ne.symm t.2.2.2.2.2.1)), h.cr.imp (fun s xs hs hq => nb hq (Ne.symm t.1) (Ne.symm t.2.2.2.2.2.1)),
    nb h.E (Ne.symm t.1) (Ne.symm t.2.2.2.2.2.1), nb h.O (Ne.symm t.2.2.1) (Ne.symm t.2.2.2.2.2.2.2.1), nb h.S (Ne.symm t.2.2.2.1) (Ne.symm t.2.2.2.2.2.2.2.2), hq, h.a33, h.a29⟩
/-- Numbers in block b. -/
theorem Mac.turn_n (h : Mac tm tl p ex W n0 b V M) (ht : Turn W W2 (fun k => k = b)) {dr us le : Int}
    (hM : M' = { M with dropped := dr, used := us, left := le }) (hblk : W2.heap[b]? = some (.cells (mcells p V M' ex').toArray tm (0, 0))) : Mac tm tl p ex' W2 n0 b V M' := by
  subst hM
  have t := h.tt
  have nb : ∀ {α : Type} {d : Kd α} {e : Nat} {v : Value} {xs : List α}, QQ d e W n0 v xs → e ≠ tm → QQ d e W2 n0 v xs :=
    fun hq hne => hq.turn ht (fun k hk e => hq.neb h.blk hne (by rw [hk, e]))
  exact ⟨t, hblk, h.base, nb h.G (Ne.symm t.2.1), nb h.C (Ne.symm t.2.1), h.gr.imp (fun s xs hs hq => nb hq (Ne.symm t.1)), h.cr.imp (fun s xs hs hq => nb hq (Ne.symm t.1)),
    nb h.E (Ne.symm t.1), nb h.O (Ne.symm t.2.2.1), nb h.S (Ne.symm t.2.2.2.1), nb h.L (Ne.symm t.2.2.2.2.1), h.a33, h.a29⟩
theorem apart_set {a : Value} {l : List Value} (h : Apart (a :: l)) (i : Nat) (hi : i < l.length) {u : Value} (hl : ∀ x ∈ a :: l, ∀ k, x.ownBlock = some k → k < W.heap.size) (hat : Lies W l[i] u) : Apart (a :: l.set i u) := by
  have hp := List.pairwise_cons.1 h
  have far : ∀ x ∈ a :: l, (∀ k, l[i].ownBlock = some k → x.ownBlock ≠ some k) → ∀ k, u.ownBlock = some k → x.ownBlock ≠ some k := fun x hx hx1 k hk hxk => by
    rcases hat with hat | ⟨g, hg, hge⟩
    · exact hx1 k (hat ▸ hk) hxk
    · have := hl x hx k hxk
      rw [hg] at hk
      obtain rfl := Option.some.inj hk
      omega
  refine List.pairwise_cons.2 ⟨fun x hx k hk hxk => ?_, ?_⟩
  · rcases List.mem_or_eq_of_mem_set hx with hx | rfl
    · exact hp.1 x hx k hk hxk
    · exact far a List.mem_cons_self (fun k hk ha => hp.1 _ (List.getElem_mem hi) k ha hk) k hxk hk
  · have h2 := List.pairwise_iff_getElem.1 hp.2
    refine List.pairwise_iff_getElem.2 (fun i1 j1 hi1 hj1 hij k hk hjk => ?_)
    rw [List.length_set] at hi1 hj1
    rw [List.getElem_set] at hk hjk
    split at hk
    · rename_i e1
      split at hjk
      · omega
      · subst e1
        exact far _ (List.mem_cons_of_mem _ (List.getElem_mem hj1)) (fun k hk => h2 _ _ hi1 hj1 hij k hk) k hk hjk
    · split at hjk
      · rename_i e1
        subst e1
        exact far _ (List.mem_cons_of_mem _ (List.getElem_mem hi1)) (fun k hk hh => h2 _ _ hi1 hj1 hij k hh hk) k hjk hk
      · exact h2 _ _ hi1 hj1 hij k hk hjk
/-- Channel i: its row, and its place in the outer row. -/
theorem Mac.turn_C (h : Mac tm tl p ex W n0 b V M) (i : Nat) {s s1 : Sl} (hi : V.cs[i]? = some s) (ht : Turn W W2 (fun k => V.C.ownBlock = some k ∨ s.v.ownBlock = some k)) {zs : List Int}
    (hq : QQ kI 29 W2 n0 s1.v zs) (hC : QQ kSl 33 W2 n0 V.C (V.cs.set i s1)) (hat : Lies W s.v s1.v)
    (hV : V' = { V with cs := V.cs.set i s1 }) (hM : M' = { M with channels := M.channels.set i zs }) : Mac tm tl p ex W2 n0 b V' M' := by
  subst hV hM
  have t := h.tt
  have hlt : i < V.cs.length := (List.getElem?_eq_some_iff.1 hi).1
  obtain ⟨xs0, hx0⟩ : ∃ xs, M.channels[i]? = some xs := ⟨_, List.getElem?_eq_getElem (h.cr.len ▸ hlt)⟩
  have hs := h.cr.row i s xs0 hi hx0
  have nb : ∀ {α : Type} {d : Kd α} {e : Nat} {v : Value} {xs : List α}, QQ d e W n0 v xs → (∀ k, v.ownBlock = some k → V.C.ownBlock ≠ some k) → (∀ k, v.ownBlock = some k → s.v.ownBlock ≠ some k) → QQ d e W2 n0 v xs :=
    fun hq h1 h2 => hq.turn ht (fun k hk e => e.elim (h1 k hk) (h2 k hk))
  have hidx : V.gs.length + i < ((V.gs ++ V.cs).map Sl.v).length := by rw [List.length_map, List.length_append]; omega
  have hget : ((V.gs ++ V.cs).map Sl.v)[V.gs.length + i] = s.v := by
    rw [List.getElem_map]
    congr 1
    rw [List.getElem_append_right (by omega)]
    rw [List.getElem?_eq_getElem hlt] at hi
    simpa using hi
  have hp := List.pairwise_cons.1 h.a29
  have hrow : ∀ j (hj : j < ((V.gs ++ V.cs).map Sl.v).length), j ≠ V.gs.length + i → ∀ k, ((V.gs ++ V.cs).map Sl.v)[j].ownBlock = some k → s.v.ownBlock ≠ some k := fun j hj hne k hk hsk => by
    have h2 := List.pairwise_iff_getElem.1 hp.2
    rw [← hget] at hsk
    rcases Nat.lt_or_gt_of_ne hne with hlt | hlt
    · exact h2 _ _ hj hidx hlt k hk hsk
    · exact h2 _ _ hidx hj hlt k hsk hk
  refine ⟨t, ?_, h.base, nb h.G (h.a33.head (by simp)) (h.G.ne hs (by decide)), hC, ⟨h.gr.len, fun j s' xs h1 h2 => ?_⟩, ⟨?_, fun j s' xs h1 h2 => ?_⟩,
    nb h.E (h.E.ne h.C (by decide)) (h.a29.head (List.mem_map_of_mem (List.mem_append_right _ (List.mem_of_getElem? hi)))), nb h.O (h.O.ne h.C (by decide)) (h.O.ne hs (by decide)),
    nb h.S (h.S.ne h.C (by decide)) (h.S.ne hs (by decide)), nb h.L (h.L.ne h.C t.2.2.2.2.2.2.1) (h.L.ne hs t.2.2.2.2.2.1), h.a33, ?_⟩
  · refine (ht b h.lt (fun e => ?_)).trans h.blk
    rcases e with e | e
    · exact h.C.neb h.blk (Ne.symm t.2.1) e
    · exact hs.neb h.blk (Ne.symm t.1) e
  · have hq1 := h.gr.row j s' xs h1 h2
    have hj : j < V.gs.length := (List.getElem?_eq_some_iff.1 h1).1
    refine nb hq1 (hq1.ne h.C (by decide)) (fun k hk => hrow j (by rw [List.length_map, List.length_append]; omega) (by omega) k ?_)
    rw [List.getElem_map, List.getElem_append_left hj]
    rw [List.getElem?_eq_getElem hj] at h1
    rw [Option.some.inj h1]
    exact hk
  · rw [List.length_set, List.length_set]; exact h.cr.len
  · by_cases hj : i = j
    · subst hj
      rw [List.getElem?_set_self hlt] at h1
      rw [List.getElem?_set_self (h.cr.len ▸ hlt)] at h2
      obtain rfl := Option.some.inj h1
      obtain rfl := Option.some.inj h2
      exact hq
    · rw [List.getElem?_set_ne hj] at h1 h2
      have hq1 := h.cr.row j s' xs h1 h2
      have hjl : j < V.cs.length := (List.getElem?_eq_some_iff.1 h1).1
      refine nb hq1 (hq1.ne h.C (by decide)) (fun k hk => hrow (V.gs.length + j) (by rw [List.length_map, List.length_append]; omega) (by omega) k ?_)
      rw [List.getElem_map, List.getElem_append_right (by omega)]
      rw [List.getElem?_eq_getElem hjl] at h1
      have := Option.some.inj h1
      simp only [Nat.add_sub_cancel_left]
      rw [this]
      exact hk
  · have := apart_set (W := W) (l := (V.gs ++ V.cs).map Sl.v) h.a29 (V.gs.length + i) hidx (u := s1.v) (fun x hx k hk => ?_) (by rw [hget]; exact hat)
    · rw [List.map_append, List.set_append_right _ _ (by rw [List.length_map]; omega)] at this
      rw [List.length_map, Nat.add_sub_cancel_left] at this
      show Apart (V.E :: (V.gs ++ V.cs.set i s1).map Sl.v)
      rw [List.map_append, List.map_set]
      exact this
    · rcases List.mem_cons.1 hx with rfl | hx
      · exact h.E.lt k hk
      · exact h.row_lt hx k hk
/-- Global i: its row has been written, in place. -/
theorem Mac.turn_g (h : Mac tm tl p ex W n0 b V M) (i : Nat) {s : Sl} (hi : V.gs[i]? = some s) (ht : Turn W W2 (fun k => s.v.ownBlock = some k)) {zs : List Int}
    (hq : QQ kI 29 W2 n0 s.v zs) (hM : M' = { M with globals := M.globals.set i zs }) : Mac tm tl p ex W2 n0 b V M' := by
  subst hM
  have t := h.tt
  have hlt : i < V.gs.length := (List.getElem?_eq_some_iff.1 hi).1
  obtain ⟨xs0, hx0⟩ : ∃ xs, M.globals[i]? = some xs := ⟨_, List.getElem?_eq_getElem (h.gr.len ▸ hlt)⟩
  have hs := h.gr.row i s xs0 hi hx0
  have nb : ∀ {α : Type} {d : Kd α} {e : Nat} {v : Value} {xs : List α}, QQ d e W n0 v xs → (∀ k, v.ownBlock = some k → s.v.ownBlock ≠ some k) → QQ d e W2 n0 v xs :=
    fun hq h2 => hq.turn ht (fun k hk e => h2 k hk e)
  have hidx : i < ((V.gs ++ V.cs).map Sl.v).length := by rw [List.length_map, List.length_append]; omega
  have hget : ((V.gs ++ V.cs).map Sl.v)[i] = s.v := by
    rw [List.getElem_map]
    congr 1
    rw [List.getElem_append_left (by omega)]
    rw [List.getElem?_eq_getElem hlt] at hi
    simpa using hi
  have hp := List.pairwise_cons.1 h.a29
  have hrow : ∀ j (hj : j < ((V.gs ++ V.cs).map Sl.v).length), j ≠ i → ∀ k, ((V.gs ++ V.cs).map Sl.v)[j].ownBlock = some k → s.v.ownBlock ≠ some k := fun j hj hne k hk hsk => by
    have h2 := List.pairwise_iff_getElem.1 hp.2
    rw [← hget] at hsk
    rcases Nat.lt_or_gt_of_ne hne with hlt | hlt
    · exact h2 _ _ hj hidx hlt k hk hsk
    · exact h2 _ _ hidx hj hlt k hsk hk
  refine ⟨t, ?_, h.base, nb h.G (h.G.ne hs (by decide)), nb h.C (h.C.ne hs (by decide)), ⟨?_, fun j s' xs h1 h2 => ?_⟩, ⟨h.cr.len, fun j s' xs h1 h2 => ?_⟩,
    nb h.E (h.a29.head (List.mem_map_of_mem (List.mem_append_left _ (List.mem_of_getElem? hi)))), nb h.O (h.O.ne hs (by decide)),
    nb h.S (h.S.ne hs (by decide)), nb h.L (h.L.ne hs t.2.2.2.2.2.1), h.a33, h.a29⟩
  · exact (ht b h.lt (fun e => hs.neb h.blk (Ne.symm t.1) e)).trans h.blk
  · rw [List.length_set]; exact h.gr.len
  · by_cases hj : i = j
    · subst hj
      rw [hi] at h1
      rw [List.getElem?_set_self (h.gr.len ▸ hlt)] at h2
      obtain rfl := Option.some.inj h1
      obtain rfl := Option.some.inj h2
      exact hq
    · rw [List.getElem?_set_ne hj] at h2
      have hq1 := h.gr.row j s' xs h1 h2
      have hjl : j < V.gs.length := (List.getElem?_eq_some_iff.1 h1).1
      refine nb hq1 (fun k hk => hrow j (by rw [List.length_map, List.length_append]; omega) (by omega) k ?_)
      rw [List.getElem_map, List.getElem_append_left hjl]
      rw [List.getElem?_eq_getElem hjl] at h1
      rw [Option.some.inj h1]
      exact hk
  · have hq1 := h.cr.row j s' xs h1 h2
    have hj : j < V.cs.length := (List.getElem?_eq_some_iff.1 h1).1
    refine nb hq1 (fun k hk => hrow (V.gs.length + j) (by rw [List.length_map, List.length_append]; omega) (by omega) k ?_)
    rw [List.getElem_map, List.getElem_append_right (by omega)]
    rw [List.getElem?_eq_getElem hj] at h1
    have := Option.some.inj h1
    simp only [Nat.add_sub_cancel_left]
    rw [this]
    exact hk
end
end Go.Proofs.Yteonloecenodbaa.PX
/- slices.Backward over declarations: the iterator, at the yield of a loop. -/
namespace Go.Proofs.Yteonloecenodbaa.PX
open Go.RowKit Go.Shelf Go.Proofs.YteonloecenodbaaW.PrintWords Go.Proofs.YteonloecenodbaaW.PrintMore
attribute [local go_sem] Oper.semAt_some
set_option linter.unusedVariables false
/-- A declaration's value. -/
def v164 (x : S164) : Value := .agg #[.string x.f0, .int .i64 x.f1, .int .i64 x.f2, .int .i64 x.f3]
/-- What comes: from the last to the first, with its place. -/
def bk (ds : List S164) : Nat → List (Nat × S164)
  | 0 => []
  | k + 1 => (k, ds.getD k z164) :: bk ds k
theorem bk_length (ds : List S164) : ∀ k, (bk ds k).length = k
  | 0 => rfl
  | k + 1 => by rw [bk, List.length_cons, bk_length ds k]
end Go.Proofs.Yteonloecenodbaa.PX
/- slices.Backward, as a sequence that stops, over declarations whose names are texts. -/
namespace Go.Proofs.Yteonloecenodbaa.PX
open Go.RowKit Go.Shelf Go.Proofs.YteonloecenodbaaW.PrintWords Go.Proofs.YteonloecenodbaaW.PrintMore
attribute [local go_sem] Oper.semAt_some
set_option linter.unusedVariables false
/-- A place and a declaration whose name is a text, and whose numbers are ints. -/
abbrev D164 := { x : Nat × S164 // x.2.f0.size ≤ maxLen }
set_option maxHeartbeats 1000000 in
theorem back_in (A : Option Addr) (n c : Nat) (w : World) (m : Nat) :
    CallsIn Fence.wide m Try.prog 111 #[.slice A n c] w fun e w' => e = .returned (.func (.func 117) #[] #[.pointer (some ⟨w.heap.size, 0, none⟩)]) ∧ w' = w.alloc (.cells #[.slice A n c] 179) := by
  refine callsIn_of_wp Try.func111 rfl trivial ?_ rfl
  simp only [Try.ntmps111, List.size_toArray, List.length_cons, List.length_nil, Nat.reduceAdd, Nat.reduceSub, Array.replicate_succ, Array.replicate_zero, List.push_toArray, List.append_toArray, List.nil_append, List.cons_append]
  gi_wp2
  go_ret
  exact ⟨rfl, rfl⟩
end Go.Proofs.Yteonloecenodbaa.PX
/- The backward iterator where the loop's body may write one block, the map's. -/
namespace Go.Proofs.Yteonloecenodbaa.PX
open Go.RowKit Go.Shelf Go.Proofs.YteonloecenodbaaW.PrintWords Go.Proofs.YteonloecenodbaaW.PrintMore
attribute [local go_sem] Oper.semAt_some
set_option linter.unusedVariables false
/-- Every block under n stays, but for m. -/
def BB (m n : Nat) (A B : World) : Prop := ∀ i, i < n → i ≠ m → B.heap[i]? = A.heap[i]?
theorem BB.of_below {m n : Nat} {A B : World} (h : Below n A B) : BB m n A B := fun i hi _ => h.block i hi
theorem BB.trans {m n : Nat} {A B C : World} (h : BB m n A B) (k : BB m n B C) : BB m n A C := fun i hi hm => (k i hi hm).trans (h i hi hm)
theorem BB.cell {m : Nat} {A B : World} (h : BB m A.heap.size A B) (hm : ∀ p : Addr, p.block = m → A.cell? p = none) {p : Addr} {v : Value} (hx : A.cell? p = some v) : B.cell? p = some v := by
  have h1 := World.block_lt_of_cell? A _ hx
  have h2 : p.block ≠ m := fun e => by rw [hm p e] at hx; cases hx
  have h3 := h p.block h1 h2
  rw [← hx]
  unfold World.cell?
  rw [h3]
set_option maxRecDepth 100000 in
set_option maxHeartbeats 4000000 in
theorem back_yieldB (m : Nat) (n : Nat) (hn : 1 ≤ n) (l Bs : Nat) (A : Option Addr) (c : Nat) (ds : List S164) (w0 : World) (hm : ∀ p : Addr, p.block = m → w0.cell? p = none) (hC : Kd.C k164 w0 A ds.length ds) (hlen : ds.length ≤ 100000) (J Jx : List (Nat × S164) → World → Prop)
    (hY : ∀ pre (x : Nat × S164) W, J pre W → (pre ++ [x]) <+: bk ds ds.length → YieldAt Fence.wide (n - 1) Try.prog l #[.int .i64 (x.1 : Int), v164 x.2] W fun e W' =>
      (e = .returned (.bool true) ∧ J (pre ++ [x]) W' ∧ BB m w0.heap.size W W') ∨ (e = .returned (.bool false) ∧ Jx (pre ++ [x]) W'))
    (W : World) (hB : BB m w0.heap.size w0 W) (hBs : w0.cell? ⟨Bs, 0, none⟩ = some (.slice A ds.length c)) (h0 : J [] W) :
    CallsIn Fence.wide n Try.prog 117 #[.func (.yield l) #[] #[], .pointer (some ⟨Bs, 0, none⟩)] W fun e W' => (∃ v, e = .returned v) ∧
      ((∃ ys, ys = bk ds ds.length ∧ J ys W') ∨ (∃ pre, pre <+: bk ds ds.length ∧ Jx pre W')) := by
  have hBs2 := hB.cell hm hBs
  refine callsIn_of_wp Try.func117 rfl trivial ?_ rfl
  simp only [Try.ntmps117, List.size_toArray, List.length_cons, List.length_nil, Nat.reduceAdd, Nat.reduceSub, Array.replicate_succ, Array.replicate_zero, List.push_toArray, List.append_toArray, List.nil_append, List.cons_append]
  have HY := Aside0.mk hY
  have HC := Aside0.mk hC
  have HBS := Aside0.mk hBs
  have HM := Aside0.mk hm
  have w1 : wrap64 ((ds.length : Int) - 1) = (ds.length : Int) - 1 := by unfold wrap64; omega
  clear hY hC hm
  gi_wp2
  clear hBs hBs2
  gi_loopw [3] (fun v3 wr => ∃ (k : Nat) (pre : List (Nat × S164)), v3 = .int .i64 ((k : Int) - 1) ∧ Aside0 (k ≤ ds.length) ∧ Aside0 (pre ++ bk ds k = bk ds ds.length) ∧ Aside0 (J pre wr) ∧ Aside0 (BB m w0.heap.size w0 wr)) (fun v3 _ => (intOf v3 + 1).toNat)
  case atStart => exact ⟨ds.length, [], by first | rfl | (rw [w1]), ⟨Nat.le_refl _⟩, ⟨rfl⟩, ⟨h0⟩, ⟨hB⟩⟩
  case round =>
    obtain ⟨k, pre, rfl, HK, HE, HJ, HB⟩ := hrel
    have hbs := HB.out.cell HM.out HBS.out
    cases k with
    | zero =>
      have he := HE.out
      rw [bk, List.append_nil] at he
      have HE2 := Aside0.mk he
      clear he
      rw [show (((0 : Nat) : Int) - 1) = -1 by omega]
      gi_wp2
      go_end0
      exact ⟨⟨_, rfl⟩, .inl ⟨pre, HE2.out, HJ.out⟩⟩
    | succ j =>
      rw [show (((j + 1 : Nat) : Int) - 1) = (j : Int) by omega]
      have hlt : j < ds.length := HK.out
      obtain ⟨ad, e0, hx0, hx1, hx2, hx3⟩ := at_T164 HC.out (j : Int) (by omega) (by omega)
      cases e0
      have hrd : rd_T164 ds (j : Int) = ds.getD j z164 := by unfold rd_T164; rw [Int.toNat_natCast]
      rw [hrd] at hx0 hx1 hx2 hx3
      simp only [Int.toNat_natCast] at hx0 hx1 hx2 hx3
      replace hx0 := HB.out.cell HM.out hx0
      replace hx1 := HB.out.cell HM.out hx1
      replace hx2 := HB.out.cell HM.out hx2
      replace hx3 := HB.out.cell HM.out hx3
      have he := HE.out
      rw [bk] at he
      obtain ⟨x, hx⟩ : ∃ x, x = ds.getD j z164 := ⟨_, rfl⟩
      rw [← hx] at hx0 hx1 hx2 hx3 he
      have hp : (pre ++ [(j, x)]) <+: bk ds ds.length := ⟨_, by rw [← he, List.append_assoc]; rfl⟩
      obtain ⟨fn, tmps, assign, body, hy, hR⟩ := HY.out pre (j, x) wr HJ.out hp
      try unfold v164 at hy
      try unfold v164 at hR
      have HR := Aside0.mk hR
      have HE2 : Aside0 (pre ++ [(j, x)] ++ bk ds j = bk ds ds.length) := ⟨by rw [List.append_assoc]; exact he⟩
      have HP := Aside0.mk hp
      have hlt2 : (j : Int) < (ds.length : Int) := by omega
      have hge : (0 : Int) ≤ (j : Int) := by omega
      have w2 : wrap64 ((j : Int) - 1) = (j : Int) - 1 := by unfold wrap64; omega
      have HLE : Aside0 (j ≤ ds.length) := ⟨by omega⟩
      clear hrd hx hR he hp
      gi_wp2
      refine HR.out.mono ?_
      rintro e W3 (⟨rfl, hJ3, hk3⟩ | ⟨rfl, hJx3⟩)
      · have HJ3 := Aside0.mk hJ3
        have HB3 := Aside0.mk (HB.out.trans hk3)
        clear hJ3 hk3 hx0 hx1 hx2 hx3 hy hbs
        gi_wp2
        go_roundw
        case rel => exact ⟨j, pre ++ [(j, x)], by first | rfl | (rw [w2]), HLE, HE2, HJ3, HB3⟩
        case measure => simp [intOf]
      · gi_wp2
        refine bodyPost_ret (results_none rfl _ _ _) rfl ?_
        exact ⟨⟨_, rfl⟩, .inr ⟨pre ++ [(j, x)], HP.out, hJx3⟩⟩
theorem back_stopsB (m : Nat) (n : Nat) (hn : 1 ≤ n) (Bs : Nat) (A : Option Addr) (c : Nat) (ds : List S164) (w0 : World) (hm : ∀ p : Addr, p.block = m → w0.cell? p = none) (hC : Kd.C k164 w0 A ds.length ds) (hlen : ds.length ≤ 100000) (hsz : ∀ x ∈ bk ds ds.length, x.2.f0.size ≤ maxLen) (hBs : w0.cell? ⟨Bs, 0, none⟩ = some (.slice A ds.length c)) :
    SeqStopsK Fence.wide n Try.prog 117 #[.pointer (some ⟨Bs, 0, none⟩)] (fun x : D164 => #[Value.int .i64 (x.1.1 : Int), v164 x.1.2]) (BB m w0.heap.size) (fun ys => ys.map (·.1) = bk ds ds.length) (fun pre => pre.map (·.1) <+: bk ds ds.length) ds.length w0 := fun l J Jx W hW _ _ hY h0 => by
  refine (back_yieldB m n hn l Bs A c ds w0 hm hC hlen (fun ps W => ∃ ls : List D164, ls.map (·.1) = ps ∧ J ls W) (fun ps W => ∃ ls : List D164, ls.map (·.1) = ps ∧ Jx ls W) ?_ W (BB.of_below hW) hBs ⟨[], rfl, h0⟩).mono ?_
  · rintro pre x W1 ⟨ls, hls, hJ⟩ hpre
    have hx := hsz x (hpre.subset (by simp))
    have hlt : ls.length < ds.length := by
      have h1 := hpre.length_le
      rw [bk_length, List.length_append, List.length_singleton, ← hls, List.length_map] at h1
      omega
    refine (hY ls ⟨x, hx⟩ W1 hJ hlt).mono ?_
    rintro e W2 (⟨rfl, h1, h2⟩ | ⟨rfl, h1⟩)
    · exact .inl ⟨rfl, ⟨_, by rw [List.map_append, hls]; rfl, h1⟩, h2⟩
    · exact .inr ⟨rfl, ⟨_, by rw [List.map_append, hls]; rfl, h1⟩⟩
  · rintro e W2 ⟨he, ⟨ys, rfl, ls, hls, hJ⟩ | ⟨pre, hp, ls, hls, hJ⟩⟩
    · exact ⟨he, .inl ⟨ls, hls, hJ⟩⟩
    · exact ⟨he, .inr ⟨ls, (by show ls.map (·.1) <+: bk ds ds.length; rw [hls]; exact hp), hJ⟩⟩
end Go.Proofs.Yteonloecenodbaa.PX
/- check.table: the map of the declarations; where a name is declared twice, the first stands. -/
namespace Go.Proofs.Yteonloecenodbaa.PX
open Go.RowKit Go.Shelf Go.Proofs.YteonloecenodbaaW.PrintWords Go.Proofs.YteonloecenodbaaW.PrintMore
attribute [local go_sem] Oper.semAt_some
set_option linter.unusedVariables false
abbrev Dw := DataW Unit
/-- A declaration as a datum. -/
def d164 (x : S164) : Dw := .agg [.lit (.string x.f0.data.toList), .lit (.int .i64 x.f1), .lit (.int .i64 x.f2), .lit (.int .i64 x.f3)]
/-- How an element reads. -/
def R164 : Value → Option (Dw × List MemPlace)
  | .agg cs => match cs.toList with
    | [.string s, .int .i64 a, .int .i64 b, .int .i64 c] => some (d164 ⟨s, a, b, c⟩, [])
    | _ => none
  | _ => none
theorem R164_v (x : S164) : R164 (v164 x) = some (d164 x, []) := rfl
def tblD (xs : List D164) : Dw := xs.foldl (fun D x => D.put (.string x.1.2.f0.data.toList) (d164 x.1.2)) (.map [])
theorem tblD_snoc (pre : List D164) (x : D164) : tblD (pre ++ [x]) = (tblD pre).put (.string x.1.2.f0.data.toList) (d164 x.1.2) := by simp [tblD]

set_option maxRecDepth 100000 in
set_option maxHeartbeats 4000000 in
theorem table_in (v0 v1 v2 v3 v4 v5 : Value) (ds : List S164) (hlen : ds.length ≤ 100000) (hsz : ∀ x ∈ bk ds ds.length, x.2.f0.size ≤ maxLen) (w : World)
    (hdec : ∀ W, Below w.heap.size w W → Calls Try.prog 112 #[.agg #[v0, v1, v2, v3, v4, v5]] W fun e w' => ∃ v0_ : Value, e = .returned v0_ ∧ Kd.R k164 164 w' W.heap.size (fun _ => True) v0_ ds ∧ Below W.heap.size W w') :
    Calls Try.prog 99 #[.agg #[v0, v1, v2, v3, v4, v5]] w fun e W' => ∃ (m : Nat) (ys : List D164), e = .returned (.map (some m)) ∧ ys.map (·.1) = bk ds ds.length ∧ W'.ownsMap Try.prog 9 R164 m ds.length (tblD ys) ∧ Below w.heap.size w W' := by
  refine (callsIn_wide (n := 6)).1 ?_
  refine callsIn_of_wp_marks Try.func99 rfl trivial ?_ rfl
  have hmm := @run_makeMap Try.prog
  have HD := Aside0.mk hdec
  clear hdec
  simp only [Try.ntmps99, List.size_toArray, List.length_cons, List.length_nil, Nat.reduceAdd, Nat.reduceSub, Array.replicate_succ, Array.replicate_zero, List.push_toArray, List.append_toArray, List.nil_append, List.cons_append]
  gi_wp2_with (first
    | (refine ⟨trivial, ?_⟩; gi_at_call 112; refine (callsIn_wide.2 (HD.out _ (below_alloc (below_alloc (below_alloc (Below.refl _ _) _) _) _))).mono ?_; rintro e w3 ⟨v0_, rfl, hR, hB3⟩; obtain ⟨A3, c3, rfl, hcap3, hC3⟩ := Kd.R_reads hR; refine ⟨_, rfl, ?_⟩)
    | (refine ⟨trivial, ?_⟩; gi_at_call 112; refine (callsIn_wide.2 (HD.out _ (below_alloc (below_alloc (below_alloc (Below.refl _ _) _) _) _))).mono ?_; rintro e w3 ⟨v0_, rfl, hR, hB3⟩; obtain ⟨A3, c3, rfl, hcap3, hC3⟩ := Kd.R_reads hR)
    | (refine ⟨trivial, ?_⟩; gi_at_call 111; refine (back_in _ _ _ _ _).mono ?_; rintro e w' ⟨rfl, rfl⟩))
  clear hmm
  obtain ⟨W0, hW0⟩ : ∃ W0, W0 = ((w.alloc (.cells #[v0, v1, v2, v3, v4, v5] 28)).alloc (.map #[] 0)).alloc (.cells #[.map (some (w.heap.size + 1))] 166) := ⟨_, rfl⟩
  have hown0 : W0.ownsMap Try.prog 9 R164 (w.heap.size + 1) 0 (.map []) := by
    rw [hW0]; have := (World.ownsMap_made (w.alloc (.cells #[v0, v1, v2, v3, v4, v5] 28)) Try.prog 9 R164).alloc (.cells #[.map (some (w.heap.size + 1))] 166)
    simpa only [World.size_alloc] using this
  have hbox0 : Boxed W0 (w.heap.size + 2) 166 (.map (some (w.heap.size + 1))) := by
    rw [hW0]; have := Boxed.new ((w.alloc (.cells #[v0, v1, v2, v3, v4, v5] 28)).alloc (.map #[] 0)) 166 (.map (some (w.heap.size + 1)))
    simpa only [World.size_alloc] using this
  have hb0 : Below w.heap.size w W0 := by rw [hW0]; exact below_alloc (below_alloc (below_alloc (Below.refl _ _) _) _) _
  have hs0 : W0.heap.size = w.heap.size + 3 := by rw [hW0]; simp
  rw [← hW0] at hB3
  obtain ⟨W1, hW1⟩ : ∃ W1, W1 = w3.alloc (.cells #[.slice A3 ds.length c3] 179) := ⟨_, rfl⟩
  have hB1 : Below W0.heap.size W0 W1 := by rw [hW1]; exact below_alloc hB3 _
  have hown1 := hown0.kept (grown_of_below hB1 none) (by simp)
  have hbox1 := hbox0.kept (grown_of_below hB1 none) (by simp)
  have hb1 : Below w.heap.size w W1 := hb0.trans (hB1.mono (by omega))
  have hC1 : Kd.C k164 W1 A3 ds.length ds := by rw [hW1]; exact Kd.C_below hC3 (below_alloc (Below.refl _ _) _)
  have hcell1 : W1.cell? ⟨w3.heap.size, 0, none⟩ = some (.slice A3 ds.length c3) := by rw [hW1]; exact (Boxed.new _ _ _).cell
  have hs3 : w.heap.size + 3 ≤ w3.heap.size := by have := hB3.size; omega
  have hs1 : w.heap.size + 3 < W1.heap.size := by rw [hW1]; simp; omega
  have hm1 : ∀ p : Addr, p.block = w.heap.size + 1 → W1.cell? p = none := by
    obtain ⟨es, ck, hh, _⟩ := hown1
    rintro ⟨b, o, r⟩ rfl
    simp only [World.cell?, hh]
  rw [← hW1]
  clear hW1 hW0 hown0 hbox0 hb0 hB3 hR hC3 hB1
  have HSZ := Aside0.mk hsz
  have HLEN := Aside0.mk hlen
  refine wpIn_rangeFunc_ownH rfl (by omega) (gf := 117) (lb := #[.pointer (some ⟨w3.heap.size, 0, none⟩)]) rfl trivial (enters_of Try.func117 (by kernel_rfl) rfl)
    (back_stopsB (w.heap.size + 1) 5 (by omega) w3.heap.size A3 c3 ds W1 hm1 hC1 hlen hsz hcell1) (fun h k => h.trans k)
    (fun W l o o' hl h hc hw => BB.of_below (belowK_b (w := W1) (Nat.le_refl _) W l o o' hl h hc hw)) (Below.refl _ _) (fun _ => rfl)
    (fun pre W => (Boxed W (w.heap.size + 2) 166 (.map (some (w.heap.size + 1))) ∧ W.ownsMap Try.prog 9 R164 (w.heap.size + 1) pre.length (tblD pre)) ∧ Below w.heap.size w W ∧ Below 0 W1 W)
    (fun _ _ _ => False)
    (OwnFrom.and (fun s A B row hs hg hr => ⟨hs.1.kept hg (fun e => by have := (hr _ e.symm).1; omega), hs.2.kept hg (fun e => by have := (hr _ e.symm).1; omega)⟩) ((ownFrom_below (Nat.le_refl _) (by omega)).and (ownFrom_below (Nat.zero_le _) (Nat.zero_le _))))
    (fun _ _ _ _ _ hs _ _ => hs)
    ⟨⟨hbox1, hown1⟩, hb1, Below.refl _ _⟩
    (fun x a' W => ∃ g, W1.heap.size ≤ g ∧ W.heap[g]? = some (.cells #[.string x.1.2.f0, .int .i64 x.1.2.f1, .int .i64 x.1.2.f2, .int .i64 x.1.2.f3] 164 (0, 0)) ∧ a' = { tmps := #[.agg #[v0, v1, v2, v3, v4, v5], .pointer (some ⟨w.heap.size, 0, none⟩), .map none, .pointer (some ⟨w.heap.size + 1 + 1, 0, none⟩), undef, .pointer (some ⟨g, 0, none⟩), .map (some (w.heap.size + 1)), .agg #[v0, v1, v2, v3, v4, v5], .slice A3 ds.length c3, .func (.func 117) #[] #[.pointer (some ⟨w3.heap.size, 0, none⟩)], .int .i64 (x.1.1 : Int), v164 x.1.2, undef, undef, undef, undef, undef], defers := [] })
    (fun x a' => fun s A B row hs hg hr => by
      obtain ⟨g, hg1, hg2, rfl⟩ := hs
      exact ⟨g, hg1, (grownBy_keeps_cells hg (fun r e => (hr r e).2) hg2 rfl).trans hg2, rfl⟩) ?assign ?body ?done ?stop
  case assign =>
    rintro l pre x W K ⟨⟨hbox, hown⟩, hB, hB0⟩ hK
    have HK := Aside0.mk hK
    clear hK
    obtain ⟨⟨j, x⟩, hxs⟩ := x
    try unfold v164
    gi_wp2
    have hbA := (Below.refl W.heap.size W).alloc (Nat.le_refl _) (.cells #[.string x.f0, .int .i64 x.f1, .int .i64 x.f2, .int .i64 x.f3] 164)
    have hgA := grown_of_below hbA none
    have hsz1 : W1.heap.size ≤ W.heap.size := hB0.size
    exact HK.out _ _ (KeepsFrom.of_grownBy hgA (fun j e => by cases e)) (BB.of_below (hbA.mono hsz1))
      ⟨⟨hbox.kept hgA (by simp), hown.kept hgA (by simp)⟩, hB.trans (hbA.mono hB.size), hB0.trans (hbA.mono (Nat.zero_le _))⟩
      ⟨_, hsz1, World.alloc_heap_new _ _, rfl⟩
  case body =>
    rintro l pre x a' W hl hr ⟨⟨hbox, hown⟩, hB, hB0⟩ ⟨g, hg1, hg2, rfl⟩ hlt
    obtain ⟨⟨j, x⟩, hxs⟩ := x
    try unfold v164
    have hcb := hbox.cell
    have c0 : W.cell? ⟨g, 0, none⟩ = some (.string x.f0) := by simp [World.cell?, hg2]
    have c1 : W.cell? ⟨g, 1, none⟩ = some (.int .i64 x.f1) := by simp [World.cell?, hg2]
    have c2 : W.cell? ⟨g, 2, none⟩ = some (.int .i64 x.f2) := by simp [World.cell?, hg2]
    have c3' : W.cell? ⟨g, 3, none⟩ = some (.int .i64 x.f3) := by simp [World.cell?, hg2]
    have hle := HLEN.out
    gi_wp2_with (gi_at_mapUpdate; refine wpListIn_mapUpdate_own _ rfl _ _ _ 166 rfl 9 164 (Maps.string_keyed Try.underlying9) Try.underlying166 R164 (w.heap.size + 1) pre.length _ rfl hown (by unfold maxLen; omega) _ _ _ rfl rfl (Go.WideMaps.keyOf_string_mk Try.underlying9 hxs) (d164 x) [] (R164_v x) ?_; intro w1 hown1 hgrow1)
    obtain ⟨es, ck, hh, _⟩ := hown
    have hbB := (Below.refl w.heap.size W).grown hgrow1 hB.size (fun k e => by cases e; omega)
    exact ⟨KeepsFrom.of_grownBy hgrow1 (fun j e => by cases e; omega), fun i hi hm => hgrow1.block i (by have := hB0.size; omega) (fun e => by cases e; exact hm rfl),
      ⟨hbox.kept hgrow1 (fun e => by injection e with e; omega), by rw [tblD_snoc, List.length_append]; exact hown1⟩, hB.trans hbB, hB0.trans (hbB.mono (Nat.zero_le _))⟩
  case done =>
    rintro D ys W hD hS ⟨⟨hbox, hown⟩, hB, hB0⟩ hK
    have hcb := hbox.cell
    have hlen2 : ys.length = ds.length := by
      have := congrArg List.length hS
      rwa [List.length_map, bk_length] at this
    gi_wp2
    refine ⟨by simp, .inl ⟨_, _, rfl, run_takeDeferred hK, ?_⟩⟩
    exact ⟨_, results_tmp rfl _ _ _, _, ys, rfl, hS, hlen2 ▸ hown.kept (grownBy_putObj' _ D _) (fun e => by cases e; omega), hB.trans (belowK_b (w := w) (Nat.le_refl _) W D _ _ (by omega) hK rfl rfl)⟩
  case stop =>
    rintro D c pre W _ _ h _
    exact h.elim
end Go.Proofs.Yteonloecenodbaa.PX
