/- Rows of words that are written in place; what may turn; mach.get, interp.Load, interp.Store, and the closure that sets a register. -/
import Derived.Test.YtkpbmbhejpmboaaPhysIns
namespace Go.Proofs.Ytkpbmbhejpmboaa
open Go.RowKit
set_option linter.unusedVariables false

/-- Only blocks of S may have turned, of those that were there. -/
structure Turn (S : Nat → Prop) (w w' : World) : Prop where
  os : w'.os = w.os
  tape : w'.tape = w.tape
  output : w'.output = w.output
  size : w.heap.size ≤ w'.heap.size
  block : ∀ k, k < w.heap.size → ¬ S k → w'.heap[k]? = w.heap[k]?
theorem Turn.refl (S : Nat → Prop) (w : World) : Turn S w w := ⟨rfl, rfl, rfl, Nat.le_refl _, fun _ _ _ => rfl⟩
theorem Turn.trans {S : Nat → Prop} {a b c : World} (h : Turn S a b) (k : Turn S b c) : Turn S a c :=
  ⟨k.os.trans h.os, k.tape.trans h.tape, k.output.trans h.output, Nat.le_trans h.size k.size, fun i hi hn => (k.block i (Nat.lt_of_lt_of_le hi h.size) hn).trans (h.block i hi hn)⟩
theorem Turn.mono {S S' : Nat → Prop} {a b : World} (h : Turn S a b) (hs : ∀ k, k < a.heap.size → S k → S' k) : Turn S' a b :=
  ⟨h.os, h.tape, h.output, h.size, fun i hi hn => h.block i hi fun hs' => hn (hs i hi hs')⟩
theorem Turn.since {S : Nat → Prop} {a b : World} (h : Since a b) : Turn S a b := ⟨h.os, h.tape, h.output, h.size, fun i hi _ => Below.block h i hi⟩
theorem Turn.setCell {S : Nat → Prop} {a b : World} (h : Turn S a b) {p : Addr} (hp : S p.block) (v : Value) : Turn S a (b.setCell p v) :=
  ⟨h.os, h.tape, h.output, by simpa [World.setCell] using h.size, fun i hi hn => by
    rw [Below.heap_setCell _ _ _ _ (fun e => hn (by rw [e]; exact hp))]; exact h.block i hi hn⟩
theorem Turn.alloc {S : Nat → Prop} {a b : World} (h : Turn S a b) (o : Obj) : Turn S a (b.alloc o) := h.trans (Turn.since ((Since.refl b).alloc o))
theorem Turn.toSince {S : Nat → Prop} {w0 a b : World} (h : Turn S a b) (h0 : Since w0 a) (hs : ∀ k, k < w0.heap.size → ¬ S k) : Since w0 b :=
  ⟨h.os.trans h0.os, h.tape.trans h0.tape, h.output.trans h0.output, Nat.le_trans h0.size h.size, fun i hi => (h.block i (Nat.lt_of_lt_of_le hi h0.size) (hs i hi)).trans (h0.block i hi)⟩
theorem Turn.cell {S : Nat → Prop} {a b : World} (h : Turn S a b) {p : Addr} (hp : p.block < a.heap.size) (hn : ¬ S p.block) : b.cell? p = a.cell? p := World.cell?_of_block (h.block p.block hp hn)

/-- Block b begins with the words R. -/
def WAt (w : World) (b : Nat) (R : List Int) (rest : List Value) (T : TypeId) : Prop := w.heap[b]? = some (.cells (R.map (Value.int .i32) ++ rest).toArray T (0, 0))
theorem WAt.lt {w : World} {b : Nat} {R : List Int} {rest : List Value} {T : TypeId} (h : WAt w b R rest T) : b < w.heap.size := (Array.getElem?_eq_some_iff.1 h).1
theorem WAt.cell {w : World} {b : Nat} {R : List Int} {rest : List Value} {T : TypeId} (h : WAt w b R rest T) {i : Nat} (hi : i < R.length) : w.cell? ⟨b, i, none⟩ = some (.int .i32 (R.getD i 0)) := by
  have e : (R.map (Value.int .i32) ++ rest)[i]? = some (.int .i32 (R.getD i 0)) := by
    rw [List.getElem?_append_left (by simpa using hi), List.getElem?_map, List.getD_eq_getElem?_getD, List.getElem?_eq_getElem hi]; rfl
  simp only [World.cell?, show w.heap[b]? = _ from h]
  simpa using e
theorem WAt.frozen {w : World} {b : Nat} {R : List Int} {rest : List Value} {T : TypeId} (h : WAt w b R rest T) (i : Nat) : w.frozen? ⟨b, i, none⟩ = false := by
  simp [World.frozen?, show w.heap[b]? = _ from h]
theorem WAt.set {w : World} {b : Nat} {R : List Int} {rest : List Value} {T : TypeId} (h : WAt w b R rest T) {i : Nat} (hi : i < R.length) (v : Int) : WAt (w.setCell ⟨b, i, none⟩ (.int .i32 v)) b (R.set i v) rest T := by
  unfold WAt at h ⊢
  have e : (R.set i v).map (Value.int .i32) ++ rest = (R.map (Value.int .i32) ++ rest).set i (.int .i32 v) := by
    rw [List.set_append_left _ _ (by simpa using hi), List.map_set]
  rw [e]
  simp [World.setCell, Array.getElem?_modify, h]
theorem WAt.turn {S : Nat → Prop} {w w' : World} {b : Nat} {R : List Int} {rest : List Value} {T : TypeId} (h : WAt w b R rest T) (t : Turn S w w') (hn : ¬ S b) : WAt w' b R rest T := (t.block b h.lt hn).trans h
theorem WAt.keep {w w' : World} {b : Nat} {R : List Int} {rest : List Value} {T : TypeId} (h : WAt w b R rest T) (s : Since w w') : WAt w' b R rest T := (Below.block s b h.lt).trans h

/-- A slice value that reads as the words M, writable. -/
def MemIs (w : World) (v : Value) (M : List Int) : Prop :=
  (v = .slice none 0 0 ∧ M = []) ∨ ∃ b cap rest T, v = .slice (some ⟨b, 0, none⟩) M.length cap ∧ WAt w b M rest T ∧ M.length ≤ 1000000
theorem MemIs.shape {w : World} {v : Value} {M : List Int} (h : MemIs w v M) : ∃ a cap, v = .slice a M.length cap ∧ M.length ≤ 1000000 := by
  rcases h with ⟨h1, h2⟩ | ⟨b, cap, rest, T, h1, _, h3⟩
  · subst h2; exact ⟨none, 0, h1, by simp⟩
  · exact ⟨_, cap, h1, h3⟩
theorem MemIs.turn {S : Nat → Prop} {w w' : World} {v : Value} {M : List Int} (h : MemIs w v M) (t : Turn S w w') (hn : ∀ q, v.ownBlock = some q → ¬ S q) : MemIs w' v M := by
  rcases h with h | ⟨b, cap, rest, T, h1, h2, h3⟩
  · exact .inl h
  · exact .inr ⟨b, cap, rest, T, h1, h2.turn t (hn b (by rw [h1]; rfl)), h3⟩
theorem MemIs.keep {w w' : World} {v : Value} {M : List Int} (h : MemIs w v M) (s : Since w w') : MemIs w' v M := h.turn (S := fun _ => False) (Turn.since s) fun _ _ => id
theorem MemIs.lt {w : World} {v : Value} {M : List Int} (h : MemIs w v M) {q : Nat} (hq : v.ownBlock = some q) : q < w.heap.size := by
  rcases h with ⟨h1, _⟩ | ⟨b, cap, rest, T, h1, h2, _⟩
  · rw [h1] at hq; cases hq
  · rw [h1] at hq; cases hq; exact h2.lt
theorem Nums.turn {S : Nat → Prop} {k : IntKind} {w w' : World} {v : Value} {l : List Int} (h : Nums k w v l) (t : Turn S w w') (hn : ∀ q, v.ownBlock = some q → ¬ S q) : Nums k w' v l := by
  rcases h with h | ⟨b, off, cap, h1, h2, h3, h4, h5⟩
  · exact .inl h
  · exact .inr ⟨b, off, cap, h1, h2, h3, Nat.lt_of_lt_of_le h4 t.size, fun j n hj => by rw [t.cell (p := ⟨b, off + j, none⟩) h4 (hn b (by rw [h1]; rfl))]; exact h5 j n hj⟩
theorem MemIs.at {w : World} {a : Option Addr} {n cap : Nat} {M : List Int} (h : MemIs w (.slice a n cap) M) {i : Nat} (hi : i < M.length) : ∃ b rest T, a = some ⟨b, 0, none⟩ ∧ WAt w b M rest T := by
  rcases h with ⟨_, h2⟩ | ⟨b, cap', rest, T, h1, h2, _⟩
  · subst h2; simp at hi
  · cases h1; exact ⟨b, rest, T, rfl, h2⟩
theorem MemIs.set {w : World} {b cap : Nat} {M : List Int} {rest : List Value} {T : TypeId} (h : WAt w b M rest T) (hm : M.length ≤ 1000000) {i : Nat} (hi : i < M.length) (v : Int) : MemIs (w.setCell ⟨b, i, none⟩ (.int .i32 v)) (.slice (some ⟨b, 0, none⟩) M.length cap) (M.set i v) :=
  .inr ⟨b, cap, rest, T, by simp, h.set hi v, by simpa using hm⟩

def W32Q (x : Int) (w : World) (e : Ending) (w' : World) : Prop := e = .returned (.int .i32 x) ∧ w = w'
theorem getR_in {R : List Int} {i : Nat} (h : i < R.length) : getR R (i : Int) = R.getD i 0 := by unfold getR; rw [if_pos (by omega)]; simp
theorem getR_out {R : List Int} {r : Int} (h : r < 0 ∨ (R.length : Int) ≤ r) : getR R r = 0 := by unfold getR; rw [if_neg (by omega)]

set_option maxHeartbeats 1000000 in
set_option maxRecDepth 100000 in
theorem get_any (R : List Int) (b cap : Nat) (rest : List Value) (T : TypeId) (r : Int) (w : World) (h : WAt w b R rest T) (hl : R.length ≤ 1000000) :
    Calls Try.prog 100 #[.slice (some ⟨b, 0, none⟩) R.length cap, .int .i64 r] w (W32Q (getR R r) w) := by
  by_cases h0 : r < 0
  · rw [getR_out (.inl h0)]
    go_enter Try.func100, Try.ntmps100
    go_wp2
    go_ret
    exact ⟨rfl, rfl⟩
  · by_cases h1 : (R.length : Int) ≤ r
    · rw [getR_out (.inr h1)]
      have hd : decide (r < 0) = false := decide_eq_false h0
      go_enter Try.func100, Try.ntmps100
      go_wp2
      go_ret
      exact ⟨rfl, rfl⟩
    · obtain ⟨i, rfl⟩ := Int.eq_ofNat_of_zero_le (Int.not_lt.1 h0)
      have hi : i < R.length := by omega
      have hc := h.cell hi
      rw [getR_in hi]
      have hd : decide ((i : Int) < 0) = false := decide_eq_false h0
      have hd1 : decide ((R.length : Int) ≤ (i : Int)) = false := decide_eq_false h1
      clear h0 h1 h
      generalize R.getD i 0 = x at *
      go_enter Try.func100, Try.ntmps100
      go_wp2
      go_ret
      exact ⟨rfl, rfl⟩

/-- A register set, if there is one. -/
def setW (w : World) (b : Nat) (R : List Int) (r v : Int) : World := if 0 ≤ r ∧ r < (R.length : Int) then w.setCell ⟨b, r.toNat, none⟩ (.int .i32 v) else w
theorem setW_at {w : World} {b : Nat} {R : List Int} {rest : List Value} {T : TypeId} (h : WAt w b R rest T) (r v : Int) : WAt (setW w b R r v) b (setR R r v) rest T := by
  unfold setW setR
  split
  · exact h.set (by omega) v
  · exact h
theorem setW_turn {S : Nat → Prop} {w : World} {b : Nat} (hb : S b) (R : List Int) (r v : Int) : Turn S w (setW w b R r v) := by
  unfold setW
  split
  · exact (Turn.refl S w).setCell (p := ⟨b, r.toNat, none⟩) hb _
  · exact Turn.refl S w
def EndW (W : World) (e : Ending) (w' : World) : Prop := e = .returned (.tuple #[]) ∧ w' = W

set_option maxHeartbeats 1000000 in
set_option maxRecDepth 100000 in
theorem set_any (R : List Int) (b cap bx : Nat) (rest : List Value) (T : TypeId) (r v : Int) (w : World) (h : WAt w b R rest T) (hl : R.length ≤ 1000000) (hx : w.cell? ⟨bx, 0, none⟩ = some (.slice (some ⟨b, 0, none⟩) R.length cap)) :
    Calls Try.prog 169 #[.int .i64 r, .int .i32 v, .pointer (some ⟨bx, 0, none⟩)] w (EndW (setW w b R r v)) := by
  by_cases h0 : 0 ≤ r
  · by_cases h1 : r < (R.length : Int)
    · obtain ⟨i, rfl⟩ := Int.eq_ofNat_of_zero_le h0
      have hi : i < R.length := by omega
      have hc := h.cell hi
      have hfz := h.frozen i
      have hW : setW w b R i v = w.setCell ⟨b, i, none⟩ (.int .i32 v) := by unfold setW; rw [if_pos ⟨h0, h1⟩]; simp
      have HW := Lib.hid hW
      clear h0 hW h
      generalize R.getD i 0 = x at *
      go_enter Try.func169, Try.ntmps169
      go_wp2
      go_end0
      exact ⟨rfl, by rw [HW.out]⟩
    · have hW : setW w b R r v = w := by unfold setW; rw [if_neg (by omega)]
      have HW := Lib.hid hW
      have hd : decide (r < (R.length : Int)) = false := decide_eq_false h1
      clear hW h
      go_enter Try.func169, Try.ntmps169
      go_wp2
      go_end0
      exact ⟨rfl, by rw [HW.out]⟩
  · have hW : setW w b R r v = w := by unfold setW; rw [if_neg (by omega)]
    have HW := Lib.hid hW
    have hd : decide (0 ≤ r) = false := decide_eq_false h0
    clear hW h
    go_enter Try.func169, Try.ntmps169
    go_wp2
    go_end0
    exact ⟨rfl, by rw [HW.out]⟩

def LoadQ (M : List Int) (at' : Int) (w : World) (e : Ending) (w' : World) : Prop :=
  e = .returned (.tuple #[.int .i32 (if 0 ≤ at' ∧ at' < (M.length : Int) then M.getD at'.toNat 0 else 0), .bool (decide (0 ≤ at') && decide (at' < (M.length : Int)))]) ∧ w = w'
set_option maxHeartbeats 1000000 in
set_option maxRecDepth 100000 in
theorem load_any (M : List Int) (mv : Value) (at' : Int) (w : World) (h : MemIs w mv M) (h1 : -2147483648 ≤ at') (h2 : at' ≤ 2147483647) :
    Calls Try.prog 171 #[mv, .int .i32 at'] w (LoadQ M at' w) := by
  obtain ⟨a, cap, rfl, hl⟩ := h.shape
  unfold LoadQ
  by_cases h0 : at' < 0
  · rw [if_neg (by omega), decide_eq_false (by omega : ¬ 0 ≤ at'), Bool.false_and]
    go_enter Try.func171, Try.ntmps171
    go_wp2
    go_ret2
    exact ⟨rfl, rfl⟩
  · have hd : decide (at' < 0) = false := decide_eq_false h0
    by_cases h3 : (M.length : Int) ≤ at'
    · rw [if_neg (by omega), decide_eq_false (by omega : ¬ at' < (M.length : Int)), Bool.and_false]
      go_enter Try.func171, Try.ntmps171
      go_wp2
      go_ret2
      exact ⟨rfl, rfl⟩
    · rw [if_pos (by omega), decide_eq_true (by omega : 0 ≤ at'), decide_eq_true (by omega : at' < (M.length : Int))]
      have hd1 : decide ((M.length : Int) ≤ at') = false := decide_eq_false h3
      obtain ⟨i, rfl⟩ := Int.eq_ofNat_of_zero_le (Int.not_lt.1 h0)
      have hi : i < M.length := by omega
      obtain ⟨b, rest, T, rfl, hw⟩ := h.at hi
      have hc := hw.cell hi
      clear h0 h3 h hw
      rw [Int.toNat_natCast]
      generalize M.getD i 0 = x at *
      go_enter Try.func171, Try.ntmps171
      go_wp2
      go_ret2
      exact ⟨rfl, rfl⟩
end Go.Proofs.Ytkpbmbhejpmboaa
