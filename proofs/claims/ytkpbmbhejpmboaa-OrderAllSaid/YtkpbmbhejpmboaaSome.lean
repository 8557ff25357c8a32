/- jacquardlaw17.rest, jacquardlaw17.some. -/
import Derived.Test.YtkpbmbhejpmboaaGone
import Derived.Test.YtkpbmbhejpmboaaRegion2
import Derived.Test.YtkpbmbhejpmboaaRegion4
import Derived.Test.YtkpbmbhejpmboaaAwake
namespace Go.Proofs.Ytkpbmbhejpmboaa
open Go.RowKit
set_option linter.unusedVariables false

def restI (x n : Int) : Int := (x.tmod n + n) % n
theorem tmod_bd (x n : Int) (hn : 0 < n) : -n < x.tmod n ∧ x.tmod n < n := by
  have h1 := Int.tmod_lt_of_pos x hn
  have h2 := Int.tmod_lt_of_pos (-x) hn
  rw [Int.neg_tmod] at h2
  omega
theorem restI_bd (x n : Int) (hn : 0 < n) : 0 ≤ restI x n ∧ restI x n < n := by
  have h := tmod_bd x n hn
  exact ⟨Int.emod_nonneg _ (by omega), Int.emod_lt_of_pos _ hn⟩
def NumQ (x : Int) (w : World) (e : Ending) (w' : World) : Prop := e = .returned (.int .i64 x) ∧ w = w'

set_option maxHeartbeats 400000 in
set_option maxRecDepth 100000 in
theorem rest_any (x n : Int) (w : World) (hn : 0 < n) (hn2 : n ≤ 1000) : Calls Try.prog 38 #[.int .i64 x, .int .i64 n] w (NumQ (restI x n) w) := by
  have hb := tmod_bd x n hn
  obtain ⟨h1, h2⟩ := hb
  have h0 : (n == 0) = false := by simpa using (by omega : n ≠ 0)
  go_enter Try.func38, Try.ntmps38
  go_wp2
  go_ret
  exact ⟨rfl, rfl⟩

def opOf (r : Int) : Int := if r == 0 then 3 else if r == 1 then 18 else if r == 2 then 24 else if r == 3 then 26 else if r == 4 then 30 else 31
def someM (t : Nat) (y0 y1 y2 : Int) : Mach := { op := opOf (restI y0 6), d := restI y1 5 + 4, e := 0, a := restI y2 5 + 4, b := restI y0 5 + 4, c := 0, imm := t, args := [] }
def someL (s : List Int) (k : Nat) : List Mach := (List.range k).map fun t => someM t (s.getD (3 * t) 0) (s.getD (3 * t + 1) 0) (s.getD (3 * t + 2) 0)
theorem someL_succ (s : List Int) (k : Nat) : someL s (k + 1) = someL s k ++ [someM k (s.getD (3 * k) 0) (s.getD (3 * k + 1) 0) (s.getD (3 * k + 2) 0)] := by
  unfold someL; rw [List.range_succ, List.map_append]; rfl
theorem someL_len (s : List Int) (k : Nat) : (someL s k).length = k := by simp [someL]

def nl (l : List Mach) : List (Mach × Value) := l.map fun m => (m, nilv)
abbrev MRow := OwnRow mcells 8 46
theorem machs_of_own {base : Nat} {w : World} {v : Value} {ms : List (Mach × Value)} (h : MRow base w v ms) (ha : ∀ x ∈ ms, Ints w x.2 x.1.args ∧ Fine x.1) : Machs w v ms := by
  rcases h.cells mcells_len with ⟨h1, h2⟩ | ⟨g, cap, hv, _, _, _, hg, hc⟩
  · exact .inl ⟨_, h1, h2⟩
  · refine .inr ⟨g, 0, cap, hv, hg, fun j x hj => ?_⟩
    have hx := ha x (List.mem_of_getElem? hj)
    have c := fun t ht => hc j t x hj ht
    rw [Nat.zero_add]
    exact ⟨c 0 (by decide), c 1 (by decide), c 2 (by decide), c 3 (by decide), c 4 (by decide), c 5 (by decide), c 6 (by decide), c 7 (by decide), hx.1, hx.2⟩
/-- A pointer to a new block of an instruction's cells, all 0. -/
def zeroM : Array Value := #[.int .i64 0, .int .i64 0, .int .i64 0, .int .i64 0, .int .i64 0, .int .i64 0, .int .i32 0, .slice none 0 0]
def NewM (w0 : World) (v : Value) (w : World) : Prop := ∃ b, v = .pointer (some ⟨b, 0, none⟩) ∧ w0.heap.size ≤ b ∧ w.heap[b]? = some (.cells zeroM 46 (0, 0))
theorem newest_set (w : World) (p : Addr) (v : Value) (o : Obj) : ((w.setCell p v).alloc o).heap[w.heap.size]? = some o := by
  have := heap_last (w.setCell p v) o
  simpa [World.setCell] using this
theorem setRow_block {w : World} {g : Nat} {old : Array Value} {t : TypeId} (h : w.heap[g]? = some (.cells old t (0, 0))) (cs : Array Value) : (w.setRow g cs).heap[g]? = some (.cells cs t (0, 0)) := by
  simp [World.setRow, Array.getElem?_modify, h]
theorem setRow_since {w0 w : World} {g : Nat} (h : Since w0 w) (hg : w0.heap.size ≤ g) (cs : Array Value) : Since w0 (w.setRow g cs) := by
  refine ⟨h.os, h.tape, h.output, ?_, fun k hk => ?_⟩
  · have := h.size
    simpa [World.setRow] using this
  · rw [← h.block k hk]
    have : g ≠ k := by omega
    simp [World.setRow, Array.getElem?_modify, this]
theorem NewM.stable (w0 : World) : Stable (NewM w0) := fun v w w' ⟨b, h1, h2, h3⟩ s => ⟨b, h1, h2, (Below.block s b (Array.getElem?_eq_some_iff.1 h3).1).trans h3⟩

def SomeP (w : World) (l : List Int) (e : Ending) (w' : World) : Prop := ∃ v' k, e = .returned v' ∧ k ≤ 6 ∧ MRow w.heap.size w' v' (nl (someL l k)) ∧ Since w w'

set_option maxHeartbeats 4000000 in
set_option maxRecDepth 100000 in
theorem some_any (v : Value) (l : List Int) (w : World) (h : Ints w v l) :
    Calls Try.prog 35 #[v] w (SomeP w l) := by
  have hlen := h.len
  obtain ⟨a, cap, rfl⟩ := nums_lenI h
  unfold maxLen at hlen
  have H := Lib.hid h; clear h
  generalize hn : l.length = n at *
  have HN := Lib.hid hn; clear hn
  go_enter Try.func35, Try.ntmps35
  go_wp2_with fail
  go_loopw [3, 4] (fun v i wr => ∃ k : Nat, k ≤ 6 ∧ i = .int .i64 ((3 * k : Nat) : Int) ∧ MRow w.heap.size wr v (nl (someL l k)) ∧ Since w wr) (fun _ i _ => 18 - (intOf i).toNat)
  case atStart => exact ⟨0, by omega, rfl, OwnRow.nil _ _ _ _ _, Since.refl _⟩
  case round =>
    obtain ⟨k, hk6, rfl, hown, hsr⟩ := hrel
    obtain ⟨va, vc, hv⟩ := hown.shape
    rw [nl, List.length_map, someL_len] at hv
    subst hv
    have HO := Lib.hid hown
    have HS := Lib.hid hsr
    clear hown hsr
    by_cases hlt : 3 * k + 2 < n ∧ k < 6
    · obtain ⟨hl1, hl2⟩ := hlt
      obtain ⟨_, hc⟩ := nums_cell (HN.out ▸ H.out)
      obtain ⟨B, off, rfl, hB, hcell⟩ := hc (by intro e; have := HN.out; rw [e] at this; simp at this; omega)
      have HB := Lib.hid hB
      have hx := fun t (ht : t < n) => (show wr.cell? ⟨B, off + t, none⟩ = some (.int .i64 (l.getD t 0)) from by
        rw [HS.out.cell (p := ⟨B, off + t, none⟩) hB]
        refine hcell t _ ?_
        rw [List.getD_eq_getElem?_getD, List.getElem?_eq_getElem (by have := HN.out; omega)]; rfl)
      have hx0 := hx (3 * k) (by omega)
      have hx1 := hx (3 * k + 1) (by omega)
      have hx2 := hx (3 * k + 2) (by omega)
      have HX1 := Lib.hid hx1
      have HX2 := Lib.hid hx2
      clear hx hcell hc hB hx1 hx2
      have hsc := someL_succ l k
      have HSC := Lib.hid hsc; clear hsc
      generalize l.getD (3 * k) 0 = y0 at *
      generalize l.getD (3 * k + 1) 0 = y1 at *
      generalize l.getD (3 * k + 2) 0 = y2 at *
      have hr0 := restI_bd y0 6 (by decide)
      have hr1 := restI_bd y1 5 (by decide)
      have hr2 := restI_bd y2 5 (by decide)
      have hr3 := restI_bd y0 5 (by decide)
      have R0 := Lib.hid (fun w => rest_any y0 6 w (by decide) (by decide))
      have R1 := Lib.hid (fun w => rest_any y1 5 w (by decide) (by decide))
      have R2 := Lib.hid (fun w => rest_any y2 5 w (by decide) (by decide))
      have R3 := Lib.hid (fun w => rest_any y0 5 w (by decide) (by decide))
      unfold someM at HSC
      generalize restI y0 6 = r0 at *
      generalize restI y1 5 = r1 at *
      generalize restI y2 5 = r2 at *
      generalize restI y0 5 = r3 at *
      obtain ⟨hr0a, hr0b⟩ := hr0
      obtain ⟨hr1a, hr1b⟩ := hr1
      obtain ⟨hr2a, hr2b⟩ := hr2
      obtain ⟨hr3a, hr3b⟩ := hr3
      go_wp2_with fail
      refine (R0.out _).mono ?_
      rintro e w2 ⟨rfl, rfl⟩
      have HX0 := Lib.hid hx0; clear hx0
      go_wp2_with fail
      have HBW := Lib.hid (Nat.lt_of_lt_of_le HB.out HS.out.size)
      refine wp_region_since_tail 25 rfl (by decide +kernel) (by decide +kernel) (by decide +kernel) (by decide)
        [Is (.slice (some ⟨B, off, none⟩) n cap), Is (.int .i64 (3 * (k : Int))), Is (.int .i64 (3 * (k : Int) + 1)), Is (.pointer (some ⟨B, off + (3 * k + 1), none⟩)), Is (.int .i64 y1), Is (.int .i64 r1), Is (.int .i64 (r1 + 4)), Is (.slice (some ⟨B, off, none⟩) n cap), Is (.int .i64 (3 * (k : Int))), Is (.int .i64 (3 * (k : Int) + 2)), Is (.pointer (some ⟨B, off + (3 * k + 2), none⟩)), Is (.int .i64 y2), Is (.int .i64 r2), Is (.int .i64 (r2 + 4)), Is (.slice (some ⟨B, off, none⟩) n cap), Is (.int .i64 (3 * (k : Int))), Is (.pointer (some ⟨B, off + 3 * k, none⟩)), Is (.int .i64 y0), Is (.int .i64 r3), Is (.int .i64 (r3 + 4)), Is (.slice va k vc), Is (.int .i64 k), Is (.int .i32 k), Is (.agg #[.int .i64 0, .int .i64 (r1 + 4), .int .i64 0, .int .i64 (r2 + 4), .int .i64 (r3 + 4), .int .i64 0, .int .i32 k, .slice none 0 0]), NewM wr]
        (by repeat (first | exact trivial | refine ⟨Is.stable _, ?_⟩ | refine ⟨NewM.stable _, ?_⟩)) ⟨?_, ?_, ?_, ?_, ?_, ?_, ?_, ?_, ?_, ?_, ?_, ?_, ?_, ?_, ?_, ?_, ?_, ?_, ?_, ?_, ?_, ?_, ?_, ?_, ?_, trivial⟩ ?_
      rotate_right
      all_goals
        intro vs w1 hs hk
        try intro _
        have HS1 := Lib.hid hs
        clear hs
        simp only [List.take, List.drop, putAll, Act.put, Knows, KnowsAll, nthF, Is, List.setIfInBounds_toArray, List.set_cons_zero, List.set_cons_succ, Nat.reduceAdd] at hk ⊢
        try simp only [hk]
      rotate_left

      · go_wp2
        exact ⟨_, rfl, rfl, Since.refl _⟩
      · go_wp2
        exact ⟨_, rfl, rfl, Since.refl _⟩
      · go_wp2
        exact ⟨_, rfl, rfl, Since.refl _⟩
      · go_wp2
        exact ⟨_, rfl, rfl, Since.refl _⟩
      · have hx1 := (HS1.out.cell (p := ⟨B, off + (3 * k + 1), none⟩) HBW.out).trans HX1.out
        go_wp2
        exact ⟨_, rfl, rfl, Since.refl _⟩
      · go_wp2_with fail
        refine (R1.out _).mono ?_
        rintro e w3 ⟨rfl, rfl⟩
        go_wp2
        exact ⟨_, rfl, rfl, Since.refl _⟩
      · go_wp2
        exact ⟨_, rfl, rfl, Since.refl _⟩
      · go_wp2
        exact ⟨_, rfl, rfl, Since.refl _⟩
      · go_wp2
        exact ⟨_, rfl, rfl, Since.refl _⟩
      · go_wp2
        exact ⟨_, rfl, rfl, Since.refl _⟩
      · go_wp2
        exact ⟨_, rfl, rfl, Since.refl _⟩
      · have hx1 := (HS1.out.cell (p := ⟨B, off + (3 * k + 2), none⟩) HBW.out).trans HX2.out
        go_wp2
        exact ⟨_, rfl, rfl, Since.refl _⟩
      · go_wp2_with fail
        refine (R2.out _).mono ?_
        rintro e w3 ⟨rfl, rfl⟩
        go_wp2
        exact ⟨_, rfl, rfl, Since.refl _⟩
      · go_wp2
        exact ⟨_, rfl, rfl, Since.refl _⟩
      · go_wp2
        exact ⟨_, rfl, rfl, Since.refl _⟩
      · go_wp2
        exact ⟨_, rfl, rfl, Since.refl _⟩
      · go_wp2
        exact ⟨_, rfl, rfl, Since.refl _⟩
      · have hx1 := (HS1.out.cell (p := ⟨B, off + 3 * k, none⟩) HBW.out).trans HX0.out
        go_wp2
        exact ⟨_, rfl, rfl, Since.refl _⟩
      · go_wp2_with fail
        refine (R3.out _).mono ?_
        rintro e w3 ⟨rfl, rfl⟩
        go_wp2
        exact ⟨_, rfl, rfl, Since.refl _⟩
      · go_wp2
        exact ⟨_, rfl, rfl, Since.refl _⟩
      · go_wp2
        exact ⟨_, rfl, rfl, Since.refl _⟩
      · go_wp2
        exact ⟨_, rfl, rfl, Since.refl _⟩
      · go_wp2
        exact ⟨_, rfl, rfl, Since.refl _⟩
      · go_wp2
        exact ⟨_, rfl, rfl, Since.refl _⟩
      · go_wp2
        exact ⟨_, rfl, ⟨_, rfl, HS1.out.size, heap_last _ _⟩, (Since.refl _).alloc _⟩
      · have hnew := hk.2.2.2.2.2.2.2.2.2.2.2.2.2.2.2.2.2.2.2.2.2.2.2.2.1
        obtain ⟨b, hb1, hb2, hb3⟩ := hnew
        simp only [hb1]
        have HB2 := Lib.hid hb2
        have HB3 := Lib.hid hb3
        clear hk hb1 hb2 hb3
        refine wpList_store_row rfl 46 _ _ rfl b #[.int .i64 0, .int .i64 (r1 + 4), .int .i64 0, .int .i64 (r2 + 4), .int .i64 (r3 + 4), .int .i64 0, .int .i32 k, .slice none 0 0] rfl rfl 46 zeroM HB3.out (by kernel_rfl) rfl (by rw [← Array.all_toList]; rfl) ?_
        have hblt : b < w1.heap.size := (Array.getElem?_eq_some_iff.1 HB3.out).1
        have hblk : (w1.setRow b #[.int .i64 0, .int .i64 (r1 + 4), .int .i64 0, .int .i64 (r2 + 4), .int .i64 (r3 + 4), .int .i64 0, .int .i32 k, .slice none 0 0]).heap[b]? = some (.cells #[.int .i64 0, .int .i64 (r1 + 4), .int .i64 0, .int .i64 (r2 + 4), .int .i64 (r3 + 4), .int .i64 0, .int .i32 k, .slice none 0 0] 46 (0, 0)) := setRow_block HB3.out _
        have hs2 : Since wr (w1.setRow b #[.int .i64 0, .int .i64 (r1 + 4), .int .i64 0, .int .i64 (r2 + 4), .int .i64 (r3 + 4), .int .i64 0, .int .i32 k, .slice none 0 0]) := setRow_since HS1.out HB2.out _
        generalize w1.setRow b #[.int .i64 0, .int .i64 (r1 + 4), .int .i64 0, .int .i64 (r2 + 4), .int .i64 (r3 + 4), .int .i64 0, .int .i32 k, .slice none 0 0] = w2 at *
        have c0 : w2.cell? ⟨b, 0, none⟩ = some (.int .i64 0) := by simp [World.cell?, hblk]
        have c1 : w2.cell? ⟨b, 1, none⟩ = some (.int .i64 (r1 + 4)) := by simp [World.cell?, hblk]
        have c2 : w2.cell? ⟨b, 2, none⟩ = some (.int .i64 0) := by simp [World.cell?, hblk]
        have c3 : w2.cell? ⟨b, 3, none⟩ = some (.int .i64 (r2 + 4)) := by simp [World.cell?, hblk]
        have c4 : w2.cell? ⟨b, 4, none⟩ = some (.int .i64 (r3 + 4)) := by simp [World.cell?, hblk]
        have c5 : w2.cell? ⟨b, 5, none⟩ = some (.int .i64 0) := by simp [World.cell?, hblk]
        have c6 : w2.cell? ⟨b, 6, none⟩ = some (.int .i32 k) := by simp [World.cell?, hblk]
        have c7 : w2.cell? ⟨b, 7, none⟩ = some (.slice none 0 0) := by simp [World.cell?, hblk]
        have hfz : w2.frozen? ⟨b, 0, none⟩ = false := by simp [World.frozen?, hblk]
        have HS2 := Lib.hid hs2
        clear hblk hs2 hblt
        obtain rfl | rfl | rfl | rfl | rfl | rfl : r0 = 0 ∨ r0 = 1 ∨ r0 = 2 ∨ r0 = 3 ∨ r0 = 4 ∨ r0 = 5 := by omega
        · go_wp2_with (at_builtin; refine wpList_append_one (w0 := w) mcells 8 mcells_len (by decide) rfl _ _ 76 rfl 46 (.agg zeroM) 80 Try.underlying76 (by kernel_rfl) rfl (.slice va k vc) (nl (someL l k)) ({ op := opOf 0, d := r1 + 4, e := 0, a := r2 + 4, b := r3 + 4, c := 0, imm := k, args := [] }, nilv) w2.heap.size 1 46 rfl rfl (HO.out.keep ((set_since HS2.out HB2.out _).alloc _)) (newest_set w2 _ _ _) (by simp [mcells, nilv, Value.oneCell']) (by simp [nl, someL_len]; unfold maxLen; omega) (by simp [nl, someL_len]; omega) (HS.out.trans ((set_since HS2.out HB2.out _).alloc _)) ?_; intro v' w' hown' hs'; have HO' := Lib.hid hown'; have HS' := Lib.hid hs'; clear hown' hs')
          go_roundw
          case rel => exact ⟨k + 1, by omega, congrArg (Value.int .i64) (by omega), by rw [HSC.out, nl, List.map_append]; exact HO'.out, HS'.out⟩
          case measure => simp [intOf]; omega
        · go_wp2_with (at_builtin; refine wpList_append_one (w0 := w) mcells 8 mcells_len (by decide) rfl _ _ 76 rfl 46 (.agg zeroM) 80 Try.underlying76 (by kernel_rfl) rfl (.slice va k vc) (nl (someL l k)) ({ op := opOf 1, d := r1 + 4, e := 0, a := r2 + 4, b := r3 + 4, c := 0, imm := k, args := [] }, nilv) w2.heap.size 1 46 rfl rfl (HO.out.keep ((set_since HS2.out HB2.out _).alloc _)) (newest_set w2 _ _ _) (by simp [mcells, nilv, Value.oneCell']) (by simp [nl, someL_len]; unfold maxLen; omega) (by simp [nl, someL_len]; omega) (HS.out.trans ((set_since HS2.out HB2.out _).alloc _)) ?_; intro v' w' hown' hs'; have HO' := Lib.hid hown'; have HS' := Lib.hid hs'; clear hown' hs')
          go_roundw
          case rel => exact ⟨k + 1, by omega, congrArg (Value.int .i64) (by omega), by rw [HSC.out, nl, List.map_append]; exact HO'.out, HS'.out⟩
          case measure => simp [intOf]; omega
        · go_wp2_with (at_builtin; refine wpList_append_one (w0 := w) mcells 8 mcells_len (by decide) rfl _ _ 76 rfl 46 (.agg zeroM) 80 Try.underlying76 (by kernel_rfl) rfl (.slice va k vc) (nl (someL l k)) ({ op := opOf 2, d := r1 + 4, e := 0, a := r2 + 4, b := r3 + 4, c := 0, imm := k, args := [] }, nilv) w2.heap.size 1 46 rfl rfl (HO.out.keep ((set_since HS2.out HB2.out _).alloc _)) (newest_set w2 _ _ _) (by simp [mcells, nilv, Value.oneCell']) (by simp [nl, someL_len]; unfold maxLen; omega) (by simp [nl, someL_len]; omega) (HS.out.trans ((set_since HS2.out HB2.out _).alloc _)) ?_; intro v' w' hown' hs'; have HO' := Lib.hid hown'; have HS' := Lib.hid hs'; clear hown' hs')
          go_roundw
          case rel => exact ⟨k + 1, by omega, congrArg (Value.int .i64) (by omega), by rw [HSC.out, nl, List.map_append]; exact HO'.out, HS'.out⟩
          case measure => simp [intOf]; omega
        · go_wp2_with (at_builtin; refine wpList_append_one (w0 := w) mcells 8 mcells_len (by decide) rfl _ _ 76 rfl 46 (.agg zeroM) 80 Try.underlying76 (by kernel_rfl) rfl (.slice va k vc) (nl (someL l k)) ({ op := opOf 3, d := r1 + 4, e := 0, a := r2 + 4, b := r3 + 4, c := 0, imm := k, args := [] }, nilv) w2.heap.size 1 46 rfl rfl (HO.out.keep ((set_since HS2.out HB2.out _).alloc _)) (newest_set w2 _ _ _) (by simp [mcells, nilv, Value.oneCell']) (by simp [nl, someL_len]; unfold maxLen; omega) (by simp [nl, someL_len]; omega) (HS.out.trans ((set_since HS2.out HB2.out _).alloc _)) ?_; intro v' w' hown' hs'; have HO' := Lib.hid hown'; have HS' := Lib.hid hs'; clear hown' hs')
          go_roundw
          case rel => exact ⟨k + 1, by omega, congrArg (Value.int .i64) (by omega), by rw [HSC.out, nl, List.map_append]; exact HO'.out, HS'.out⟩
          case measure => simp [intOf]; omega
        · go_wp2_with (at_builtin; refine wpList_append_one (w0 := w) mcells 8 mcells_len (by decide) rfl _ _ 76 rfl 46 (.agg zeroM) 80 Try.underlying76 (by kernel_rfl) rfl (.slice va k vc) (nl (someL l k)) ({ op := opOf 4, d := r1 + 4, e := 0, a := r2 + 4, b := r3 + 4, c := 0, imm := k, args := [] }, nilv) w2.heap.size 1 46 rfl rfl (HO.out.keep ((set_since HS2.out HB2.out _).alloc _)) (newest_set w2 _ _ _) (by simp [mcells, nilv, Value.oneCell']) (by simp [nl, someL_len]; unfold maxLen; omega) (by simp [nl, someL_len]; omega) (HS.out.trans ((set_since HS2.out HB2.out _).alloc _)) ?_; intro v' w' hown' hs'; have HO' := Lib.hid hown'; have HS' := Lib.hid hs'; clear hown' hs')
          go_roundw
          case rel => exact ⟨k + 1, by omega, congrArg (Value.int .i64) (by omega), by rw [HSC.out, nl, List.map_append]; exact HO'.out, HS'.out⟩
          case measure => simp [intOf]; omega
        · go_wp2_with (at_builtin; refine wpList_append_one (w0 := w) mcells 8 mcells_len (by decide) rfl _ _ 76 rfl 46 (.agg zeroM) 80 Try.underlying76 (by kernel_rfl) rfl (.slice va k vc) (nl (someL l k)) ({ op := opOf 5, d := r1 + 4, e := 0, a := r2 + 4, b := r3 + 4, c := 0, imm := k, args := [] }, nilv) w2.heap.size 1 46 rfl rfl (HO.out.keep ((set_since HS2.out HB2.out _).alloc _)) (newest_set w2 _ _ _) (by simp [mcells, nilv, Value.oneCell']) (by simp [nl, someL_len]; unfold maxLen; omega) (by simp [nl, someL_len]; omega) (HS.out.trans ((set_since HS2.out HB2.out _).alloc _)) ?_; intro v' w' hown' hs'; have HO' := Lib.hid hown'; have HS' := Lib.hid hs'; clear hown' hs')
          go_roundw
          case rel => exact ⟨k + 1, by omega, congrArg (Value.int .i64) (by omega), by rw [HSC.out, nl, List.map_append]; exact HO'.out, HS'.out⟩
          case measure => simp [intOf]; omega
    · obtain hge : n ≤ 3 * k + 2 ∨ k = 6 := by omega
      rcases hge with hge | rfl
      · have hd : decide (3 * (k : Int) + 2 < (n : Int)) = false := by simp; omega
        go_wp2
        go_ret
        exact ⟨_, k, rfl, hk6, HO.out, HS.out⟩
      · by_cases h20 : 20 < n
        · have hd : decide ((20 : Int) < (n : Int)) = true := by simp; omega
          go_wp2
          go_ret
          exact ⟨_, 6, rfl, Nat.le_refl _, HO.out, HS.out⟩
        · have hd : decide ((20 : Int) < (n : Int)) = false := by simp; omega
          go_wp2
          go_ret
          exact ⟨_, 6, rfl, Nat.le_refl _, HO.out, HS.out⟩
end Go.Proofs.Ytkpbmbhejpmboaa
