/- jacquardlaw12.swapped, jacquardlaw12.nums. jacquardlaw12.shown. -/
import Derived.Test.YtkpbmbhejpmboaaRun
namespace Go.Proofs.Ytkpbmbhejpmboaa
open Go.RowKit
set_option linter.unusedVariables false

def nilS : Value := .slice none 0 0
def swapP (x y : Value) : PrgV := ⟨2, 4, 0, [⟨[⟨⟨2, 0, 0, 0, 1, 0, 0, []⟩, .slice none 0 0, 0⟩, ⟨⟨6, 0, 0, 0, 1, 0, 0, []⟩, .slice none 0 0, 0⟩], x, ⟨7, 0, 0, [], .slice none 0 0, 0⟩⟩], y⟩
/-- A row of new data. -/
theorem row_new {α : Type} {f : α → List Value} {sz : Nat} {p : World → α → Prop} (hf : ∀ x, (f x).length = sz) {w : World} {b : Nat} {l : List α} {T : TypeId} (hb : HeapIs w b (l.flatMap f).toArray T) (hm : l.length ≤ maxLen) (hp : ∀ x ∈ l, p w x) : RowIn f sz p w (.slice (some ⟨b, 0, none⟩) l.length l.length) l := by
  refine .inr ⟨b, 0, l.length, rfl, Nat.le_refl _, hm, hb.lt, fun j x hj => ⟨fun t ht => ?_, hp x (List.mem_of_getElem? hj)⟩⟩
  rw [Nat.zero_add, hb.cell]
  simp only [List.getElem?_toArray]
  exact flat_at f sz hf l j t x hj ht
def SwapQ (w : World) (e : Ending) (w' : World) : Prop := ∃ x y, e = .returned (pv (swapP x y)) ∧ PrgOk w' (swapP x y) ∧ Since w w' ∧ ∃ b, y = .slice (some ⟨b, 0, none⟩) 1 1

set_option maxHeartbeats 1000000 in
set_option maxRecDepth 100000 in
theorem swapped_any (w : World) : Calls Try.prog 39 #[] w (SwapQ w) := by
  go_enter Try.func39, Try.ntmps39
  go_wp2
  have h1 : HeapIs ((w.alloc (.cells #[.int .i64 2, .int .i64 4, .int .i64 0, .slice (some ⟨w.heap.size + 1 + 1, 0, none⟩) 1 1] 24)).alloc (.cells #[.int .i64 2, .int .i64 0, .int .i64 0, .int .i64 0, .int .i64 1, .int .i64 0, .int .i32 0, .slice none 0 0, .int .i64 0, .int .i64 6, .int .i64 0, .int .i64 0, .int .i64 0, .int .i64 1, .int .i64 0, .int .i32 0, .slice none 0 0, .int .i64 0] 58)) (w.heap.size + 1) #[.int .i64 2, .int .i64 0, .int .i64 0, .int .i64 0, .int .i64 1, .int .i64 0, .int .i32 0, .slice none 0 0, .int .i64 0, .int .i64 6, .int .i64 0, .int .i64 0, .int .i64 0, .int .i64 1, .int .i64 0, .int .i32 0, .slice none 0 0, .int .i64 0] 58 := by
    have := HeapIs.new (w.alloc (.cells #[.int .i64 2, .int .i64 4, .int .i64 0, .slice (some ⟨w.heap.size + 1 + 1, 0, none⟩) 1 1] 24)) #[.int .i64 2, .int .i64 0, .int .i64 0, .int .i64 0, .int .i64 1, .int .i64 0, .int .i32 0, .slice none 0 0, .int .i64 0, .int .i64 6, .int .i64 0, .int .i64 0, .int .i64 0, .int .i64 1, .int .i64 0, .int .i32 0, .slice none 0 0, .int .i64 0] 58
    rwa [show (w.alloc (.cells #[.int .i64 2, .int .i64 4, .int .i64 0, .slice (some ⟨w.heap.size + 1 + 1, 0, none⟩) 1 1] 24)).heap.size = w.heap.size + 1 from by simp] at this
  have h2 : HeapIs (((w.alloc (.cells #[.int .i64 2, .int .i64 4, .int .i64 0, .slice (some ⟨w.heap.size + 1 + 1, 0, none⟩) 1 1] 24)).alloc (.cells #[.int .i64 2, .int .i64 0, .int .i64 0, .int .i64 0, .int .i64 1, .int .i64 0, .int .i32 0, .slice none 0 0, .int .i64 0, .int .i64 6, .int .i64 0, .int .i64 0, .int .i64 0, .int .i64 1, .int .i64 0, .int .i32 0, .slice none 0 0, .int .i64 0] 58)).alloc (.cells #[.slice (some ⟨w.heap.size + 1, 0, none⟩) 2 2, .int .i64 7, .int .i64 0, .int .i64 0, .slice none 0 0, .int .i32 0] 56)) (w.heap.size + 1 + 1) #[.slice (some ⟨w.heap.size + 1, 0, none⟩) 2 2, .int .i64 7, .int .i64 0, .int .i64 0, .slice none 0 0, .int .i32 0] 56 := by
    have := HeapIs.new ((w.alloc (.cells #[.int .i64 2, .int .i64 4, .int .i64 0, .slice (some ⟨w.heap.size + 1 + 1, 0, none⟩) 1 1] 24)).alloc (.cells #[.int .i64 2, .int .i64 0, .int .i64 0, .int .i64 0, .int .i64 1, .int .i64 0, .int .i32 0, .slice none 0 0, .int .i64 0, .int .i64 6, .int .i64 0, .int .i64 0, .int .i64 0, .int .i64 1, .int .i64 0, .int .i32 0, .slice none 0 0, .int .i64 0] 58)) #[.slice (some ⟨w.heap.size + 1, 0, none⟩) 2 2, .int .i64 7, .int .i64 0, .int .i64 0, .slice none 0 0, .int .i32 0] 56
    rwa [show ((w.alloc (.cells #[.int .i64 2, .int .i64 4, .int .i64 0, .slice (some ⟨w.heap.size + 1 + 1, 0, none⟩) 1 1] 24)).alloc (.cells #[.int .i64 2, .int .i64 0, .int .i64 0, .int .i64 0, .int .i64 1, .int .i64 0, .int .i32 0, .slice none 0 0, .int .i64 0, .int .i64 6, .int .i64 0, .int .i64 0, .int .i64 0, .int .i64 1, .int .i64 0, .int .i32 0, .slice none 0 0, .int .i64 0] 58)).heap.size = w.heap.size + 1 + 1 from by simp] at this
  have hs : Since w (((w.alloc (.cells #[.int .i64 2, .int .i64 4, .int .i64 0, .slice (some ⟨w.heap.size + 1 + 1, 0, none⟩) 1 1] 24)).alloc (.cells #[.int .i64 2, .int .i64 0, .int .i64 0, .int .i64 0, .int .i64 1, .int .i64 0, .int .i32 0, .slice none 0 0, .int .i64 0, .int .i64 6, .int .i64 0, .int .i64 0, .int .i64 0, .int .i64 1, .int .i64 0, .int .i32 0, .slice none 0 0, .int .i64 0] 58)).alloc (.cells #[.slice (some ⟨w.heap.size + 1, 0, none⟩) 2 2, .int .i64 7, .int .i64 0, .int .i64 0, .slice none 0 0, .int .i32 0] 56)) := (((Since.refl w).alloc _).alloc _).alloc _
  have hP : PrgOk (((w.alloc (.cells #[.int .i64 2, .int .i64 4, .int .i64 0, .slice (some ⟨w.heap.size + 1 + 1, 0, none⟩) 1 1] 24)).alloc (.cells #[.int .i64 2, .int .i64 0, .int .i64 0, .int .i64 0, .int .i64 1, .int .i64 0, .int .i32 0, .slice none 0 0, .int .i64 0, .int .i64 6, .int .i64 0, .int .i64 0, .int .i64 0, .int .i64 1, .int .i64 0, .int .i32 0, .slice none 0 0, .int .i64 0] 58)).alloc (.cells #[.slice (some ⟨w.heap.size + 1, 0, none⟩) 2 2, .int .i64 7, .int .i64 0, .int .i64 0, .slice none 0 0, .int .i32 0] 56)) (swapP (.slice (some ⟨w.heap.size + 1, 0, none⟩) 2 2) (.slice (some ⟨w.heap.size + 1 + 1, 0, none⟩) 1 1)) := by
    refine ⟨row_new (l := (swapP (.slice (some ⟨w.heap.size + 1, 0, none⟩) 2 2) (.slice (some ⟨w.heap.size + 1 + 1, 0, none⟩) 1 1)).blocks) blcells_len (T := 56) h2 (show 1 ≤ maxLen by decide) fun b hb => ?_, show 1 ≤ 100000 by decide⟩
    obtain rfl := List.mem_singleton.1 hb
    refine ⟨row_new (l := [⟨⟨2, 0, 0, 0, 1, 0, 0, []⟩, .slice none 0 0, 0⟩, ⟨⟨6, 0, 0, 0, 1, 0, 0, []⟩, .slice none 0 0, 0⟩]) plcells_len (T := 58) (h1.keep ((Since.refl _).alloc _)) (by decide) fun x hx => ?_, .nil _ _, show 2 ≤ 100000 by decide⟩
    simp only [List.mem_cons, List.not_mem_nil, or_false] at hx
    rcases hx with rfl | rfl
    · exact ⟨.nil _ _, ⟨by decide, by decide, by decide⟩, fun q (hq : none = some q) => (nomatch hq)⟩
    · exact ⟨.nil _ _, ⟨by decide, by decide, by decide⟩, fun q (hq : none = some q) => (nomatch hq)⟩
  exact bodyPost_ret (v := pv (swapP (.slice (some ⟨w.heap.size + 1, 0, none⟩) 2 2) (.slice (some ⟨w.heap.size + 1 + 1, 0, none⟩) 1 1))) (by simp [results, Try.results39, go_sem, pv, swapP]) rfl ⟨_, _, rfl, hP, hs, _, rfl⟩

set_option maxHeartbeats 1000000 in
set_option maxRecDepth 100000 in
theorem nums_same (va vb : Value) (l : List Int) (w : World) (ha : Ints w va l) (hb : Ints w vb l) (hl : l.length ≤ 1000) : Calls Try.prog 41 #[va, vb] w (TellsS true w) := by
  obtain ⟨aa, ac, rfl⟩ := nums_lenI ha
  obtain ⟨ba, bc, rfl⟩ := nums_lenI hb
  have HA := Lib.hid ha; clear ha
  have HB := Lib.hid hb; clear hb
  generalize hn : l.length = n at *
  have HN := Lib.hid hn; clear hn
  go_enter Try.func41, Try.ntmps41
  go_wp2
  go_loopw [5] (fun i wr => ∃ k : Nat, k ≤ n ∧ i = .int .i64 k ∧ Since w wr) (fun i _ => n - (intOf i).toNat)
  case atStart => exact ⟨0, Nat.zero_le _, rfl, Since.refl _⟩
  case round =>
    obtain ⟨k, hk, rfl, hs⟩ := hrel
    have HS := Lib.hid hs
    by_cases hlt : k < n
    · have hne : l ≠ [] := by intro e; have := HN.out; rw [e] at this; simp at this; omega
      obtain ⟨_, h1⟩ := nums_cell (HN.out ▸ HA.out.keep hs)
      obtain ⟨B, off, rfl, hB, hcell⟩ := h1 hne
      obtain ⟨_, h2⟩ := nums_cell (HN.out ▸ HB.out.keep hs)
      obtain ⟨B2, off2, rfl, hB2, hcell2⟩ := h2 hne
      obtain ⟨x, hx⟩ : ∃ x, l[k]? = some x := ⟨_, List.getElem?_eq_getElem (by have := HN.out; omega)⟩
      have c1 := hcell k x hx
      have c2 := hcell2 k x hx
      have hxx : (x != x) = false := by simp
      clear hcell hcell2 h1 h2 hs hB hB2 hx
      go_wp2_with fail
      go_quiet (fail)
      go_wp2
      go_roundw
      case rel => exact ⟨k + 1, by omega, by go_num, HS.out.trans (Since.drewN (Since.refl _) _)⟩
      case measure => simp [intOf]; omega
    · obtain rfl : k = n := by omega
      go_wp2
      go_ret
      exact ⟨rfl, HS.out⟩
end Go.Proofs.Ytkpbmbhejpmboaa

namespace Go.Proofs.Ytkpbmbhejpmboaa
open Go.RowKit
set_option linter.unusedVariables false

/-- What a run hands back. -/
def RunsTo (e v st : Int) (w : World) (en : Ending) (w' : World) : Prop := ∃ a n c b m d, en = .returned (.agg #[.int .i64 e, .int .i32 v, .slice a n c, .slice b m d, .int .i64 st]) ∧ Since w w'
theorem run_to {p : PrgV} {i : InV} {w : World} {e v st : Int} {o : OutP} (hp : PrgOk w p) (hi : InOk w i) (h : runP p i = o) (he : o.e = e) (hv : o.v = v) (hs : o.steps = st) : Calls Try.prog 18 #[pv p, iv i] w (RunsTo e v st w) := by
  refine (run_any p i w hp hi).mono ?_
  rintro en w' ⟨x, rfl, ⟨mv, cv, rfl, hm, hc, _⟩, hs'⟩
  obtain ⟨a, c, rfl, _⟩ := hm.shape
  obtain ⟨evs, hev, _⟩ := hc
  obtain ⟨b, d, hcv⟩ := OwnRow.shape hev
  subst hcv
  rw [h, he, hv, hs]
  exact ⟨_, _, _, _, _, _, rfl, hs'⟩
def inSw (b : Nat) (n : Int) : InV := ⟨[5, 9], .slice (some ⟨b, 0, none⟩) 2 2, [], .slice none 0 0, [], .slice none 0 0, n⟩
theorem inSw_ok {w : World} {b : Nat} {n : Int} (h : Nums .i32 w (.slice (some ⟨b, 0, none⟩) 2 2) [5, 9]) (hn : n ≤ 1000000) : InOk w (inSw b n) := by
  refine ⟨⟨h, .nil _ _, .nil _ _⟩, ⟨?_, ?_, ?_⟩, hn⟩
  · intro x hx
    have hx' : x ∈ [(5 : Int), 9] := hx
    simp only [List.mem_cons, List.not_mem_nil, or_false] at hx'
    rcases hx' with rfl | rfl <;> exact ⟨by decide, by decide⟩
  · intro x hx; cases hx
  · intro x hx; cases hx
theorem run_sw3 (x y : Value) (b : Nat) : runP (swapP x y) (inSw b 3) = ⟨1, 4, [], [], 3⟩ := by kernel_rfl
theorem run_sw2 (x y : Value) (b : Nat) : runP (swapP x y) (inSw b 2) = ⟨3, 0, [], [], 2⟩ := by rfl
def noP : PrgV := ⟨0, 0, 0, [], .slice none 0 0⟩
def noI : InV := ⟨[], .slice none 0 0, [], .slice none 0 0, [], .slice none 0 0, 0⟩
theorem run_no : runP noP noI = ⟨4, 0, [], [], 0⟩ := by rfl
theorem noP_ok (w : World) : PrgOk w noP := ⟨.inl ⟨none, rfl, rfl⟩, by decide⟩
theorem noI_ok (w : World) : InOk w noI := ⟨⟨.nil _ _, .nil _ _, .nil _ _⟩, ⟨fun x h => (by cases h), fun x h => (by cases h), fun x h => (by cases h)⟩, by decide⟩
theorem right_sw (x y : Value) : rightB (swapP x y) = true := by rfl





/-! walk -/
theorem run3 (x : Value) (yb b : Nat) (w : World) (hp : PrgOk w (swapP x (.slice (some ⟨yb, 0, none⟩) 1 1))) (hn : Nums .i32 w (.slice (some ⟨b, 0, none⟩) 2 2) [5, 9]) :
    Calls Try.prog 18 #[.agg #[.int .i64 2, .int .i64 4, .int .i64 0, .slice (some ⟨yb, 0, none⟩) 1 1], .agg #[.slice (some ⟨b, 0, none⟩) 2 2, .slice none 0 0, .slice none 0 0, .int .i64 3]] w (RunsTo 1 4 3 w) := run_to (p := swapP x (.slice (some ⟨yb, 0, none⟩) 1 1)) (i := inSw b 3) (o := ⟨1, 4, [], [], 3⟩) hp (inSw_ok hn (by decide)) (run_sw3 x _ b) rfl rfl rfl
theorem run2 (x : Value) (yb b : Nat) (w : World) (hp : PrgOk w (swapP x (.slice (some ⟨yb, 0, none⟩) 1 1))) (hn : Nums .i32 w (.slice (some ⟨b, 0, none⟩) 2 2) [5, 9]) :
    Calls Try.prog 18 #[.agg #[.int .i64 2, .int .i64 4, .int .i64 0, .slice (some ⟨yb, 0, none⟩) 1 1], .agg #[.slice (some ⟨b, 0, none⟩) 2 2, .slice none 0 0, .slice none 0 0, .int .i64 2]] w (RunsTo 3 0 2 w) := run_to (p := swapP x (.slice (some ⟨yb, 0, none⟩) 1 1)) (i := inSw b 2) (o := ⟨3, 0, [], [], 2⟩) hp (inSw_ok hn (by decide)) (run_sw2 x _ b) rfl rfl rfl
theorem run0 (w : World) : Calls Try.prog 18 #[.agg #[.int .i64 0, .int .i64 0, .int .i64 0, .slice none 0 0], .agg #[.slice none 0 0, .slice none 0 0, .slice none 0 0, .int .i64 0]] w (RunsTo 4 0 0 w) := run_to (p := noP) (i := noI) (o := ⟨4, 0, [], [], 0⟩) (noP_ok w) (noI_ok w) run_no rfl rfl rfl
theorem rightSw (x : Value) (yb : Nat) (w : World) (hp : PrgOk w (swapP x (.slice (some ⟨yb, 0, none⟩) 1 1))) : Calls Try.prog 16 #[.agg #[.int .i64 2, .int .i64 4, .int .i64 0, .slice (some ⟨yb, 0, none⟩) 1 1]] w (TellsS true w) := right_any _ w hp
theorem ins1 (b : Nat) (w : World) (h : Ints w (.slice (some ⟨b, 0, none⟩) 1 1) [1]) : Calls Try.prog 20 #[.agg #[.int .i64 28, .int .i64 0, .int .i64 0, .int .i64 0, .int .i64 0, .int .i64 0, .int .i32 0, .slice (some ⟨b, 0, none⟩) 1 1], .int .i64 4, .int .i64 0] w (NumP 30 w) := ins_any ⟨28, 0, 0, 0, 0, 0, 0, [1]⟩ _ 4 0 w h ⟨by decide, by decide, by decide⟩
theorem ins2 (w : World) : Calls Try.prog 20 #[.agg #[.int .i64 31, .int .i64 0, .int .i64 0, .int .i64 0, .int .i64 0, .int .i64 0, .int .i32 2, .slice none 0 0], .int .i64 4, .int .i64 2] w (NumP 43 w) := ins_any ⟨31, 0, 0, 0, 0, 0, 2, []⟩ _ 4 2 w (.nil _ _) ⟨by decide, by decide, by decide⟩
theorem end1 (w : World) : Calls Try.prog 40 #[.agg #[.int .i64 7, .int .i64 1, .int .i64 0, .slice none 0 0, .int .i32 0], .int .i64 4, .int .i64 1] w (NumP 31 w) := end_any ⟨7, 1, 0, [], .slice none 0 0, 0⟩ 4 1 w (.nil _ _)
theorem spoils1 (w : World) : Calls Try.prog 23 #[.agg #[.int .i64 28, .int .i64 0, .int .i64 0, .int .i64 0, .int .i64 0, .int .i64 0, .int .i32 0, .slice none 0 0]] w (Gives w [1, 2, 3]) := spoils_any ⟨28, 0, 0, 0, 0, 0, 0, []⟩ _ w
theorem makes1 (w : World) : Calls Try.prog 22 #[.agg #[.int .i64 31, .int .i64 0, .int .i64 0, .int .i64 3, .int .i64 0, .int .i64 0, .int .i32 2, .slice none 0 0]] w (Gives w [18]) := makes_any ⟨31, 0, 0, 3, 0, 0, 2, []⟩ _ w (.nil _ _) ⟨by decide, by decide, by decide⟩
def SwV (v : Value) (w : World) : Prop := ∃ x yb, v = .agg #[.int .i64 2, .int .i64 4, .int .i64 0, .slice (some ⟨yb, 0, none⟩) 1 1] ∧ PrgOk w (swapP x (.slice (some ⟨yb, 0, none⟩) 1 1))
theorem SwV.stable : Stable SwV := fun v w w' ⟨x, b, h1, h2⟩ s => ⟨x, b, h1, h2.keep s⟩
theorem two_new (w : World) (T : TypeId) (k : IntKind) (l : List Int) (hl : l.length ≤ maxLen) : Nums k (w.alloc (.cells (l.map (Value.int k)).toArray T)) (.slice (some ⟨w.heap.size, 0, none⟩) l.length l.length) l :=
  nums_new l T _ (Nat.le_refl _) hl (heap_last _ _) (by intro j n hj; simp [hj])

set_option maxHeartbeats 4000000 in
set_option maxRecDepth 100000 in
theorem shown_any (w : World) : Calls Try.prog 11 #[] w (TellsS true w) := by
  go_enter Try.func11, Try.ntmps11
  go_wp2_with fail
  refine (swapped_any _).mono ?_
  rintro e w1 ⟨x1, y1, rfl, hp1, hs1, b1, rfl⟩
  dsimp only [pv, swapP]
  have HP1 := Lib.hid hp1
  have HS1 := Lib.hid hs1
  clear hp1 hs1
  go_wp2_with fail
  refine (run3 x1 b1 w1.heap.size _ (HP1.out.keep ((Since.refl _).alloc _)) (two_new w1 _ .i32 [5, 9] (by decide))).mono ?_
  rintro e w2 ⟨a2, n2, c2, r2, m2, d2, rfl, hs2⟩
  have HS2 := Lib.hid ((HS1.out.alloc _).trans hs2)
  have HQ1 := Lib.hid (HeapIs.new w2 #[.int .i64 1, .int .i32 4, .slice a2 n2 c2, .slice r2 m2 d2, .int .i64 3] 42)
  clear hs2
  go_wp2_with fail
  refine (swapped_any _).mono ?_
  rintro e w3 ⟨x3, y3, rfl, hp3, hs3, b3, rfl⟩
  dsimp only [pv, swapP]
  have HP3 := Lib.hid hp3
  have HS3 := Lib.hid (((Since.refl w2).alloc _).trans hs3)
  have HQ13 := Lib.hid (HQ1.out.keep hs3)
  clear hp3 hs3
  go_wp2_with fail
  refine (run2 x3 b3 w3.heap.size _ (HP3.out.keep ((Since.refl _).alloc _)) (two_new w3 _ .i32 [5, 9] (by decide))).mono ?_
  rintro e w4 ⟨a4, n4, c4, r4, m4, d4, rfl, hs4⟩
  have HS4 := Lib.hid (((Since.refl w3).alloc _).trans hs4)
  have HQ2 := Lib.hid (HeapIs.new w4 #[.int .i64 3, .int .i32 0, .slice a4 n4 c4, .slice r4 m4 d4, .int .i64 2] 42)
  clear hs4
  go_wp2_with fail
  refine (run0 _).mono ?_
  rintro e w5 ⟨a5, n5, c5, r5, m5, d5, rfl, hs5⟩
  have HS5 := Lib.hid (((Since.refl w4).alloc _).trans hs5)
  have HQ25 := Lib.hid (HQ2.out.keep hs5)
  have HQ3 := Lib.hid (HeapIs.new w5 #[.int .i64 4, .int .i32 0, .slice a5 n5 c5, .slice r5 m5 d5, .int .i64 0] 42)
  clear hs5
  go_wp2_with fail
  have hi1 : Ints ((w5.alloc (.cells #[.int .i64 4, .int .i32 0, .slice a5 n5 c5, .slice r5 m5 d5, .int .i64 0] 42)).alloc (.cells #[.int .i64 1] 3)) (.slice (some ⟨w5.heap.size + 1, 0, none⟩) 1 1) [1] := by
    have := two_new (w5.alloc (.cells #[.int .i64 4, .int .i32 0, .slice a5 n5 c5, .slice r5 m5 d5, .int .i64 0] 42)) 3 .i64 [1] (by decide)
    rw [show (w5.alloc (.cells #[.int .i64 4, .int .i32 0, .slice a5 n5 c5, .slice r5 m5 d5, .int .i64 0] 42)).heap.size = w5.heap.size + 1 from by simp] at this
    exact this
  refine (ins1 _ _ hi1).mono ?_
  rintro e w6 ⟨rfl, hs6⟩
  clear hi1
  have HS6 := Lib.hid (Since.trans (((Since.refl w5).alloc (.cells #[.int .i64 4, .int .i32 0, .slice a5 n5 c5, .slice r5 m5 d5, .int .i64 0] 42)).alloc (.cells #[.int .i64 1] 3)) hs6)
  have HQ36 := Lib.hid (HQ3.out.keep (Since.trans ((Since.refl (w5.alloc (.cells #[.int .i64 4, .int .i32 0, .slice a5 n5 c5, .slice r5 m5 d5, .int .i64 0] 42))).alloc (.cells #[.int .i64 1] 3)) hs6))
  clear hs6
  go_wp2_with fail
  refine (ins2 _).mono ?_
  rintro e w7 ⟨rfl, hs7⟩
  have HS7 := Lib.hid hs7
  clear hs7
  go_wp2_with fail
  refine (end1 _).mono ?_
  rintro e w8 ⟨rfl, hs8⟩
  have HS8 := Lib.hid hs8
  clear hs8
  go_wp2_with fail
  refine (spoils1 _).mono ?_
  rintro e w9 ⟨v9, rfl, hv9, hs9⟩
  obtain ⟨a9, c9, rfl⟩ := nums_lenI hv9
  have HV9 := Lib.hid hv9
  have HS9 := Lib.hid hs9
  clear hs9 hv9
  go_wp2_with fail
  refine (makes1 _).mono ?_
  rintro e w10 ⟨v10, rfl, hv10, hs10⟩
  obtain ⟨a10, c10, rfl⟩ := nums_lenI hv10
  have S36 := Lib.hid (HS7.out.trans (HS8.out.trans (HS9.out.trans hs10)))
  have S10 := Lib.hid (HS2.out.trans (HS3.out.trans (HS4.out.trans (HS5.out.trans (HS6.out.trans S36.out)))))
  have Q1 := Lib.hid (HQ13.out.keep (HS4.out.trans (HS5.out.trans (HS6.out.trans S36.out))))
  have Q2 := Lib.hid (HQ25.out.keep (HS6.out.trans S36.out))
  have Q3 := Lib.hid (HQ36.out.keep S36.out)
  have V9 := Lib.hid (HV9.out.keep hs10)
  have V10 := Lib.hid hv10
  clear hs10 hv10
  have q10 := Q1.out.cell 0
  have q11 := Q1.out.cell 1
  have q14 := Q1.out.cell 4
  have q20 := Q2.out.cell 0
  have q24 := Q2.out.cell 4
  have q30 := Q3.out.cell 0
  have l1 := Q1.out.lt
  have l2 := Q2.out.lt
  have l3 := Q3.out.lt
  go_wp2_with fail
  refine (nums_same _ _ [1, 2, 3] _ (V9.out.keep ((Since.refl _).alloc _)) (two_new w10 _ .i64 [1, 2, 3] (by decide)) (by decide)).mono ?_
  rintro e w11 ⟨rfl, hs11⟩
  have HS11 := Lib.hid (Since.trans ((Since.refl w10).alloc _) hs11)
  clear q10 q11 q14 q20 q24 q30 l1 l2 l3 hs11
  go_wp2_with fail
  refine (nums_same _ _ [18] _ (V10.out.keep (HS11.out.alloc _)) (two_new w11 _ .i64 [18] (by decide)) (by decide)).mono ?_
  rintro e w12 ⟨rfl, hs12⟩
  have HS12 := Lib.hid (Since.trans ((Since.refl w11).alloc _) hs12)
  clear hs12
  go_wp2_with fail
  refine (swapped_any _).mono ?_
  rintro e w13 ⟨x13, y13, rfl, hp13, hs13, b13, rfl⟩
  dsimp only [pv, swapP]
  have HP13 := Lib.hid hp13
  have HS13 := Lib.hid hs13
  clear hp13 hs13
  go_wp2_with fail
  refine (rightSw x13 b13 _ HP13.out).mono ?_
  rintro e w14 ⟨rfl, hs14⟩
  have HS14 := Lib.hid hs14
  clear hs14
  go_wp2
  go_ret
  exact ⟨rfl, S10.out.trans (HS11.out.trans (HS12.out.trans (HS13.out.trans HS14.out)))⟩
end Go.Proofs.Ytkpbmbhejpmboaa
