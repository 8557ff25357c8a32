/- jacquardlaw12.probe walked: its run is the plain run of the probe's program. -/
import Derived.Test.YtkpbmbhejpmboaaKeepsEnd
import Derived.Test.YtkpbmbhejpmboaaCallsMore
namespace Go.Proofs.Ytkpbmbhejpmboaa
open Go.RowKit
set_option linter.unusedVariables false

abbrev PlRow (base : Nat) (w : World) (v : Value) (l : List PlV) : Prop := OwnRow plcells 9 58 base w v l
def Pls1 (l : List PlV) (v : Value) (w : World) : Prop := ∃ b, v = .slice (some ⟨b, 0, none⟩) l.length l.length ∧ HeapIs w b (l.flatMap plcells).toArray 58
theorem Pls1.stable (l : List PlV) : Stable (Pls1 l) := fun v w w' ⟨b, h1, h2⟩ s => ⟨b, h1, h2.keep s⟩
theorem Try.infoPlaced : (Try.prog.info? 58).map (fun i => (i.zero, i.size, i.bytes)) = some (some (.agg #[.int .i64 0, .int .i64 0, .int .i64 0, .int .i64 0, .int .i64 0, .int .i64 0, .int .i32 0, .slice none 0 0, .int .i64 0]), 9, 88) := by kernel_rfl
def placedZ : Value := .agg #[.int .i64 0, .int .i64 0, .int .i64 0, .int .i64 0, .int .i64 0, .int .i64 0, .int .i32 0, .slice none 0 0, .int .i64 0]
def pbV (v : Value) : Array Value := #[v, .int .i64 7, .int .i64 (-1), .int .i64 0, .slice none 0 0, .int .i32 0]
/-- A block under way: it lies in w3's next block, its instructions in a row of the call's own. -/
def Bk (w3 : World) (v : Value) (L : List PlV) (w : World) : Prop := Since w3 w ∧ HeapIs w w3.heap.size (pbV v) 56 ∧ PlRow w3.heap.size w v L
theorem Bk.keep {w3 w w' : World} {v : Value} {L : List PlV} (h : Bk w3 v L w) (s : Since w w') : Bk w3 v L w' := ⟨h.1.trans s, h.2.1.keep s, OwnRow.keep h.2.2 s⟩
theorem Bk.cell {w3 w : World} {v : Value} {L : List PlV} (h : Bk w3 v L w) : w.cell? ⟨w3.heap.size, 0, none⟩ = some v := h.2.1.cell 0
theorem Bk.lt {w3 w : World} {v : Value} {L : List PlV} (h : Bk w3 v L w) : w3.heap.size < w.heap.size := h.2.1.lt
theorem Bk.shape {w3 w : World} {v : Value} {L : List PlV} (h : Bk w3 v L w) : ∃ a c, v = .slice a L.length c := own_shape h.2.2
def Bg (w3 : World) (v v2 : Value) (L : List PlV) (w : World) : Prop := Since w3 w ∧ HeapIs w w3.heap.size (pbV v) 56 ∧ PlRow w3.heap.size w v2 L
theorem Bk.grow {w3 w w5 : World} {v v2 : Value} {L L2 : List PlV} (h : Bk w3 v L w) (ho : PlRow w3.heap.size w5 v2 L2) (t : Turn (fun q => v.ownBlock = some q) w w5) : Bg w3 v v2 L2 w5 :=
  ⟨t.toSince h.1 fun q hq hs => by have := (World.ownsRow.lt h.2.2 q hs).1; omega, h.2.1.turn t (own_not h.2.2 h.2.1 (by decide)), ho⟩
theorem Bg.cell {w3 w : World} {v v2 : Value} {L : List PlV} (h : Bg w3 v v2 L w) : w.cell? ⟨w3.heap.size, 0, none⟩ = some v := h.2.1.cell 0
theorem Bg.lt {w3 w : World} {v v2 : Value} {L : List PlV} (h : Bg w3 v v2 L w) : w3.heap.size < w.heap.size := h.2.1.lt
theorem Bg.set {w3 w : World} {v v2 : Value} {L : List PlV} (h : Bg w3 v v2 L w) : Bk w3 v2 L (w.setCell ⟨w3.heap.size, 0, none⟩ v2) := by
  have t := (Turn.refl (fun q => q = w3.heap.size) w).setCell (p := ⟨w3.heap.size, 0, none⟩) rfl v2
  exact ⟨t.toSince h.1 (fun q hq e => by omega), h.2.1.set 0 _, own_turn h.2.2 t fun q hq e => by subst e; exact own_not h.2.2 h.2.1 (by decide) hq⟩
theorem Bk.start (w3 : World) : Bk w3 (.slice none 0 0) [] (w3.alloc (.cells (pbV (.slice none 0 0)) 56)) := ⟨(Since.refl _).alloc _, HeapIs.new _ _ _, OwnRow.nil _ _ _ _ _⟩

theorem one_cells {x : PlV} (h : x.av.oneCell' = true) : ∀ u ∈ plcells x, u.oneCell' = true := by
  unfold plcells
  intro u hu
  simp only [List.mem_cons, List.not_mem_nil, or_false] at hu
  rcases hu with rfl | rfl | rfl | rfl | rfl | rfl | rfl | rfl | rfl
  all_goals first | exact h | rfl
/-! ### The stages' lists -/
theorem pre3_succ (W : List Int) (k : Nat) : pre3 W (k + 1) = pre3 W k ++ [liwAt 0 (W.getD (16 + k) 0), sstAt 0 k] := by unfold pre3; rw [List.range_succ, List.flatMap_append]; rfl
theorem pre3_len (W : List Int) : ∀ k, (pre3 W k).length = 2 * k
  | 0 => rfl
  | k + 1 => by rw [pre3_succ, List.length_append, pre3_len W k]; rfl
def lws (W : List Int) (k : Nat) : List PlV := (List.range k).map fun (r : Nat) => liwAt r (W.getD r 0)
theorem lws_succ (W : List Int) (k : Nat) : lws W (k + 1) = lws W k ++ [liwAt k (W.getD k 0)] := by unfold lws; rw [List.range_succ, List.map_append]; rfl
theorem lws_len (W : List Int) (k : Nat) : (lws W k).length = k := by simp [lws]
def sufAk (k : Nat) : List PlV := (List.range k).map fun (r : Nat) => sstAt r (3 + (r : Int))
theorem sufAk_succ (k : Nat) : sufAk (k + 1) = sufAk k ++ [sstAt k (3 + (k : Int))] := by unfold sufAk; rw [List.range_succ, List.map_append]; rfl
theorem sufAk_len (k : Nat) : (sufAk k).length = k := by simp [sufAk]
theorem sufB_succ (k : Nat) : sufB (k + 1) = sufB k ++ [sldAt 1 (slotOf k), mstAt 1 k] := by unfold sufB; rw [List.range_succ, List.flatMap_append]; rfl
theorem sufB_len : ∀ k, (sufB k).length = 2 * k
  | 0 => rfl
  | k + 1 => by rw [sufB_succ, List.length_append, sufB_len k]; rfl
def liAt : PlV := ⟨⟨3, 0, 0, 0, 0, 0, 0, []⟩, .slice none 0 0, 0⟩
theorem probe_list (W : List Int) (i : PlV) : ((((pre3 W 3 ++ lws W 16) ++ [i]) ++ sufAk 16) ++ [liAt]) ++ sufB 19 = preL W ++ i :: sufL := by
  simp only [List.append_assoc]
  rfl

def SmallOk (x : PlV) : Prop := x.m.args = [] ∧ x.av = .slice none 0 0 ∧ In32 x.m.imm
theorem SmallOk.ok {x : PlV} (h : SmallOk x) (w : World) : PlOk w x := by
  obtain ⟨h1, h2, h3⟩ := h
  refine ⟨by rw [h1, h2]; exact .nil _ _, ⟨h3.1, h3.2, by rw [h1]; decide⟩, fun q hq => ?_⟩
  rw [h2] at hq
  exact (nomatch (show none = some q from hq))
theorem slot_32 {r : Nat} (h : r < 19) : In32 (slotOf r) := by unfold slotOf In32; split <;> omega
theorem preL_small {W : List Int} (h32 : ∀ x ∈ W, In32 x) : ∀ x ∈ preL W, SmallOk x := by
  intro x hx
  unfold preL pre3 at hx
  rw [List.mem_append, List.mem_flatMap, List.mem_map] at hx
  rcases hx with ⟨r, hr, hx⟩ | ⟨r, hr, rfl⟩
  · rw [List.mem_range] at hr
    simp only [List.mem_cons, List.not_mem_nil, or_false] at hx
    rcases hx with rfl | rfl
    · exact ⟨rfl, rfl, in32_getD h32 _⟩
    · refine ⟨rfl, rfl, ?_⟩
      show In32 (r : Int)
      unfold In32; omega
  · exact ⟨rfl, rfl, in32_getD h32 _⟩
theorem sufL_small : ∀ x ∈ sufL, SmallOk x := by
  intro x hx
  unfold sufL sufA sufB at hx
  rw [List.mem_append, List.mem_cons, List.mem_flatMap, List.mem_map] at hx
  rcases hx with ⟨r, hr, rfl⟩ | rfl | ⟨r, hr, hx⟩
  · rw [List.mem_range] at hr
    refine ⟨rfl, rfl, ?_⟩
    show In32 (3 + (r : Int))
    unfold In32; omega
  · exact ⟨rfl, rfl, by show In32 0; unfold In32; omega⟩
  · rw [List.mem_range] at hr
    simp only [List.mem_cons, List.not_mem_nil, or_false] at hx
    rcases hx with rfl | rfl
    · exact ⟨rfl, rfl, slot_32 hr⟩
    · refine ⟨rfl, rfl, ?_⟩
      show In32 (r : Int)
      unfold In32; omega
theorem probeP_ok {w : World} {base : Nat} {W : List Int} {m : Mach} {av x : Value} {b : Nat} (h32 : ∀ x ∈ W, In32 x) (ha : Ints w av m.args) (hf : Fine m) (ha2 : ∀ q, av.ownBlock = some q → q < w.heap.size)
    (ho : PlRow base w x (preL W ++ ⟨m, av, 0⟩ :: sufL)) (hb : HeapIs w b (pbV x) 56) : PrgOk w (probeP W ⟨m, av, 0⟩ x (.slice (some ⟨b, 0, none⟩) 1 1)) := by
  have hlen : (preL W ++ (⟨m, av, 0⟩ : PlV) :: sufL).length = 78 := by rw [List.length_append, List.length_cons]; rfl
  refine ⟨row_new (l := (probeP W ⟨m, av, 0⟩ x (.slice (some ⟨b, 0, none⟩) 1 1)).blocks) blcells_len (T := 56) hb (show 1 ≤ maxLen by decide) fun y hy => ?_, show 1 ≤ 100000 by decide⟩
  obtain rfl := List.mem_singleton.1 hy
  refine ⟨row_of_own plcells_len ho fun z hz => ?_, .nil _ _, by show (preL W ++ (⟨m, av, 0⟩ : PlV) :: sufL).length ≤ 100000; rw [hlen]; decide⟩
  have hz' : z ∈ preL W ++ (⟨m, av, 0⟩ : PlV) :: sufL := hz
  rw [List.mem_append, List.mem_cons] at hz'
  rcases hz' with hz | rfl | hz
  · exact (preL_small h32 z hz).ok w
  · exact ⟨ha, hf, ha2⟩
  · exact (sufL_small z hz).ok w
def ProbeIn (v : Value) (w : World) : Prop := ∃ a b, v = .agg #[.slice none 0 0, a, b, .int .i64 200] ∧ Nums .i32 w a (List.replicate 19 0) ∧ Nums .i32 w b [77]
theorem ProbeIn.stable : Stable ProbeIn := fun v w w' ⟨a, b, h1, h2, h3⟩ s => ⟨a, b, h1, h2.keep s, h3.keep s⟩
theorem OutIs.keep {w w' : World} {base : Nat} {v : Value} {o : OutP} (h : OutIs w base v o) (s : Since w w') : OutIs w' base v o := by
  obtain ⟨mv, cv, h1, h2, h3, h4⟩ := h
  exact ⟨mv, cv, h1, h2.keep s, h3.turn (S := fun _ => False) (Turn.since s) fun _ _ => id, h4⟩
def probeRun (m : Mach) (av : Value) (W : List Int) (x y z u : Value) : OutP := runP (probeP W ⟨m, av, 0⟩ x y) ⟨[], .slice none 0 0, List.replicate 19 0, z, [77], u, 200⟩
def ProbeV (m : Mach) (av : Value) (W : List Int) (w0 : World) (v : Value) (w : World) : Prop := ∃ base x y z u, w0.heap.size ≤ base ∧ OutIs w base v (probeRun m av W x y z u)
theorem ProbeV.stable (m : Mach) (av : Value) (W : List Int) (w0 : World) : Stable (ProbeV m av W w0) := fun v w w' ⟨base, x, y, z, u, h1, h2⟩ s => ⟨base, x, y, z, u, h1, h2.keep s⟩
theorem OutIs.shape {w : World} {base : Nat} {v : Value} {o : OutP} (h : OutIs w base v o) : ∃ a c g n d, v = .agg #[.int .i64 o.e, .int .i32 o.v, .slice a o.mem.length c, .slice g n d, .int .i64 o.steps] := by
  obtain ⟨mv, cv, h1, h2, ⟨evs, h3, _, _⟩, _⟩ := h
  obtain ⟨a, c, rfl, _⟩ := h2.shape
  obtain ⟨g, d, rfl⟩ := own_shape h3
  exact ⟨a, c, g, _, d, h1⟩
theorem OutIs.setRow {w : World} {base : Nat} {v : Value} {o : OutP} (h : OutIs w base v o) {b : Nat} (hb : b < base) (cs : Array Value) : OutIs (w.setRow b cs) base v o := by
  obtain ⟨mv, cv, h1, h2, h3, h4⟩ := h
  have t : Turn (fun q => q = b) w (w.setRow b cs) := setRow_turn (S := fun q => q = b) rfl _
  exact ⟨mv, cv, h1, h2.turn t fun q hq e => by have := h4 q hq; omega, h3.turn t fun q hq e => by omega, h4⟩
/-- What a probe's run hands back. -/
def ProbeQ (m : Mach) (av : Value) (W : List Int) (w : World) (e : Ending) (w' : World) : Prop :=
  ∃ v, e = .returned v ∧ ProbeV m av W w v w' ∧ Since w w'

set_option maxHeartbeats 8000000 in
set_option maxRecDepth 100000 in
theorem probe_any (m : Mach) (av wv : Value) (W : List Int) (w : World) (ha : Ints w av m.args) (ha2 : ∀ q, av.ownBlock = some q → q < w.heap.size) (hf : Fine m) (hW : Nums .i32 w wv W) (h19 : W.length = 19) (h32 : ∀ x ∈ W, In32 x) :
    Calls Try.prog 21 #[mv m av, wv] w (ProbeQ m av W w) := by
  obtain ⟨wa, wc, rfl⟩ := nums_lenI hW
  obtain ⟨_, hc⟩ := nums_cell hW
  obtain ⟨B, off, rfl, hB, hcw⟩ := hc (by intro e; rw [e] at h19; cases h19)
  rw [h19]
  have hcw' : ∀ k : Nat, k < 19 → w.cell? ⟨B, off + k, none⟩ = some (.int .i32 (W.getD k 0)) := fun k hk => hcw k _ (by rw [List.getD_eq_getElem?_getD, List.getElem?_eq_getElem (by omega)]; rfl)
  have HCW := Lib.hid hcw'
  have hav : av.oneCell' = true := by obtain ⟨aa, ac, rfl⟩ := nums_lenI ha; rfl
  have HAV := Lib.hid hav; clear hav
  have HA := Lib.hid ha
  have HA2 := Lib.hid ha2
  have HF := Lib.hid hf
  have H32 := Lib.hid h32
  have hcaps := nums_caps hW
  rw [h19] at hcaps
  obtain ⟨_, hwc, hwc2⟩ := hcaps
  have HH19 := Lib.hid h19
  clear hcw hcw' ha ha2 hf h32 hc hW h19
  unfold mv
  obtain ⟨w3, hw3⟩ : ∃ x, x = ((w.alloc (.cells #[.int .i64 m.op, .int .i64 m.d, .int .i64 m.e, .int .i64 m.a, .int .i64 m.b, .int .i64 m.c, .int .i32 m.imm, av] 46)).alloc (.cells #[.int .i64 0, .int .i32 0, .slice none 0 0, .slice none 0 0, .int .i64 0] 42)).alloc (.cells #[.int .i64 0, .int .i64 16, .int .i64 20, .slice none 0 0] 24) := ⟨_, rfl⟩
  have hs3 : Since w w3 := by rw [hw3]; exact (((Since.refl w).alloc _).alloc _).alloc _
  have hz3 : w3.heap.size = w.heap.size + 3 := by rw [hw3]; simp
  have hb1 : HeapIs w3 w.heap.size #[.int .i64 m.op, .int .i64 m.d, .int .i64 m.e, .int .i64 m.a, .int .i64 m.b, .int .i64 m.c, .int .i32 m.imm, av] 46 := by rw [hw3]; exact ((HeapIs.new _ _ _).keep ((Since.refl _).alloc _)).keep ((Since.refl _).alloc _)
  have hb2 : HeapIs w3 (w.heap.size + 1) #[.int .i64 0, .int .i32 0, .slice none 0 0, .slice none 0 0, .int .i64 0] 42 := by
    rw [hw3]
    have := HeapIs.new (w.alloc (.cells #[.int .i64 m.op, .int .i64 m.d, .int .i64 m.e, .int .i64 m.a, .int .i64 m.b, .int .i64 m.c, .int .i32 m.imm, av] 46)) #[.int .i64 0, .int .i32 0, .slice none 0 0, .slice none 0 0, .int .i64 0] 42
    rw [show (w.alloc (.cells #[.int .i64 m.op, .int .i64 m.d, .int .i64 m.e, .int .i64 m.a, .int .i64 m.b, .int .i64 m.c, .int .i32 m.imm, av] 46)).heap.size = w.heap.size + 1 from by simp] at this
    exact this.keep ((Since.refl _).alloc _)
  have hb3 : HeapIs w3 (w.heap.size + 2) #[.int .i64 0, .int .i64 16, .int .i64 20, .slice none 0 0] 24 := by
    rw [hw3]
    have := HeapIs.new ((w.alloc (.cells #[.int .i64 m.op, .int .i64 m.d, .int .i64 m.e, .int .i64 m.a, .int .i64 m.b, .int .i64 m.c, .int .i32 m.imm, av] 46)).alloc (.cells #[.int .i64 0, .int .i32 0, .slice none 0 0, .slice none 0 0, .int .i64 0] 42)) #[.int .i64 0, .int .i64 16, .int .i64 20, .slice none 0 0] 24
    rw [show ((w.alloc (.cells #[.int .i64 m.op, .int .i64 m.d, .int .i64 m.e, .int .i64 m.a, .int .i64 m.b, .int .i64 m.c, .int .i32 m.imm, av] 46)).alloc (.cells #[.int .i64 0, .int .i32 0, .slice none 0 0, .slice none 0 0, .int .i64 0] 42)).heap.size = w.heap.size + 2 from by simp] at this
    exact this
  have HS3 := Lib.hid hs3
  have HZ3 := Lib.hid hz3
  have HB1 := Lib.hid hb1
  have HB2 := Lib.hid hb2
  have HB3 := Lib.hid hb3
  clear hs3 hz3 hb1 hb2 hb3
  go_enter Try.func21, Try.ntmps21
  go_wp2_with fail
  rw [← hw3, show w.heap.size + 1 + 1 + 1 = w3.heap.size from by rw [HZ3.out]]
  clear hw3
  have hst := Bk.start w3
  unfold pbV at hst
  go_loopw [7] (fun i wr => ∃ k : Nat, k ≤ 3 ∧ i = .int .i64 k ∧ ∃ v, Bk w3 v (pre3 W k) wr) (fun i _ => 3 - (intOf i).toNat)
  case atStart => exact ⟨0, by decide, rfl, _, hst⟩
  case round =>
    obtain ⟨k, hk, rfl, v, hbk⟩ := hrel
    obtain ⟨va, vc, hv⟩ := hbk.shape
    rw [pre3_len] at hv
    subst hv
    have HK := Lib.hid hbk
    clear hbk
    by_cases hlt : k < 3
    · obtain ⟨x, hx⟩ : ∃ x, W.getD (16 + k) 0 = x := ⟨_, rfl⟩
      have hcx := HCW.out (16 + k) (by omega)
      rw [hx] at hcx
      have hcx := Lib.hid hcx
      have HX := Lib.hid hx
      clear hx
      go_wp2_with fail
      refine wp_region_since_tail 14 rfl (by decide +kernel) (by decide +kernel) (by decide +kernel) (by decide)
        [Is (.pointer (some ⟨w3.heap.size, 0, none⟩)), Is (.slice va (2 * k : Nat) vc), Is (.slice (some ⟨B, off, none⟩) 19 wc), Is (.int .i64 k), Is (.int .i64 (16 + (k : Int))), Is (.pointer (some ⟨B, off + (16 + k), none⟩)), Is (.int .i32 x), Is (.agg #[.int .i64 4, .int .i64 0, .int .i64 0, .int .i64 0, .int .i64 0, .int .i64 0, .int .i32 x, .slice none 0 0]), Is (.agg #[.int .i64 4, .int .i64 0, .int .i64 0, .int .i64 0, .int .i64 0, .int .i64 0, .int .i32 x, .slice none 0 0, .int .i64 0]), Is (.int .i64 k), Is (.int .i32 k), Is (.agg #[.int .i64 31, .int .i64 0, .int .i64 0, .int .i64 0, .int .i64 0, .int .i64 0, .int .i32 k, .slice none 0 0]), Is (.agg #[.int .i64 31, .int .i64 0, .int .i64 0, .int .i64 0, .int .i64 0, .int .i64 0, .int .i32 k, .slice none 0 0, .int .i64 0]), Pls1 [liwAt 0 x, sstAt 0 k]]
        (by repeat (first | exact trivial | refine ⟨Is.stable _, ?_⟩ | refine ⟨Pls1.stable _, ?_⟩)) ⟨?_, ?_, ?_, ?_, ?_, ?_, ?_, ?_, ?_, ?_, ?_, ?_, ?_, ?_, trivial⟩ ?_
      rotate_right
      · intro vs w4 hs hk
        simp only [List.take, List.drop, putAll, Act.put, KnowsAll, nthF, Is, List.setIfInBounds_toArray, List.set_cons_zero, List.set_cons_succ, Nat.reduceAdd] at hk ⊢
        try simp only [hk]
        obtain ⟨b1, hb1, hb2⟩ := hk.2.2.2.2.2.2.2.2.2.2.2.2.2.1
        simp only [hb1]
        have HSN := Lib.hid hs
        have HB2' := Lib.hid hb2
        clear hs hk hb1 hb2
        refine wpList_append_list (base := w3.heap.size) plcells 9 plcells_len (by decide) rfl _ _ 54 rfl 58 placedZ 88 Try.underlying54 Try.infoPlaced rfl (.slice va (2 * k) vc) (pre3 W k) [liwAt 0 x, sstAt 0 k] b1 2 58 rfl rfl (HK.out.keep HSN.out).2.2 HB2'.out (by simp [plcells, liwAt, sstAt, Value.oneCell']) (by rw [pre3_len]; show _ + 2 ≤ _; unfold maxLen; omega) (by rw [pre3_len]; show (_ + 2) * 88 ≤ _; omega) (HK.out.keep HSN.out).1.size ?_
        intro v2 w5 hown2 ht2
        obtain ⟨a2, c2, hv2⟩ := own_shape hown2
        rw [List.length_append, pre3_len] at hv2
        subst hv2
        have hg := (HK.out.keep HSN.out).grow hown2 ht2
        have hc := hg.cell
        have hfz := hg.2.1.frozen
        have hl := hg.lt
        have HG := Lib.hid hg
        clear hg hown2 ht2
        go_wp2
        go_roundw
        case rel =>
          have hfin := HG.out.set
          rw [show pre3 W k ++ [liwAt 0 x, sstAt 0 k] = pre3 W (k + 1) from by rw [pre3_succ, HX.out]] at hfin
          exact ⟨k + 1, by omega, by go_num, _, hfin⟩
        case measure => simp [intOf]; omega
      all_goals
        intro vs w4 hs hk _
        simp only [List.take, putAll, Act.put, Knows, nthF, Is, List.setIfInBounds_toArray, List.set_cons_zero, List.set_cons_succ, Nat.reduceAdd] at hk ⊢
        try simp only [hk]
      · go_wp2
        exact ⟨_, rfl, rfl, Since.refl _⟩
      · have hc := (HK.out.keep hs).cell
        have hl := (HK.out.keep hs).lt
        go_wp2
        exact ⟨_, rfl, rfl, Since.refl _⟩
      · go_wp2
        exact ⟨_, rfl, rfl, Since.refl _⟩
      · go_wp2
        exact ⟨_, rfl, rfl, Since.refl _⟩
      · go_wp2
        exact ⟨_, rfl, rfl, Since.refl _⟩
      · go_wp2
        exact ⟨_, rfl, (by show Value.pointer _ = _; simp [go_sem]; try omega), Since.refl _⟩
      · have hc := (((HS3.out.trans HK.out.1).trans hs).cell (p := ⟨B, off + (16 + k), none⟩) hB).trans hcx.out
        have hl := Nat.lt_of_lt_of_le hB ((HS3.out.trans HK.out.1).trans hs).size
        go_wp2
        exact ⟨_, rfl, rfl, Since.refl _⟩
      · go_wp2
        exact ⟨_, rfl, rfl, Since.refl _⟩
      · go_wp2
        exact ⟨_, rfl, rfl, Since.refl _⟩
      · go_wp2
        exact ⟨_, rfl, rfl, Since.refl _⟩
      · go_wp2
        exact ⟨_, rfl, rfl, Since.refl _⟩
      · go_wp2
        exact ⟨_, rfl, rfl, Since.refl _⟩
      · go_wp2
        exact ⟨_, rfl, rfl, Since.refl _⟩
      · go_wp2
        exact ⟨_, rfl, ⟨_, rfl, HeapIs.new _ _ _⟩, (Since.refl _).alloc _⟩
    · obtain rfl : k = 3 := by omega
      rw [show ((3 : Nat) : Int) = 3 from rfl]
      obtain ⟨P, hP⟩ : ∃ Z, Z = pre3 W 3 := ⟨_, rfl⟩
      have hPl : P.length = 6 := by rw [hP]; simp [pre3_len, *]
      rw [← hP] at HK
      have HP := Lib.hid hP
      clear hP hlt hk
      obtain ⟨wrP, hw4⟩ : ∃ x, x = wr := ⟨_, rfl⟩
      subst hw4
      have hst2 := HK.out
      rw [show P = P ++ lws W 0 from (List.append_nil P).symm] at hst2
      clear HK
      go_wp2_with fail
      go_loopw [8] (fun i wr => ∃ k : Nat, k ≤ 16 ∧ i = .int .i64 k ∧ ∃ v, Bk w3 v (P ++ lws W k) wr) (fun i _ => 16 - (intOf i).toNat)
      case atStart => exact ⟨0, by decide, rfl, _, hst2⟩
      case round =>
        obtain ⟨k, hk, rfl, v, hbk⟩ := hrel
        obtain ⟨va, vc, hv⟩ := hbk.shape
        rw [List.length_append, lws_len, hPl] at hv
        subst hv
        have HK := Lib.hid hbk
        clear hbk
        by_cases hlt : k < 16
        · obtain ⟨x, hx⟩ : ∃ x, W.getD k 0 = x := ⟨_, rfl⟩
          have hcx := HCW.out k (by omega)
          rw [hx] at hcx
          have hcx := Lib.hid hcx
          have HX := Lib.hid hx
          clear hx
          go_wp2_with fail
          refine wp_region_since_tail 10 rfl (by decide +kernel) (by decide +kernel) (by decide +kernel) (by decide)
            [Is (.pointer (some ⟨w3.heap.size, 0, none⟩)), Is (.slice va (6 + k : Nat) vc), Is (.int .i64 k), Is (.slice (some ⟨B, off, none⟩) 19 wc), Is (.int .i64 k), Is (.pointer (some ⟨B, off + k, none⟩)), Is (.int .i32 x), Is (.agg #[.int .i64 4, .int .i64 k, .int .i64 0, .int .i64 0, .int .i64 0, .int .i64 0, .int .i32 x, .slice none 0 0]), Is (.agg #[.int .i64 4, .int .i64 k, .int .i64 0, .int .i64 0, .int .i64 0, .int .i64 0, .int .i32 x, .slice none 0 0, .int .i64 0]), Pls1 [liwAt k x]]
            (by repeat (first | exact trivial | refine ⟨Is.stable _, ?_⟩ | refine ⟨Pls1.stable _, ?_⟩)) ⟨?_, ?_, ?_, ?_, ?_, ?_, ?_, ?_, ?_, ?_, trivial⟩ ?_
          rotate_right
          · intro vs w4 hs hk
            simp only [List.take, List.drop, putAll, Act.put, KnowsAll, nthF, Is, List.setIfInBounds_toArray, List.set_cons_zero, List.set_cons_succ, Nat.reduceAdd] at hk ⊢
            try simp only [hk]
            obtain ⟨b1, hb1, hb2⟩ := hk.2.2.2.2.2.2.2.2.2.1
            simp only [hb1]
            have HSN := Lib.hid hs
            have HB2' := Lib.hid hb2
            clear hs hk hb1 hb2
            refine wpList_append_turn (base := w3.heap.size) plcells 9 plcells_len (by decide) rfl _ _ 54 rfl 58 placedZ 88 Try.underlying54 Try.infoPlaced rfl (.slice va (6 + k) vc) (P ++ lws W k) (liwAt k x) b1 1 58 rfl rfl (HK.out.keep HSN.out).2.2 HB2'.out (by simp [plcells, liwAt, Value.oneCell']) (by rw [List.length_append, lws_len, hPl]; unfold maxLen; omega) (by rw [List.length_append, lws_len, hPl]; omega) (HK.out.keep HSN.out).1.size ?_
            intro v2 w5 hown2 ht2
            obtain ⟨a2, c2, hv2⟩ := own_shape hown2
            rw [List.length_append, List.length_append, lws_len, hPl] at hv2
            subst hv2
            have hg := (HK.out.keep HSN.out).grow hown2 ht2
            have hc := hg.cell
            have hfz := hg.2.1.frozen
            have hl := hg.lt
            have HG := Lib.hid hg
            clear hg hown2 ht2
            go_wp2
            go_roundw
            case rel =>
              have hfin := HG.out.set
              rw [show (P ++ lws W k) ++ [liwAt k x] = P ++ lws W (k + 1) from by rw [lws_succ, HX.out, List.append_assoc]] at hfin
              exact ⟨k + 1, by omega, by go_num, _, hfin⟩
            case measure => simp [intOf]; omega
          all_goals
            intro vs w4 hs hk _
            simp only [List.take, putAll, Act.put, Knows, nthF, Is, List.setIfInBounds_toArray, List.set_cons_zero, List.set_cons_succ, Nat.reduceAdd] at hk ⊢
            try simp only [hk]
          · go_wp2
            exact ⟨_, rfl, rfl, Since.refl _⟩
          · have hc := (HK.out.keep hs).cell
            have hl := (HK.out.keep hs).lt
            go_wp2
            exact ⟨_, rfl, rfl, Since.refl _⟩
          · go_wp2
            exact ⟨_, rfl, rfl, Since.refl _⟩
          · go_wp2
            exact ⟨_, rfl, rfl, Since.refl _⟩
          · go_wp2
            exact ⟨_, rfl, rfl, Since.refl _⟩
          · go_wp2
            exact ⟨_, rfl, rfl, Since.refl _⟩
          · have hc := (((HS3.out.trans HK.out.1).trans hs).cell (p := ⟨B, off + k, none⟩) hB).trans hcx.out
            have hl := Nat.lt_of_lt_of_le hB ((HS3.out.trans HK.out.1).trans hs).size
            go_wp2
            exact ⟨_, rfl, rfl, Since.refl _⟩
          · go_wp2
            exact ⟨_, rfl, rfl, Since.refl _⟩
          · go_wp2
            exact ⟨_, rfl, rfl, Since.refl _⟩
          · go_wp2
            exact ⟨_, rfl, ⟨_, rfl, HeapIs.new _ _ _⟩, (Since.refl _).alloc _⟩
        · obtain rfl : k = 16 := by omega
          rw [show ((16 : Nat) : Int) = 16 from rfl]
          obtain ⟨Q, hP⟩ : ∃ Z, Z = P ++ lws W 16 := ⟨_, rfl⟩
          have hPl : Q.length = 22 := by rw [hP]; simp [lws_len, *]
          rw [← hP] at HK
          have HQ := Lib.hid hP
          clear hP hlt hk
          obtain ⟨wrQ, hw4⟩ : ∃ x, x = wr := ⟨_, rfl⟩
          subst hw4
          have hcE := HK.out.cell
          have hlE := HK.out.lt
          have k0 : wrQ.cell? ⟨w.heap.size, 0, none⟩ = some (.int .i64 m.op) := (HB1.out.keep HK.out.1).cell 0
          have k1 : wrQ.cell? ⟨w.heap.size, 1, none⟩ = some (.int .i64 m.d) := (HB1.out.keep HK.out.1).cell 1
          have k2 : wrQ.cell? ⟨w.heap.size, 2, none⟩ = some (.int .i64 m.e) := (HB1.out.keep HK.out.1).cell 2
          have k3 : wrQ.cell? ⟨w.heap.size, 3, none⟩ = some (.int .i64 m.a) := (HB1.out.keep HK.out.1).cell 3
          have k4 : wrQ.cell? ⟨w.heap.size, 4, none⟩ = some (.int .i64 m.b) := (HB1.out.keep HK.out.1).cell 4
          have k5 : wrQ.cell? ⟨w.heap.size, 5, none⟩ = some (.int .i64 m.c) := (HB1.out.keep HK.out.1).cell 5
          have k6 : wrQ.cell? ⟨w.heap.size, 6, none⟩ = some (.int .i32 m.imm) := (HB1.out.keep HK.out.1).cell 6
          have k7 : wrQ.cell? ⟨w.heap.size, 7, none⟩ = some av := (HB1.out.keep HK.out.1).cell 7
          have hlM := (HB1.out.keep HK.out.1).lt
          have HPN := Lib.hid (HeapIs.new wrQ #[.int .i64 m.op, .int .i64 m.d, .int .i64 m.e, .int .i64 m.a, .int .i64 m.b, .int .i64 m.c, .int .i32 m.imm, av, .int .i64 0] 58)
          go_wp2_with (at_builtin; go_loud (refine wpList_append_turn (base := w3.heap.size) plcells 9 plcells_len (by decide) rfl _ _ 54 rfl 58 placedZ 88 Try.underlying54 Try.infoPlaced rfl (.slice va (6 + 16) vc) (Q) (⟨m, av, 0⟩ : PlV) wrQ.heap.size 1 58 rfl rfl (HK.out.keep ((Since.refl wrQ).alloc (.cells #[.int .i64 m.op, .int .i64 m.d, .int .i64 m.e, .int .i64 m.a, .int .i64 m.b, .int .i64 m.c, .int .i32 m.imm, av, .int .i64 0] 58))).2.2 HPN.out (one_cells HAV.out) (by rw [hPl]; unfold maxLen; omega) (by rw [hPl]; omega) (HK.out.keep ((Since.refl wrQ).alloc (.cells #[.int .i64 m.op, .int .i64 m.d, .int .i64 m.e, .int .i64 m.a, .int .i64 m.b, .int .i64 m.c, .int .i32 m.imm, av, .int .i64 0] 58))).1.size ?_); intro v2 w5 hown2 ht2; obtain ⟨a2, c2, hv2⟩ := own_shape hown2; rw [List.length_append, hPl] at hv2; subst hv2; have hg := (HK.out.keep ((Since.refl wrQ).alloc (.cells #[.int .i64 m.op, .int .i64 m.d, .int .i64 m.e, .int .i64 m.a, .int .i64 m.b, .int .i64 m.c, .int .i32 m.imm, av, .int .i64 0] 58))).grow hown2 ht2; have hc := hg.cell; have hfz := hg.2.1.frozen; have hl := hg.lt; have HG := Lib.hid hg; clear hg hown2 ht2; clear hcE hlE)
          clear k0 k1 k2 k3 k4 k5 k6 k7 hlM
          have hst3 := HG.out.set
          obtain ⟨R, hP⟩ : ∃ Z, Z = Q ++ [(⟨m, av, 0⟩ : PlV)] := ⟨_, rfl⟩
          have hPl : R.length = 23 := by rw [hP]; simp [*]
          rw [← hP] at hst3
          have HR := Lib.hid hP
          clear hP HK HG HPN
          rw [show R = R ++ sufAk 0 from (List.append_nil R).symm] at hst3
          go_loopw [9] (fun i wr => ∃ k : Nat, k ≤ 16 ∧ i = .int .i64 k ∧ ∃ v, Bk w3 v (R ++ sufAk k) wr) (fun i _ => 16 - (intOf i).toNat)
          case atStart => exact ⟨0, by decide, rfl, _, hst3⟩
          case round =>
            obtain ⟨k, hk, rfl, v, hbk⟩ := hrel
            obtain ⟨va, vc, hv⟩ := hbk.shape
            rw [List.length_append, sufAk_len, hPl] at hv
            subst hv
            have HK := Lib.hid hbk
            clear hbk
            by_cases hlt : k < 16
            · have hcE := HK.out.cell
              have hlE := HK.out.lt
              have HPN := Lib.hid (HeapIs.new wr #[.int .i64 31, .int .i64 0, .int .i64 0, .int .i64 k, .int .i64 0, .int .i64 0, .int .i32 (3 + (k : Int)), .slice none 0 0, .int .i64 0] 58)
              go_wp2_with (at_builtin; go_loud (refine wpList_append_turn (base := w3.heap.size) plcells 9 plcells_len (by decide) rfl _ _ 54 rfl 58 placedZ 88 Try.underlying54 Try.infoPlaced rfl (.slice va (23 + k) vc) (R ++ sufAk k) (sstAt k (3 + (k : Int))) wr.heap.size 1 58 rfl rfl (HK.out.keep ((Since.refl wr).alloc (.cells #[.int .i64 31, .int .i64 0, .int .i64 0, .int .i64 k, .int .i64 0, .int .i64 0, .int .i32 (3 + (k : Int)), .slice none 0 0, .int .i64 0] 58))).2.2 HPN.out (by simp [plcells, sstAt, Value.oneCell']) (by rw [List.length_append, sufAk_len, hPl]; unfold maxLen; omega) (by rw [List.length_append, sufAk_len, hPl]; omega) (HK.out.keep ((Since.refl wr).alloc (.cells #[.int .i64 31, .int .i64 0, .int .i64 0, .int .i64 k, .int .i64 0, .int .i64 0, .int .i32 (3 + (k : Int)), .slice none 0 0, .int .i64 0] 58))).1.size ?_); intro v2 w5 hown2 ht2; obtain ⟨a2, c2, hv2⟩ := own_shape hown2; rw [List.length_append, List.length_append, sufAk_len, hPl] at hv2; subst hv2; have hg := (HK.out.keep ((Since.refl wr).alloc (.cells #[.int .i64 31, .int .i64 0, .int .i64 0, .int .i64 k, .int .i64 0, .int .i64 0, .int .i32 (3 + (k : Int)), .slice none 0 0, .int .i64 0] 58))).grow hown2 ht2; have hc := hg.cell; have hfz := hg.2.1.frozen; have hl := hg.lt; have HG := Lib.hid hg; clear hg hown2 ht2; clear hcE hlE)
              go_wp2
              go_roundw
              case rel =>
                have hfin := HG.out.set
                rw [show (R ++ sufAk k) ++ [sstAt k (3 + (k : Int))] = R ++ sufAk (k + 1) from by rw [sufAk_succ, List.append_assoc]] at hfin
                exact ⟨k + 1, by omega, by go_num, _, hfin⟩
              case measure => simp [intOf]; omega
            · obtain rfl : k = 16 := by omega
              rw [show ((16 : Nat) : Int) = 16 from rfl]
              obtain ⟨S, hP⟩ : ∃ Z, Z = R ++ sufAk 16 := ⟨_, rfl⟩
              have hPl : S.length = 39 := by rw [hP]; simp [sufAk_len, *]
              rw [← hP] at HK
              have HS := Lib.hid hP
              clear hP hlt hk
              obtain ⟨wrS, hw4⟩ : ∃ x, x = wr := ⟨_, rfl⟩
              subst hw4
              have hcE := HK.out.cell
              have hlE := HK.out.lt
              have HPN := Lib.hid (HeapIs.new wrS #[.int .i64 3, .int .i64 0, .int .i64 0, .int .i64 0, .int .i64 0, .int .i64 0, .int .i32 0, .slice none 0 0, .int .i64 0] 58)
              go_wp2_with (at_builtin; go_loud (refine wpList_append_turn (base := w3.heap.size) plcells 9 plcells_len (by decide) rfl _ _ 54 rfl 58 placedZ 88 Try.underlying54 Try.infoPlaced rfl (.slice va (23 + 16) vc) (S) liAt wrS.heap.size 1 58 rfl rfl (HK.out.keep ((Since.refl wrS).alloc (.cells #[.int .i64 3, .int .i64 0, .int .i64 0, .int .i64 0, .int .i64 0, .int .i64 0, .int .i32 0, .slice none 0 0, .int .i64 0] 58))).2.2 HPN.out (by simp [plcells, liAt, Value.oneCell']) (by rw [hPl]; unfold maxLen; omega) (by rw [hPl]; omega) (HK.out.keep ((Since.refl wrS).alloc (.cells #[.int .i64 3, .int .i64 0, .int .i64 0, .int .i64 0, .int .i64 0, .int .i64 0, .int .i32 0, .slice none 0 0, .int .i64 0] 58))).1.size ?_); intro v2 w5 hown2 ht2; obtain ⟨a2, c2, hv2⟩ := own_shape hown2; rw [List.length_append, hPl] at hv2; subst hv2; have hg := (HK.out.keep ((Since.refl wrS).alloc (.cells #[.int .i64 3, .int .i64 0, .int .i64 0, .int .i64 0, .int .i64 0, .int .i64 0, .int .i32 0, .slice none 0 0, .int .i64 0] 58))).grow hown2 ht2; have hc := hg.cell; have hfz := hg.2.1.frozen; have hl := hg.lt; have HG := Lib.hid hg; clear hg hown2 ht2; clear hcE hlE)
              have hst4 := HG.out.set
              obtain ⟨T, hP⟩ : ∃ Z, Z = S ++ [liAt] := ⟨_, rfl⟩
              have hPl : T.length = 40 := by rw [hP]; simp [*]
              rw [← hP] at hst4
              have HT := Lib.hid hP
              clear hP HK HG HPN
              rw [show T = T ++ sufB 0 from (List.append_nil T).symm] at hst4
              go_loopw [10] (fun i wr => ∃ k : Nat, k ≤ 19 ∧ i = .int .i64 k ∧ ∃ v, Bk w3 v (T ++ sufB k) wr) (fun i _ => 19 - (intOf i).toNat)
              case atStart => exact ⟨0, by decide, rfl, _, hst4⟩
              case round =>
                obtain ⟨k, hk, rfl, v, hbk⟩ := hrel
                obtain ⟨va, vc, hv⟩ := hbk.shape
                rw [List.length_append, sufB_len, hPl] at hv
                subst hv
                have HK := Lib.hid hbk
                clear hbk
                by_cases hlt : k < 19
                · by_cases c16 : 16 ≤ k
                  · have HE2 := Lib.hid (show slotOf k = (k : Int) - 16 by unfold slotOf; rw [if_pos c16])
                    have c16' : (16 : Int) ≤ (k : Int) := by omega
                    have hcE := HK.out.cell
                    have hlE := HK.out.lt
                    have HPN := Lib.hid (HeapIs.new wr #[.int .i64 30, .int .i64 1, .int .i64 0, .int .i64 0, .int .i64 0, .int .i64 0, .int .i32 ((k : Int) - 16), .slice none 0 0, .int .i64 0, .int .i64 26, .int .i64 0, .int .i64 0, .int .i64 0, .int .i64 1, .int .i64 0, .int .i32 k, .slice none 0 0, .int .i64 0] 58)
                    go_wp2_with (at_builtin; go_loud (refine wpList_append_list (base := w3.heap.size) plcells 9 plcells_len (by decide) rfl _ _ 54 rfl 58 placedZ 88 Try.underlying54 Try.infoPlaced rfl (.slice va (40 + 2 * k) vc) (T ++ sufB k) [sldAt 1 ((k : Int) - 16), mstAt 1 k] wr.heap.size 2 58 rfl rfl (HK.out.keep ((Since.refl wr).alloc (.cells #[.int .i64 30, .int .i64 1, .int .i64 0, .int .i64 0, .int .i64 0, .int .i64 0, .int .i32 ((k : Int) - 16), .slice none 0 0, .int .i64 0, .int .i64 26, .int .i64 0, .int .i64 0, .int .i64 0, .int .i64 1, .int .i64 0, .int .i32 k, .slice none 0 0, .int .i64 0] 58))).2.2 HPN.out (by simp [plcells, sldAt, mstAt, Value.oneCell']) (by rw [List.length_append, sufB_len, hPl]; show _ + 2 ≤ _; unfold maxLen; omega) (by rw [List.length_append, sufB_len, hPl]; show (_ + 2) * 88 ≤ _; omega) (HK.out.keep ((Since.refl wr).alloc (.cells #[.int .i64 30, .int .i64 1, .int .i64 0, .int .i64 0, .int .i64 0, .int .i64 0, .int .i32 ((k : Int) - 16), .slice none 0 0, .int .i64 0, .int .i64 26, .int .i64 0, .int .i64 0, .int .i64 0, .int .i64 1, .int .i64 0, .int .i32 k, .slice none 0 0, .int .i64 0] 58))).1.size ?_); intro v2 w5 hown2 ht2; obtain ⟨a2, c2, hv2⟩ := own_shape hown2; rw [List.length_append, List.length_append, sufB_len, hPl] at hv2; subst hv2; have hg := (HK.out.keep ((Since.refl wr).alloc (.cells #[.int .i64 30, .int .i64 1, .int .i64 0, .int .i64 0, .int .i64 0, .int .i64 0, .int .i32 ((k : Int) - 16), .slice none 0 0, .int .i64 0, .int .i64 26, .int .i64 0, .int .i64 0, .int .i64 0, .int .i64 1, .int .i64 0, .int .i32 k, .slice none 0 0, .int .i64 0] 58))).grow hown2 ht2; have hc := hg.cell; have hfz := hg.2.1.frozen; have hl := hg.lt; have HG := Lib.hid hg; clear hg hown2 ht2; clear hcE hlE)
                    go_wp2
                    go_roundw
                    case rel =>
                      have hfin := HG.out.set
                      rw [show (T ++ sufB k) ++ [sldAt 1 ((k : Int) - 16), mstAt 1 k] = T ++ sufB (k + 1) from by rw [sufB_succ, HE2.out, List.append_assoc]] at hfin
                      exact ⟨k + 1, by omega, by go_num, _, hfin⟩
                    case measure => simp [intOf]; omega
                  · have HE2 := Lib.hid (show slotOf k = 3 + (k : Int) by unfold slotOf; rw [if_neg c16])
                    have c16' : (k : Int) < 16 := by omega
                    have hcE := HK.out.cell
                    have hlE := HK.out.lt
                    have HPN := Lib.hid (HeapIs.new wr #[.int .i64 30, .int .i64 1, .int .i64 0, .int .i64 0, .int .i64 0, .int .i64 0, .int .i32 (3 + (k : Int)), .slice none 0 0, .int .i64 0, .int .i64 26, .int .i64 0, .int .i64 0, .int .i64 0, .int .i64 1, .int .i64 0, .int .i32 k, .slice none 0 0, .int .i64 0] 58)
                    go_wp2_with (at_builtin; go_loud (refine wpList_append_list (base := w3.heap.size) plcells 9 plcells_len (by decide) rfl _ _ 54 rfl 58 placedZ 88 Try.underlying54 Try.infoPlaced rfl (.slice va (40 + 2 * k) vc) (T ++ sufB k) [sldAt 1 (3 + (k : Int)), mstAt 1 k] wr.heap.size 2 58 rfl rfl (HK.out.keep ((Since.refl wr).alloc (.cells #[.int .i64 30, .int .i64 1, .int .i64 0, .int .i64 0, .int .i64 0, .int .i64 0, .int .i32 (3 + (k : Int)), .slice none 0 0, .int .i64 0, .int .i64 26, .int .i64 0, .int .i64 0, .int .i64 0, .int .i64 1, .int .i64 0, .int .i32 k, .slice none 0 0, .int .i64 0] 58))).2.2 HPN.out (by simp [plcells, sldAt, mstAt, Value.oneCell']) (by rw [List.length_append, sufB_len, hPl]; show _ + 2 ≤ _; unfold maxLen; omega) (by rw [List.length_append, sufB_len, hPl]; show (_ + 2) * 88 ≤ _; omega) (HK.out.keep ((Since.refl wr).alloc (.cells #[.int .i64 30, .int .i64 1, .int .i64 0, .int .i64 0, .int .i64 0, .int .i64 0, .int .i32 (3 + (k : Int)), .slice none 0 0, .int .i64 0, .int .i64 26, .int .i64 0, .int .i64 0, .int .i64 0, .int .i64 1, .int .i64 0, .int .i32 k, .slice none 0 0, .int .i64 0] 58))).1.size ?_); intro v2 w5 hown2 ht2; obtain ⟨a2, c2, hv2⟩ := own_shape hown2; rw [List.length_append, List.length_append, sufB_len, hPl] at hv2; subst hv2; have hg := (HK.out.keep ((Since.refl wr).alloc (.cells #[.int .i64 30, .int .i64 1, .int .i64 0, .int .i64 0, .int .i64 0, .int .i64 0, .int .i32 (3 + (k : Int)), .slice none 0 0, .int .i64 0, .int .i64 26, .int .i64 0, .int .i64 0, .int .i64 0, .int .i64 1, .int .i64 0, .int .i32 k, .slice none 0 0, .int .i64 0] 58))).grow hown2 ht2; have hc := hg.cell; have hfz := hg.2.1.frozen; have hl := hg.lt; have HG := Lib.hid hg; clear hg hown2 ht2; clear hcE hlE)
                    go_wp2
                    go_roundw
                    case rel =>
                      have hfin := HG.out.set
                      rw [show (T ++ sufB k) ++ [sldAt 1 (3 + (k : Int)), mstAt 1 k] = T ++ sufB (k + 1) from by rw [sufB_succ, HE2.out, List.append_assoc]] at hfin
                      exact ⟨k + 1, by omega, by go_num, _, hfin⟩
                    case measure => simp [intOf]; omega
                · obtain rfl : k = 19 := by omega
                  rw [show ((19 : Nat) : Int) = 19 from rfl]
                  obtain ⟨U, hP⟩ : ∃ Z, Z = T ++ sufB 19 := ⟨_, rfl⟩
                  have hPl : U.length = 78 := by rw [hP]; simp [sufB_len, *]
                  rw [← hP] at HK
                  have HU := Lib.hid hP
                  clear hP hlt hk
                  obtain ⟨wrU, hw4⟩ : ∃ x, x = wr := ⟨_, rfl⟩
                  subst hw4
                  obtain ⟨hsU, heU, hoU⟩ := HK.out
                  have k0 : wrU.cell? ⟨w3.heap.size, 0, none⟩ = some (.slice va 78 vc) := heU.cell 0
                  have k1 : wrU.cell? ⟨w3.heap.size, 1, none⟩ = some (.int .i64 7) := heU.cell 1
                  have k2 : wrU.cell? ⟨w3.heap.size, 2, none⟩ = some (.int .i64 (-1)) := heU.cell 2
                  have k3 : wrU.cell? ⟨w3.heap.size, 3, none⟩ = some (.int .i64 0) := heU.cell 3
                  have k4 : wrU.cell? ⟨w3.heap.size, 4, none⟩ = some (.slice none 0 0) := heU.cell 4
                  have k5 : wrU.cell? ⟨w3.heap.size, 5, none⟩ = some (.int .i32 0) := heU.cell 5
                  have hlE := heU.lt
                  have hF := (HB3.out.keep hsU)
                  have hlF : w.heap.size + 1 + 1 < wrU.heap.size := hF.lt
                  have hcF : wrU.cell? ⟨w.heap.size + 1 + 1, 3, none⟩ = some (.slice none 0 0) := hF.cell 3
                  have hzF : ∀ i, wrU.frozen? ⟨w.heap.size + 1 + 1, i, none⟩ = false := hF.frozen
                  have e3 := HZ3.out
                  have e4 := hsU.size
                  obtain ⟨w5, hw5⟩ : ∃ x, x = wrU.setCell ⟨w.heap.size + 1 + 1, 3, none⟩ (.slice (some ⟨wrU.heap.size, 0, none⟩) 1 1) := ⟨_, rfl⟩
                  have t6 : Turn (fun q => q = w.heap.size + 2) wrU w5 := by rw [hw5]; exact (Turn.refl (fun q => q = w.heap.size + 2) wrU).setCell (p := ⟨w.heap.size + 2, 3, none⟩) rfl _
                  have e5 : w5.heap.size = wrU.heap.size := by rw [hw5]; simp
                  obtain ⟨w6, hw6⟩ : ∃ x, x = w5.alloc (.cells #[.slice va 78 vc, .int .i64 7, .int .i64 (-1), .int .i64 0, .slice none 0 0, .int .i32 0] 56) := ⟨_, rfl⟩
                  have hs6 : Since w5 w6 := by rw [hw6]; exact (Since.refl _).alloc _
                  have hF6 : HeapIs w6 (w.heap.size + 2) #[.int .i64 0, .int .i64 16, .int .i64 20, .slice (some ⟨wrU.heap.size, 0, none⟩) 1 1] 24 := by
                    have : HeapIs w5 (w.heap.size + 2) #[.int .i64 0, .int .i64 16, .int .i64 20, .slice (some ⟨wrU.heap.size, 0, none⟩) 1 1] 24 := by rw [hw5]; exact hF.set 3 _
                    exact this.keep hs6
                  have hO6 := ((HB2.out.keep hsU).turn t6 (by omega)).keep hs6
                  have hB6 : HeapIs w6 wrU.heap.size (pbV (.slice va 78 vc)) 56 := by rw [hw6, ← e5]; exact HeapIs.new _ _ _
                  have hR6 : PlRow w3.heap.size w6 (.slice va 78 vc) U := OwnRow.keep (own_turn (v := .slice va 78 vc) hoU t6 fun q hq e => by have := (World.ownsRow.lt hoU q hq).1; omega) hs6
                  have hS6 : Since w w6 := (t6.toSince (HS3.out.trans hsU) (fun q hq e => by omega)).trans hs6
                  have HW5 := Lib.hid hw5
                  have HW6 := Lib.hid hw6
                  have HF6 := Lib.hid hF6
                  have HO6 := Lib.hid hO6
                  have HB6 := Lib.hid hB6
                  have HR6 := Lib.hid hR6
                  have HS6 := Lib.hid hS6
                  clear hsU heU hoU hF e3 e4 HK t6 e5 hs6 hF6 hO6 hB6 hR6 hS6 hw5 hw6
                  go_wp2_with fail
                  rw [← HW5.out, ← HW6.out]
                  clear k0 k1 k2 k3 k4 k5 hlE hlF hcF hzF HW5 HW6
                  have hR6 := HR6.out
                  clear HR6
                  have hUU : U = preL W ++ (⟨m, av, 0⟩ : PlV) :: sufL := by rw [HU.out, HT.out, HS.out, HR.out, HQ.out, HP.out]; exact probe_list W _
                  rw [hUU] at hR6
                  have HR6 := Lib.hid hR6
                  clear hR6 hUU HP HQ HR HS HT HU
                  obtain ⟨ti, hti, hz0, hz1, hz2⟩ := info_parts (P := Try.prog) (e := 21) (z := .int .i32 0) (size := 1) (bytes := 4) (by kernel_rfl)
                  go_wp2_with fail
                  refine wp_region_since_tail 5 rfl (by decide +kernel) (by decide +kernel) (by decide +kernel) (by decide)
                    [Is (.agg #[.int .i64 0, .int .i64 16, .int .i64 20, .slice (some ⟨wrU.heap.size, 0, none⟩) 1 1]), ZeroRow w6 19, IsNums .i32 [77], ProbeIn, ProbeV m av W w6]
                    (by repeat (first | exact trivial | refine ⟨Is.stable _, ?_⟩ | refine ⟨ZeroRow.stable _ _, ?_⟩ | refine ⟨IsNums.stable _ _, ?_⟩ | refine ⟨ProbeIn.stable, ?_⟩ | refine ⟨ProbeV.stable _ _ _ _, ?_⟩)) ⟨?_, ?_, ?_, ?_, ?_, trivial⟩ ?_
                  rotate_right
                  · intro vs w7 hs hk
                    simp only [List.take, List.drop, putAll, Act.put, KnowsAll, nthF, Is, List.setIfInBounds_toArray, List.set_cons_zero, List.set_cons_succ, Nat.reduceAdd] at hk ⊢
                    try simp only [hk]
                    obtain ⟨base, x1, x2, x3, x4, hb6, hout⟩ := hk.2.2.2.2.1
                    obtain ⟨a8, c8, g8, n8, d8, hv⟩ := hout.shape
                    simp only [hv]
                    rw [hv] at hout
                    obtain ⟨o, ho⟩ : ∃ o, o = probeRun m av W x1 x2 x3 x4 := ⟨_, rfl⟩
                    rw [← ho] at hout ⊢
                    have HO7 := HO6.out.keep hs
                    have hlO := HO6.out.lt
                    have hlO7 := HO7.lt
                    have hq8 : Since w w7 := HS6.out.trans hs
                    have HQ8 := Lib.hid hq8
                    have HOUT := Lib.hid hout
                    have HOO := Lib.hid ho
                    clear hk hv hout ho hs hq8
                    go_wp2_with (refine wpList_store_row rfl 42 _ _ rfl (w.heap.size + 1) #[.int .i64 o.e, .int .i32 o.v, .slice a8 o.mem.length c8, .slice g8 n8 d8, .int .i64 o.steps] rfl rfl 42 _ HO7 (by kernel_rfl) rfl (by rw [← Array.all_toList]; rfl) ?_)
                    have hb8 : HeapIs (w7.setRow (w.heap.size + 1) #[.int .i64 o.e, .int .i32 o.v, .slice a8 o.mem.length c8, .slice g8 n8 d8, .int .i64 o.steps]) (w.heap.size + 1) #[.int .i64 o.e, .int .i32 o.v, .slice a8 o.mem.length c8, .slice g8 n8 d8, .int .i64 o.steps] 42 := setRow_block HO7 _
                    have hs8 : Since w (w7.setRow (w.heap.size + 1) #[.int .i64 o.e, .int .i32 o.v, .slice a8 o.mem.length c8, .slice g8 n8 d8, .int .i64 o.steps]) := (setRow_turn (S := fun q => q = w.heap.size + 1) rfl _).toSince HQ8.out (fun q hq e => by omega)
                    have ho8 := HOUT.out.setRow (b := w.heap.size + 1) (by omega) #[.int .i64 o.e, .int .i32 o.v, .slice a8 o.mem.length c8, .slice g8 n8 d8, .int .i64 o.steps]
                    generalize w7.setRow (w.heap.size + 1) #[.int .i64 o.e, .int .i32 o.v, .slice a8 o.mem.length c8, .slice g8 n8 d8, .int .i64 o.steps] = w8 at *
                    have c0 := hb8.cell 0
                    have c1 := hb8.cell 1
                    have c2 := hb8.cell 2
                    have c3 := hb8.cell 3
                    have c4 := hb8.cell 4
                    have hl8 := hb8.lt
                    have HS8 := Lib.hid hs8
                    have HO8 := Lib.hid ho8
                    have HB0 := Lib.hid (show w.heap.size ≤ base from by omega)
                    clear hb8 hs8 ho8
                    go_wp2
                    exact bodyPost_ret (v := .agg #[.int .i64 o.e, .int .i32 o.v, .slice a8 o.mem.length c8, .slice g8 n8 d8, .int .i64 o.steps]) (by simp [results, Try.results21, go_sem, c0, c1, c2, c3, c4]) rfl (by
                      refine ⟨_, rfl, ⟨base, x1, x2, x3, x4, HB0.out, ?_⟩, HS8.out⟩
                      rw [← HOO.out]
                      exact HO8.out)
                  all_goals
                    intro vs w7 hs hk _
                    simp only [List.take, putAll, Act.put, Knows, nthF, Is, List.setIfInBounds_toArray, List.set_cons_zero, List.set_cons_succ, Nat.reduceAdd] at hk ⊢
                    try simp only [hk]
                  · have c0 : w7.cell? ⟨w.heap.size + 1 + 1, 0, none⟩ = some (.int .i64 0) := (HF6.out.keep hs).cell 0
                    have c1 : w7.cell? ⟨w.heap.size + 1 + 1, 1, none⟩ = some (.int .i64 16) := (HF6.out.keep hs).cell 1
                    have c2 : w7.cell? ⟨w.heap.size + 1 + 1, 2, none⟩ = some (.int .i64 20) := (HF6.out.keep hs).cell 2
                    have c3 : w7.cell? ⟨w.heap.size + 1 + 1, 3, none⟩ = some (.slice (some ⟨wrU.heap.size, 0, none⟩) 1 1) := (HF6.out.keep hs).cell 3
                    have hl : w.heap.size + 1 + 1 < w7.heap.size := (HF6.out.keep hs).lt
                    go_wp2
                    exact ⟨_, rfl, rfl, Since.refl _⟩
                  · refine wpList_make_full _ rfl (.const (.int .i64 19)) (.const (.int .i64 19)) 34 rfl w7.heap.size 21 ti (.int .i32 0) 1 Try.underlying34 hti hz0 hz1 .i64 .i64 _ _ 19 rfl rfl rfl rfl (by rw [hz2]; decide) (by decide) (Nat.le_refl _) ?_
                    intro w8 hown hgrow
                    obtain ⟨hs2, hz⟩ := made_zeros hown hgrow
                    go_wp2
                    exact ⟨_, rfl, ⟨_, rfl, hz, hs.size⟩, hs2⟩
                  · go_wp2
                    exact ⟨_, rfl, two_new w7 _ .i32 [77] (by show 1 ≤ maxLen; decide), (Since.refl _).alloc _⟩
                  · obtain ⟨⟨b, hb1, hb2, _⟩, h77⟩ : ZeroRow w6 19 _ w7 ∧ Nums .i32 w7 _ [77] := ⟨hk.1, hk.2.1⟩
                    obtain ⟨a7, c7, hv7⟩ := nums_lenI h77
                    have hz := nums_heap (k := .i32) (l := List.replicate 19 0) (T := 21) (by simpa [zeros] using hb2) (by decide)
                    have HZ := Lib.hid hz
                    have H77 := Lib.hid h77
                    rw [hv7] at H77
                    simp only [hb1, hv7]
                    clear hk hb1 hb2 hz h77 hv7
                    go_wp2
                    exact ⟨_, rfl, ⟨_, _, rfl, HZ.out, H77.out⟩, Since.refl _⟩
                  · obtain ⟨a7, b7, hb1, hz7, hn7⟩ : ProbeIn _ w7 := hk.2.1
                    simp only [hb1]
                    have hp := probeP_ok (b := wrU.heap.size) H32.out (HA.out.keep (HS6.out.trans hs)) HF.out (fun q hq => Nat.lt_of_lt_of_le (HA2.out q hq) (HS6.out.trans hs).size) (OwnRow.keep HR6.out hs) (HB6.out.keep hs)
                    have hin : InOk w7 ⟨[], .slice none 0 0, List.replicate 19 0, a7, [77], b7, 200⟩ := ⟨⟨.nil _ _, hz7, hn7⟩, ⟨fun x h => (by cases h), fun x h => by rw [List.eq_of_mem_replicate h]; exact ⟨by decide, by decide⟩, fun x h => by rw [List.mem_singleton.1 h]; exact ⟨by decide, by decide⟩⟩, show (200 : Int) ≤ 1000000 by decide⟩
                    have hrun := run_any _ _ w7 hp hin
                    unfold RunQ pv iv at hrun
                    have HR := Lib.hid hrun
                    have hsz := hs.size
                    clear hp hin hrun hk hb1 hz7 hn7
                    go_wp2_with fail
                    refine HR.out.mono ?_
                    rintro e w10 ⟨v10, rfl, ho10, hs10⟩
                    have HOO := Lib.hid ho10
                    clear ho10
                    go_wp2
                    exact ⟨_, rfl, ⟨_, _, _, _, _, hsz, HOO.out⟩, hs10⟩
end Go.Proofs.Ytkpbmbhejpmboaa
