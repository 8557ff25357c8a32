/- TxShown TxFirstP TxAgainP TxTablesP TxWrongP TxLens TxRead TxRawM -/
import Derived.Test.YtmhojfpidedjeaaDoorDz13
import Derived.OpenShut
namespace Go.Proofs.YtmhojfpidedjeaaDoor
open Go.RowKit
set_option linter.unusedVariables false
def shownD : DFn := ⟨2, [⟨[], [⟨2, 2, 0, [0, 1], 0⟩], ⟨4, [2], [], 0⟩⟩]⟩
def shownL : Bs := [102, 117, 110, 99, 32, 50, 10, 98, 108, 111, 99, 107, 32, 48, 10, 97, 100, 100, 32, 50, 32, 48, 32, 49, 10, 114, 101, 116, 32, 50, 10]
def shownB : ByteArray := ⟨#[102, 117, 110, 99, 32, 50, 10, 98, 108, 111, 99, 107, 32, 48, 10, 97, 100, 100, 32, 50, 32, 48, 32, 49, 10, 114, 101, 116, 32, 50, 10]⟩
theorem shown_text : funcS shownD = shownL := by decide +kernel
theorem shown_parse : parseS shownL = ⟨shownD, 0, 0⟩ := by kernel_rfl
theorem shown_dfn : DFn3 shownD := by
  have h := parsed3 shownL (by decide)
  rw [shown_parse] at h
  exact h
theorem ints_heap {w : World} {b n : Nat} {cs : Array Value} {t : TypeId} (l : List Int) (h : HeapIs w b cs t) (hn : l.length = n) (hm : n ≤ maxLen) (hc : ∀ (j : Nat) (x : Int), l[j]? = some x → cs[j]? = some (.int .i64 x)) : Ints w (.slice (some ⟨b, 0, none⟩) n n) l := by
  subst hn
  exact .inr ⟨b, 0, l.length, rfl, Nat.le_refl _, hm, h.lt, fun j x hj => by rw [Nat.zero_add, h.cell]; exact hc j x hj⟩
theorem row_heap {α : Type} (f : α → List Value) (sz : Nat) (p : World → α → Prop) {w : World} {b : Nat} {cs : Array Value} {t : TypeId} (x : α) (h : HeapIs w b cs t) (hc : ∀ k, k < sz → cs[k]? = (f x)[k]?) (hp : p w x) : RowIn f sz p w (.slice (some ⟨b, 0, none⟩) 1 1) [x] :=
  .inr ⟨b, 0, 1, rfl, Nat.le_refl _, by decide, h.lt, fun j y hj => by
    rcases j with _ | j
    · obtain rfl : x = y := Option.some.inj hj
      refine ⟨fun t ht => ?_, hp⟩
      rw [Nat.zero_mul, Nat.zero_add]
      try rw [Nat.zero_add]
      rw [h.cell]
      exact hc t ht
    · cases hj⟩
def shownF (q : Nat) : FnV := ⟨2, [⟨[], .slice none 0 0, [⟨2, 2, 0, [0, 1], .slice (some ⟨q, 0, none⟩) 2 2, 0⟩], .slice (some ⟨q + 1, 0, none⟩) 1 1, ⟨4, [2], .slice (some ⟨q + 1 + 1, 0, none⟩) 1 1, [], .slice none 0 0, 0⟩⟩], .slice (some ⟨q + 1 + 1 + 1, 0, none⟩) 1 1⟩
theorem shownF_d (q : Nat) : (shownF q).d = shownD := rfl
theorem fnR_of (f : FnV) (h : DFn3 f.d) : FnR f := by
  have k : ∀ {x : Int}, In32W x → In64 x := fun {x} h => ⟨by have := h.1; omega, by have := h.2; omega⟩
  refine ⟨k h.params, fun b hb => ?_⟩
  have hb3 := h.blocks b.d (List.mem_map_of_mem hb)
  refine ⟨fun p hp => ?_, fun i hi => ?_, ?_⟩
  · obtain ⟨h1, h2, _⟩ := hb3.phis p.d (List.mem_map_of_mem hp)
    exact ⟨k h1, fun x hx => ⟨k (h2 x hx).1, k (h2 x hx).2⟩⟩
  · have h1 := hb3.ins i.d (List.mem_map_of_mem hi)
    exact ⟨k h1.op, k h1.dst, k h1.two, fun y hy => k (h1.args.1 y hy), h1.imm⟩
  · have h1 := hb3.term
    exact ⟨k h1.kd, fun y hy => k (h1.ar.1 y hy), fun y hy => k (h1.tg.1 y hy), h1.imm⟩
theorem shownF_r (q : Nat) : FnR (shownF q) := fnR_of _ shown_dfn
theorem shownF_in {w : World} {q : Nat} {T1 T2 T3 T4 : TypeId} (h1 : HeapIs w q #[.int .i64 0, .int .i64 1] T1) (h2 : HeapIs w (q + 1) #[.int .i64 2, .int .i64 2, .int .i64 0, .slice (some ⟨q, 0, none⟩) 2 2, .int .i32 0] T2)
    (h3 : HeapIs w (q + 1 + 1) #[.int .i64 2] T3) (h4 : HeapIs w (q + 1 + 1 + 1) #[.slice none 0 0, .slice (some ⟨q + 1, 0, none⟩) 1 1, .int .i64 4, .slice (some ⟨q + 1 + 1, 0, none⟩) 1 1, .slice none 0 0, .int .i32 0] T4) : FnIn w (shownF q) := by
  refine row_heap fbcells 6 FBlkIn _ h4 (fun k hk => by rw [← Array.getElem?_toList]; rfl) ⟨.inl ⟨none, rfl, rfl⟩, row_heap ficells 5 FInsIn _ h2 (fun k hk => by rw [← Array.getElem?_toList]; rfl) ?_, ?_, .inl ⟨none, rfl, rfl⟩⟩
  · exact ints_heap [0, 1] h1 rfl (by decide) fun j x hj => by
      rcases j with _ | _ | j
      · obtain rfl := Option.some.inj hj; rfl
      · obtain rfl := Option.some.inj hj; rfl
      · cases hj
  · exact ints_heap [2] h3 rfl (by decide) fun j x hj => by
      rcases j with _ | j
      · obtain rfl := Option.some.inj hj; rfl
      · cases hj
theorem shownB_list : shownB.data.toList = shownL := rfl
/-- The example's box, and all that its function needs. -/
def ShownAt (w w5 : World) : Prop := FnIn w5 (shownF w.heap.size) ∧ HeapIs w5 (w.heap.size + 1 + 1 + 1 + 1) #[.int .i64 2, .slice (some ⟨w.heap.size + 1 + 1 + 1, 0, none⟩) 1 1] 28 ∧ Since w w5
theorem shown_at (w : World) : ShownAt w (((((w.alloc (.cells #[.int .i64 0, .int .i64 1] 3)).alloc (.cells #[.int .i64 2, .int .i64 2, .int .i64 0, .slice (some ⟨w.heap.size, 0, none⟩) 2 2, .int .i32 0] 46)).alloc (.cells #[.int .i64 2] 3)).alloc
    (.cells #[.slice none 0 0, .slice (some ⟨w.heap.size + 1, 0, none⟩) 1 1, .int .i64 4, .slice (some ⟨w.heap.size + 1 + 1, 0, none⟩) 1 1, .slice none 0 0, .int .i32 0] 52)).alloc (.cells #[.int .i64 2, .slice (some ⟨w.heap.size + 1 + 1 + 1, 0, none⟩) 1 1] 28)) := by
  have sz : ∀ (u : World) (o : Obj), (u.alloc o).heap.size = u.heap.size + 1 := fun u o => by show (u.heap.push o).size = _; exact Array.size_push _
  have nw : ∀ (u : World) (k : Nat) (cs : Array Value) (T : TypeId), u.heap.size = k → HeapIs (u.alloc (.cells cs T)) k cs T := fun u k cs T h => h ▸ HeapIs.new u cs T
  obtain ⟨q, hq⟩ : ∃ q, w.heap.size = q := ⟨_, rfl⟩
  unfold ShownAt
  rw [hq]
  have m1 := nw w q #[.int .i64 0, .int .i64 1] 3 hq
  have z1 := (sz w (.cells #[.int .i64 0, .int .i64 1] 3)).trans (congrArg (· + 1) hq)
  have s1 : Since w (w.alloc (.cells #[.int .i64 0, .int .i64 1] 3)) := (Since.refl w).alloc _
  generalize w.alloc (.cells #[.int .i64 0, .int .i64 1] 3) = w1 at *
  have m2 := nw w1 (q + 1) #[.int .i64 2, .int .i64 2, .int .i64 0, .slice (some ⟨q, 0, none⟩) 2 2, .int .i32 0] 46 z1
  have z2 := (sz w1 (.cells #[.int .i64 2, .int .i64 2, .int .i64 0, .slice (some ⟨q, 0, none⟩) 2 2, .int .i32 0] 46)).trans (congrArg (· + 1) z1)
  have s2 : Since w1 (w1.alloc (.cells #[.int .i64 2, .int .i64 2, .int .i64 0, .slice (some ⟨q, 0, none⟩) 2 2, .int .i32 0] 46)) := (Since.refl w1).alloc _
  generalize w1.alloc (.cells #[.int .i64 2, .int .i64 2, .int .i64 0, .slice (some ⟨q, 0, none⟩) 2 2, .int .i32 0] 46) = w2 at *
  have m3 := nw w2 (q + 1 + 1) #[.int .i64 2] 3 z2
  have z3 := (sz w2 (.cells #[.int .i64 2] 3)).trans (congrArg (· + 1) z2)
  have s3 : Since w2 (w2.alloc (.cells #[.int .i64 2] 3)) := (Since.refl w2).alloc _
  generalize w2.alloc (.cells #[.int .i64 2] 3) = w3 at *
  have m4 := nw w3 (q + 1 + 1 + 1) #[.slice none 0 0, .slice (some ⟨q + 1, 0, none⟩) 1 1, .int .i64 4, .slice (some ⟨q + 1 + 1, 0, none⟩) 1 1, .slice none 0 0, .int .i32 0] 52 z3
  have z4 := (sz w3 (.cells #[.slice none 0 0, .slice (some ⟨q + 1, 0, none⟩) 1 1, .int .i64 4, .slice (some ⟨q + 1 + 1, 0, none⟩) 1 1, .slice none 0 0, .int .i32 0] 52)).trans (congrArg (· + 1) z3)
  have s4 : Since w3 (w3.alloc (.cells #[.slice none 0 0, .slice (some ⟨q + 1, 0, none⟩) 1 1, .int .i64 4, .slice (some ⟨q + 1 + 1, 0, none⟩) 1 1, .slice none 0 0, .int .i32 0] 52)) := (Since.refl w3).alloc _
  generalize w3.alloc (.cells #[.slice none 0 0, .slice (some ⟨q + 1, 0, none⟩) 1 1, .int .i64 4, .slice (some ⟨q + 1 + 1, 0, none⟩) 1 1, .slice none 0 0, .int .i32 0] 52) = w4 at *
  have m5 := nw w4 (q + 1 + 1 + 1 + 1) #[.int .i64 2, .slice (some ⟨q + 1 + 1 + 1, 0, none⟩) 1 1] 28 z4
  have s5 : Since w4 (w4.alloc (.cells #[.int .i64 2, .slice (some ⟨q + 1 + 1 + 1, 0, none⟩) 1 1] 28)) := (Since.refl w4).alloc _
  exact ⟨shownF_in (m1.keep (((s2.trans s3).trans s4).trans s5)) (m2.keep ((s3.trans s4).trans s5)) (m3.keep (s4.trans s5)) (m4.keep s5), m5, (((s1.trans s2).trans s3).trans s4).trans s5⟩
set_option maxHeartbeats 4000000 in
set_option maxRecDepth 100000 in
theorem shown25_any (w : World) (hL : LaidT w) : Calls Tryd.prog 5 #[] w fun e w' => e = .returned (.bool true) ∧ Since w w' := by
  have HL := Lib.hid hL
  have HA := Lib.hid (shown_at w)
  clear hL
  go_enter Tryd.func5, Tryd.ntmps5
  go_upto_region 3 with fail
  revert HA
  generalize (((((w.alloc (.cells #[.int .i64 0, .int .i64 1] 3)).alloc (.cells #[.int .i64 2, .int .i64 2, .int .i64 0, .slice (some ⟨w.heap.size, 0, none⟩) 2 2, .int .i32 0] 46)).alloc (.cells #[.int .i64 2] 3)).alloc
    (.cells #[.slice none 0 0, .slice (some ⟨w.heap.size + 1, 0, none⟩) 1 1, .int .i64 4, .slice (some ⟨w.heap.size + 1 + 1, 0, none⟩) 1 1, .slice none 0 0, .int .i32 0] 52)).alloc (.cells #[.int .i64 2, .slice (some ⟨w.heap.size + 1 + 1 + 1, 0, none⟩) 1 1] 28)) = w5
  intro HA
  obtain ⟨hf0, hb0, hs0⟩ := HA.out
  have HF0 := Lib.hid hf0
  have HB0 := Lib.hid hb0
  have HS0 := Lib.hid hs0
  clear hf0 hb0 hs0
  generalize w.heap.size = q at *
  clear HA
  go_wp2_with fail
  refine (parse_any shownB w5 (by decide) (HL.out.keep HS0.out)).mono ?_
  rintro e w6 ⟨f, line, er, rfl, hf, hd, hs6⟩
  rw [shownB_list, shown_parse] at hd
  obtain rfl : line = 0 := congrArg PRes.line hd
  obtain rfl : er = 0 := congrArg PRes.e hd
  have HD := Lib.hid (congrArg PRes.f hd)
  have HF := Lib.hid hf
  have HS6 := Lib.hid hs6
  clear hf hd hs6
  obtain ⟨p1, b1, v1⟩ := f
  obtain ⟨a1, c1, e1, _⟩ := RowIn.shape HF.out
  obtain ⟨n1, hn1⟩ : ∃ n, b1.length = n := ⟨_, rfl⟩
  replace e1 : v1 = .slice a1 n1 c1 := by rw [← hn1]; exact e1
  subst e1
  clear hn1
  unfold fv
  dsimp only
  go_upto_region 4 with fail
  have hs7 : Since w6 (w6.alloc (.cells #[.int .i64 p1, .slice a1 n1 c1] 28)) := (Since.refl w6).alloc _
  have hb1 := HeapIs.new w6 #[.int .i64 p1, .slice a1 n1 c1] 28
  obtain ⟨w7, hw7⟩ : ∃ w7, w6.alloc (.cells #[.int .i64 p1, .slice a1 n1 c1] 28) = w7 := ⟨_, rfl⟩
  obtain ⟨q1, hq1⟩ : ∃ q, w6.heap.size = q := ⟨_, rfl⟩
  rw [hw7] at hs7 hb1
  rw [hq1] at hb1
  try rw [hw7]
  try rw [hq1]
  have HB1 := Lib.hid hb1
  have HS7 := Lib.hid hs7
  clear hs7 hb1 hw7 hq1
  have g0 := HB0.out.keep (HS6.out.trans HS7.out)
  have z00 := g0.cell 0
  have z01 := g0.cell 1
  have z0l := g0.lt
  clear g0
  have HT := Lib.hid (text_func (shownF q) w7 (HF0.out.keep (HS6.out.trans HS7.out)) (shownF_r q) ((HL.out.keep HS0.out).keep (HS6.out.trans HS7.out)) (by rw [shownF_d, shown_text]; decide))
  go_wp2_with fail
  refine HT.out.mono ?_
  rintro e w8 ⟨rfl, hs8⟩
  rw [shownF_d, shown_text]
  have HS8 := Lib.hid hs8
  have HC := Lib.hid (same_any (shownF q) ⟨p1, b1, .slice a1 n1 c1⟩ w8 (HF0.out.keep ((HS6.out.trans HS7.out).trans hs8)) (HF.out.keep (HS7.out.trans hs8)) ((shownF_d q).trans HD.out.symm) (fn3_of _ (by rw [shownF_d]; exact shown_dfn)) (fn3_of _ (by rw [HD.out]; exact shown_dfn)) (print3_len _ (by rw [shownF_d]; exact shown_dfn)))
  have g0 := HB0.out.keep ((HS6.out.trans HS7.out).trans hs8)
  have y00 := g0.cell 0
  have y01 := g0.cell 1
  have y0l := g0.lt
  have g1 := HB1.out.keep hs8
  have y10 := g1.cell 0
  have y11 := g1.cell 1
  have y1l := g1.lt
  clear hs8 g0 g1 z00 z01 z0l
  go_wp2_with fail
  refine HC.out.mono ?_
  rintro e w9 ⟨rfl, hs9⟩
  have HS9 := Lib.hid (((HS0.out.trans HS6.out).trans (HS7.out.trans HS8.out)).trans hs9)
  clear hs9
  go_wp2
  go_ret
  exact ⟨rfl, HS9.out⟩
end Go.Proofs.YtmhojfpidedjeaaDoor
namespace Go.Proofs.YtmhojfpidedjeaaDoor
set_option linter.unusedVariables false
theorem spl_nonil (c : UInt8) : ∀ s, spl c s ≠ []
  | [] => by simp [spl]
  | x :: r => by
    rw [spl]
    by_cases h : x = c
    · rw [if_pos h]; simp
    · rw [if_neg h]
      cases hs : spl c r with
      | nil => simp
      | cons a t => simp
theorem spl_cat (c : UInt8) : ∀ (a t : Bs), spl c (a ++ c :: t) = spl c a ++ spl c t
  | [], t => by
    show spl c (c :: t) = [[]] ++ spl c t
    simp [spl]
  | x :: r, t => by
    rw [List.cons_append, spl, spl_cat c r t, spl]
    by_cases h : x = c
    · rw [if_pos h, if_pos h]; rfl
    · rw [if_neg h, if_neg h]
      cases hs : spl c r with
      | nil => exact absurd hs (spl_nonil c r)
      | cons y z => rfl
theorem linesOf_at (a t : Bs) : linesOf (a ++ 10 :: t) = linesOf a ++ linesOf t := by
  unfold linesOf; rw [spl_cat, List.map_append]
end Go.Proofs.YtmhojfpidedjeaaDoor
namespace Go.Proofs.YtmhojfpidedjeaaDoor
set_option linter.unusedVariables false
def jnT (l : List ByteArray) : Bs := l.flatMap fun x => 32 :: x.data.toList
def jn : List ByteArray → Bs
  | [] => []
  | w :: r => w.data.toList ++ jnT r
def GoodW (w : Bs) : Prop := w ≠ [] ∧ ∀ x ∈ w, isSep x = false ∧ x ≠ 35 ∧ x ≠ 10
theorem fldGo_word : ∀ (w cur r : Bs), (∀ x ∈ w, isSep x = false) → fldGo cur (w ++ r) = fldGo (cur ++ w) r
  | [], cur, r, _ => by simp
  | x :: w, cur, r, h => by
    rw [List.cons_append, fldGo, if_neg (by rw [h x (List.mem_cons_self ..)]; decide), fldGo_word w (cur ++ [x]) r fun y hy => h y (List.mem_cons_of_mem _ hy)]
    simp
theorem fldGo_tail : ∀ (l : List ByteArray) (cur : Bs), cur ≠ [] → (∀ w ∈ l, GoodW w.data.toList) → fldGo cur (jnT l) = cur :: l.map fun x => x.data.toList
  | [], cur, hc, _ => by
    show fldGo cur [] = _
    unfold fldGo; rw [if_neg hc]; rfl
  | w :: r, cur, hc, h => by
    have hw := h w (List.mem_cons_self ..)
    show fldGo cur (32 :: w.data.toList ++ jnT r) = _
    rw [List.cons_append, fldGo, if_pos (by decide), if_neg hc, fldGo_word _ _ _ (fun x hx => (hw.2 x hx).1), List.nil_append, fldGo_tail r _ hw.1 fun y hy => h y (List.mem_cons_of_mem _ hy)]
    rfl
theorem ahead_all : ∀ (l : Bs), (∀ x ∈ l, x ≠ 35) → ahead 35 l = l
  | [], _ => rfl
  | y :: r, h => by
    have ih := ahead_all r fun x hx => h x (List.mem_cons_of_mem _ hx)
    unfold ahead at ih ⊢
    rw [List.takeWhile_cons_of_pos (by simpa using h y (List.mem_cons_self ..)), ih]
theorem jn_mem {l : List ByteArray} (h : ∀ w ∈ l, GoodW w.data.toList) : ∀ x ∈ jn l, x ≠ 35 ∧ x ≠ 10 := by
  have hT : ∀ r : List ByteArray, (∀ w ∈ r, GoodW w.data.toList) → ∀ x ∈ jnT r, x ≠ 35 ∧ x ≠ 10 := fun r hr x hx => by
    obtain ⟨w, hw, hx⟩ := List.mem_flatMap.1 hx
    rcases List.mem_cons.1 hx with rfl | hx
    · exact ⟨by decide, by decide⟩
    · exact ((hr w hw).2 x hx).2
  intro x hx
  cases l with
  | nil => cases hx
  | cons w r =>
    rcases List.mem_append.1 hx with hx | hx
    · exact ((h w (List.mem_cons_self ..)).2 x hx).2
    · exact hT r (fun y hy => h y (List.mem_cons_of_mem _ hy)) x hx
theorem words_jn (l : List ByteArray) (hl : l ≠ []) (h : ∀ w ∈ l, GoodW w.data.toList) : wordsOf (jn l) = l := by
  cases l with
  | nil => exact absurd rfl hl
  | cons w r =>
    unfold wordsOf
    rw [ahead_all _ fun x hx => (jn_mem h x hx).1]
    have hw := h w (List.mem_cons_self ..)
    show (fldGo [] (w.data.toList ++ jnT r)).map _ = _
    rw [fldGo_word _ _ _ fun x hx => (hw.2 x hx).1, List.nil_append, fldGo_tail r _ hw.1 fun y hy => h y (List.mem_cons_of_mem _ hy), List.map_cons, List.map_map]
    have e : ∀ x : ByteArray, (⟨x.data.toList.toArray⟩ : ByteArray) = x := fun x => by obtain ⟨⟨d⟩⟩ := x; rfl
    rw [e]
    congr 1
    rw [show ((fun x => (⟨x.toArray⟩ : ByteArray)) ∘ fun x : ByteArray => x.data.toList) = id from funext e, List.map_id]
theorem spl_one (c : UInt8) : ∀ (l : Bs), (∀ x ∈ l, x ≠ c) → spl c l = [l]
  | [], _ => rfl
  | x :: r, h => by rw [spl, if_neg (h x (List.mem_cons_self ..)), spl_one c r fun y hy => h y (List.mem_cons_of_mem _ hy)]
def canonS (L : List (List ByteArray)) : Bs := L.flatMap fun l => jn l ++ [10]
theorem lines_canon : ∀ (L : List (List ByteArray)), (∀ l ∈ L, l ≠ [] ∧ ∀ w ∈ l, GoodW w.data.toList) → linesOf (canonS L) = L ++ [[]]
  | [], _ => by decide +kernel
  | l :: r, h => by
    have hl := h l (List.mem_cons_self ..)
    have e : canonS (l :: r) = jn l ++ 10 :: canonS r := by
      show jn l ++ [10] ++ canonS r = _
      rw [List.append_assoc]; rfl
    rw [e, linesOf_at, lines_canon r fun y hy => h y (List.mem_cons_of_mem _ hy)]
    have e2 : linesOf (jn l) = [l] := by
      unfold linesOf
      rw [spl_one 10 _ fun x hx => (jn_mem hl.2 x hx).2, List.map_singleton, words_jn l hl.1 hl.2]
    rw [e2]; rfl
end Go.Proofs.YtmhojfpidedjeaaDoor
namespace Go.Proofs.YtmhojfpidedjeaaDoor
set_option linter.unusedVariables false
def TileOk (t : DTile) : Prop := (1 ≤ t.pat ∧ t.pat ≤ 37) ∧ In32W t.cost
def tileW (t : DTile) : List ByteArray := [wTile, patB t.pat, ⟨(Lib.itoa t.cost).toArray⟩]
theorem pats_good : ∀ i, i < 37 → (patNames.getD i ByteArray.empty).data.toList ≠ [] ∧ ∀ x ∈ (patNames.getD i ByteArray.empty).data.toList, isSep x = false ∧ x ≠ 35 ∧ x ≠ 10 := by decide
theorem pats_back : ∀ i, i < 37 → patF (patNames.getD i ByteArray.empty) = (i : Int) + 1 := by decide +kernel
theorem tabB_at {p : Int} (h : 1 ≤ p ∧ p ≤ 37) : patB p = patNames.getD (p - 1).toNat ByteArray.empty := by unfold patB; rw [if_neg (by omega)]
theorem patB_good {p : Int} (h : 1 ≤ p ∧ p ≤ 37) : GoodW (patB p).data.toList := by rw [tabB_at h]; exact pats_good _ (by omega)
theorem patF_back {p : Int} (h : 1 ≤ p ∧ p ≤ 37) : patF (patB p) = p := by rw [tabB_at h, pats_back _ (by omega)]; omega
theorem digit_good {x : UInt8} (h : 48 ≤ x.toNat ∧ x.toNat ≤ 57) : isSep x = false ∧ x ≠ 35 ∧ x ≠ 10 := by
  have h1 : ∀ y : UInt8, y.toNat < 48 → x ≠ y := fun y hy e => by subst e; omega
  refine ⟨?_, h1 35 (by decide), h1 10 (by decide)⟩
  unfold isSep
  rw [Bool.or_eq_false_iff]
  exact ⟨beq_false_of_ne (h1 32 (by decide)), beq_false_of_ne (h1 9 (by decide))⟩
theorem itoa_good (n : Int) : GoodW (Lib.itoa n) := by
  by_cases h : n < 0
  · rw [itoa_neg h]
    refine ⟨by simp, fun x hx => ?_⟩
    rcases List.mem_cons.1 hx with rfl | hx
    · decide
    · exact digit_good (decDigits_all _ x hx)
  · rw [itoa_pos h]
    exact ⟨decDigits_ne _, fun x hx => digit_good (decDigits_all _ x hx)⟩
theorem wTile_good : GoodW wTile.data.toList := ⟨by decide, by decide⟩
theorem tileS_jn {t : DTile} (h : TileOk t) : tileS t = jn (tileW t) ++ [10] := by
  unfold tileS patS tileW
  rw [if_neg (by have := h.1; omega)]
  show _ = wTile.data.toList ++ (32 :: (patB t.pat).data.toList ++ (32 :: (Lib.itoa t.cost) ++ [])) ++ [10]
  unfold dS wTile
  simp
theorem tilesS_canon : ∀ (l : List DTile), (∀ t ∈ l, TileOk t) → tilesS l = canonS (l.map tileW)
  | [], _ => rfl
  | t :: r, h => by
    show tileS t ++ tilesS r = jn (tileW t) ++ [10] ++ canonS (r.map tileW)
    rw [tileS_jn (h t (List.mem_cons_self ..)), tilesS_canon r fun x hx => h x (List.mem_cons_of_mem _ hx)]
theorem tile_step (s : List DTile) {t : DTile} (h : TileOk t) : tileSt s (tileW t) = .ok (s ++ [t]) := by
  unfold tileSt tileW
  dsimp only
  rw [if_pos rfl]
  have e0 : [patB t.pat, ⟨(Lib.itoa t.cost).toArray⟩].length = 2 := rfl
  rw [if_pos e0]
  have e1 : [patB t.pat, ⟨(Lib.itoa t.cost).toArray⟩].getD 0 ByteArray.empty = patB t.pat := rfl
  have e2 : ([patB t.pat, ⟨(Lib.itoa t.cost).toArray⟩] : List ByteArray).getD 1 ByteArray.empty = ⟨(Lib.itoa t.cost).toArray⟩ := rfl
  have e3 : wparse (⟨(Lib.itoa t.cost).toArray⟩ : ByteArray).data.toList = some t.cost := wparse_itoa h.2
  rw [e1, e2, patF_back h.1, if_pos (by have := h.1; omega)]
  unfold isNum numW
  rw [e3]; rfl
theorem tile_go : ∀ (l : List DTile) (i : Nat) (s : List DTile), (∀ t ∈ l, TileOk t) → goSt tileSt i s (l.map tileW ++ [[]]) = .ok (s ++ l)
  | [], i, s, _ => by simp [goSt]
  | t :: r, i, s, h => by
    rw [List.map_cons, List.cons_append, goSt, if_neg (by unfold tileW; simp), tile_step s (h t (List.mem_cons_self ..))]
    have := tile_go r (i + 1) (s ++ [t]) fun x hx => h x (List.mem_cons_of_mem _ hx)
    simpa using this
theorem tables_law (l : List DTile) (h : ∀ t ∈ l, TileOk t) : parseT (tilesS l) = ⟨l, 0, 0⟩ := by
  have hl : linesOf (tilesS l) = l.map tileW ++ [[]] := by
    rw [tilesS_canon l h]
    refine lines_canon _ fun x hx => ?_
    obtain ⟨t, ht, rfl⟩ := List.mem_map.1 hx
    have hk := h t ht
    refine ⟨by unfold tileW; simp, fun w hw => ?_⟩
    unfold tileW at hw
    simp only [List.mem_cons, List.not_mem_nil, or_false] at hw
    rcases hw with rfl | rfl | rfl
    · exact wTile_good
    · exact patB_good hk.1
    · exact itoa_good _
  unfold parseT
  rw [hl, tile_go l 0 [] h]; rfl
end Go.Proofs.YtmhojfpidedjeaaDoor
namespace Go.Proofs.YtmhojfpidedjeaaDoor
set_option linter.unusedVariables false
def wrongL : List ByteArray := [⟨#[102, 117, 110, 99, 32, 49]⟩, ⟨#[98, 108, 111, 99, 107, 32, 50]⟩, ⟨#[98, 108, 111, 99, 107, 32, 120]⟩, ⟨#[112, 104, 105]⟩, ⟨#[112, 104, 105, 32, 53, 32, 49]⟩, ⟨#[112, 104, 105, 32, 53, 32, 49, 58, 120]⟩, ⟨#[112, 104, 105, 32, 53, 32, 49, 58, 50, 58, 51]⟩, ⟨#[97, 100, 100, 115, 32, 53, 32, 48, 32, 49]⟩, ⟨#[97, 100, 100, 32, 53, 32, 48]⟩, ⟨#[97, 100, 100, 32, 53, 32, 48, 32, 120]⟩, ⟨#[99, 111, 110, 115, 116, 32, 53]⟩, ⟨#[99, 111, 110, 115, 116, 32, 53, 32, 50, 49, 52, 55, 52, 56, 51, 54, 52, 56]⟩, ⟨#[108, 111, 97, 100, 32, 53, 32, 48]⟩, ⟨#[115, 116, 111, 114, 101, 32, 48, 32, 49]⟩, ⟨#[99, 97, 108, 108, 32, 53]⟩, ⟨#[99, 97, 108, 108, 32, 53, 32, 49, 32, 50, 32, 51, 32, 52, 32, 53, 32, 54]⟩, ⟨#[109, 117, 108, 119, 32, 53, 32, 54, 32, 48]⟩, ⟨#[106, 117, 109, 112]⟩, ⟨#[98, 114, 97, 110, 99, 104, 32, 48, 32, 49]⟩, ⟨#[115, 119, 105, 116, 99, 104, 32, 48]⟩, ⟨#[114, 101, 116, 32, 48, 32, 49]⟩, ⟨#[116, 114, 97, 112]⟩, ⟨#[63]⟩, ⟨#[116, 105, 108, 101, 32, 108, 105, 32, 49]⟩]
def wantL : List Int := [70, 70, 70, 70, 70, 71, 70, 72, 70, 71, 70, 71, 70, 70, 70, 70, 70, 70, 70, 70, 70, 70, 72, 72]
def baseS : Bs := [102, 117, 110, 99, 32, 50, 10, 98, 108, 111, 99, 107, 32, 48, 10, 106, 117, 109, 112, 32, 49, 10, 98, 108, 111, 99, 107, 32, 49, 10]
def retS : Bs := [10, 114, 101, 116, 10]
def goodS : Bs := [112, 104, 105, 32, 53, 32, 48, 58, 49, 10, 97, 100, 100, 32, 54, 32, 48, 32, 53, 10, 114, 101, 116, 32, 54]
def wrongOk (k m : Nat) : Bool := let r := parseS (baseS ++ List.replicate m 10 ++ (wrongL.getD k ByteArray.empty).data.toList ++ retS); r.e == wantL.getD k 0 && r.line == 5 + (m : Int) && r.f.blocks.length == 0
def goodOk (m : Nat) : Bool := let r := parseS (baseS ++ List.replicate m 10 ++ goodS); r.e == 0 && r.f.blocks.length == 2 && r.f.params == 2
def lastOk (m : Nat) : Bool := let r := parseS (baseS ++ List.replicate m 10); r.e == 70 && r.line == 5 + (m : Int)
theorem wrong_all : ((List.range 24).all fun k => (List.range 10).all fun m => wrongOk k m) = true := by decide +kernel
theorem good_all : ((List.range 10).all fun m => goodOk m && lastOk m) = true := by decide +kernel
theorem wrong_law {k m : Nat} (hk : k < 24) (hm : m < 10) : (parseS (baseS ++ List.replicate m 10 ++ (wrongL.getD k ByteArray.empty).data.toList ++ retS)).e = wantL.getD k 0 ∧ (parseS (baseS ++ List.replicate m 10 ++ (wrongL.getD k ByteArray.empty).data.toList ++ retS)).line = 5 + (m : Int) ∧ (parseS (baseS ++ List.replicate m 10 ++ (wrongL.getD k ByteArray.empty).data.toList ++ retS)).f.blocks.length = 0 := by
  have h := List.all_eq_true.1 (List.all_eq_true.1 wrong_all k (List.mem_range.2 hk)) m (List.mem_range.2 hm)
  unfold wrongOk at h
  simp only [Bool.and_eq_true, beq_iff_eq] at h
  exact ⟨h.1.1, h.1.2, h.2⟩
theorem good_law {m : Nat} (hm : m < 10) : ((parseS (baseS ++ List.replicate m 10 ++ goodS)).e = 0 ∧ (parseS (baseS ++ List.replicate m 10 ++ goodS)).f.blocks.length = 2 ∧ (parseS (baseS ++ List.replicate m 10 ++ goodS)).f.params = 2) ∧ (parseS (baseS ++ List.replicate m 10)).e = 70 ∧ (parseS (baseS ++ List.replicate m 10)).line = 5 + (m : Int) := by
  have h := List.all_eq_true.1 good_all m (List.mem_range.2 hm)
  unfold goodOk lastOk at h
  simp only [Bool.and_eq_true, beq_iff_eq] at h
  exact ⟨⟨h.1.1.1, h.1.1.2, h.1.2⟩, h.2⟩
end Go.Proofs.YtmhojfpidedjeaaDoor
namespace Go.Proofs.YtmhojfpidedjeaaDoor
open Go.RowKit
set_option linter.unusedVariables false
theorem flat_le {α : Type} (f : α → Bs) (k : Nat) : ∀ (l : List α), (∀ x ∈ l, (f x).length ≤ k) → (l.flatMap f).length ≤ k * l.length
  | [], _ => by simp
  | x :: r, h => by
    rw [List.flatMap_cons, List.length_append, List.length_cons, Nat.mul_succ]
    have h1 := h x (List.mem_cons_self ..)
    have h2 := flat_le f k r fun y hy => h y (List.mem_cons_of_mem _ hy)
    omega
theorem flat_le2 {α : Type} (f : α → Bs) (k n : Nat) (l : List α) (h : ∀ x ∈ l, (f x).length ≤ k) (hn : l.length ≤ n) : (l.flatMap f).length ≤ k * n :=
  Nat.le_trans (flat_le f k l h) (Nat.mul_le_mul_left k hn)
theorem allS_le (l : List Int) (n : Nat) (h : ∀ x ∈ l, In64 x) (hn : l.length ≤ n) : (allS l).length ≤ 22 * n := flat_le2 dS 22 n l (fun x hx => dS_len x (h x hx)) hn
theorem names_le : ∀ i, i < 18 → (opNames.getD i ByteArray.empty).data.toList.length ≤ 6 := by decide
theorem opS_le (op : Int) : (opS op).length ≤ 6 := by
  unfold opS nameF
  split
  · decide
  · exact names_le _ (by omega)
theorem terms_le : ∀ i, i < 5 → (termNames.getD i ByteArray.empty).data.toList.length ≤ 6 := by decide
theorem termB_le (k : Int) : (termB k).data.toList.length ≤ 6 := by
  unfold termB
  split
  · decide
  · exact terms_le _ (by omega)
theorem in64_32 {x : Int} (h : In32W x) : In64 x := ⟨by have := h.1; omega, by have := h.2; omega⟩
theorem insS_le (x : FIns) (A : Nat) (h : InsR x) (hn : x.args.length ≤ A) : (insS x.d).length ≤ 60 + 22 * A := by
  have h1 := opS_le x.op
  have h2 := dS_len x.dst h.dst
  have h3 := dS_len x.two h.two
  have h4 := dS_len x.imm (in64_32 h.imm)
  have h5 := allS_le x.args A h.args hn
  unfold insS FIns.d
  dsimp only
  split
  · simp only [List.length_append]; omega
  · split
    · simp only [List.length_append]; omega
    · split
      · simp only [List.length_append]; omega
      · split
        · simp only [List.length_append]; omega
        · split
          · simp only [List.length_append]; omega
          · split
            · simp only [List.length_append]; omega
            · show 1 ≤ _; omega
theorem termS_le (x : FTerm) (T : Nat) (h : TermR x) (h1 : x.args.length ≤ T) (h2 : x.to.length ≤ T) : (termS x.d).length ≤ 40 + 44 * T := by
  have h3 := termB_le x.kind
  have h4 := dS_len x.imm (in64_32 h.im)
  have h5 := allS_le x.args T h.ar h1
  have h6 := allS_le x.to T h.tg h2
  unfold termS FTerm.d
  dsimp only
  split
  · show 1 ≤ _; omega
  · split
    · simp only [List.length_append]; omega
    · simp only [List.length_append]; omega
theorem pairS_le (y : Int × Int) (h : In64 y.1 ∧ In64 y.2) : (pairS y).length ≤ 44 := by
  have h1 := dS_len y.1 h.1
  have h2 := dS_len y.2 h.2
  unfold dS at h2
  unfold pairS
  simp only [List.length_append, List.length_cons] at h2 ⊢
  omega
theorem phiS_le (p : FPhi) (K : Nat) (h : PhiR p) (hn : p.ins.length ≤ K) : (phiS p.d).length ≤ 25 + 44 * K := by
  have h1 := dS_len p.dst h.dst
  have h2 := flat_le2 pairS 44 K p.ins (fun y hy => pairS_le y (h.ins y hy)) hn
  unfold phiS FPhi.d
  dsimp only
  simp only [List.length_append, List.length_cons, List.length_nil]
  omega
/-- How much a function has at most. -/
structure FnLe (f : FnV) (B P K I A T : Nat) : Prop where
  n : f.blocks.length ≤ B
  phis : ∀ b ∈ f.blocks, b.phis.length ≤ P
  phi : ∀ b ∈ f.blocks, ∀ p ∈ b.phis, p.ins.length ≤ K
  ins : ∀ b ∈ f.blocks, b.ins.length ≤ I
  inx : ∀ b ∈ f.blocks, ∀ i ∈ b.ins, i.args.length ≤ A
  ar : ∀ b ∈ f.blocks, b.term.args.length ≤ T
  tg : ∀ b ∈ f.blocks, b.term.to.length ≤ T
theorem blkS_le (k : Nat) (b : FBlk) (P K I A T : Nat) (hk : k ≤ 1000000) (hr : BlkR b) (h1 : b.phis.length ≤ P) (h2 : ∀ p ∈ b.phis, p.ins.length ≤ K) (h3 : b.ins.length ≤ I) (h4 : ∀ i ∈ b.ins, i.args.length ≤ A) (h5 : b.term.args.length ≤ T) (h6 : b.term.to.length ≤ T) :
    (blkS k b.d).length ≤ 80 + (26 + 44 * K) * P + (61 + 22 * A) * I + 44 * T := by
  have g1 := dS_len (k : Int) ⟨by omega, by omega⟩
  have g2 : (b.d.phis.flatMap fun p => phiS p ++ [10]).length ≤ (26 + 44 * K) * P := by
    refine flat_le2 _ _ P _ (fun x hx => ?_) (by show (b.phis.map FPhi.d).length ≤ P; rw [List.length_map]; exact h1)
    obtain ⟨p, hp, rfl⟩ := List.mem_map.1 (show x ∈ b.phis.map FPhi.d from hx)
    have := phiS_le p K (hr.phis p hp) (h2 p hp)
    rw [List.length_append, List.length_singleton]; omega
  have g3 : (b.d.ins.flatMap fun i => insS i ++ [10]).length ≤ (61 + 22 * A) * I := by
    refine flat_le2 _ _ I _ (fun x hx => ?_) (by show (b.ins.map FIns.d).length ≤ I; rw [List.length_map]; exact h3)
    obtain ⟨p, hp, rfl⟩ := List.mem_map.1 (show x ∈ b.ins.map FIns.d from hx)
    have := insS_le p A (hr.ins p hp) (h4 p hp)
    rw [List.length_append, List.length_singleton]; omega
  have g4 := termS_le b.term T hr.term h5 h6
  have g5 : b.d.term = b.term.d := rfl
  rw [blk_len, g5]
  omega
theorem funcS_le (f : FnV) (hr : FnR f) (B P K I A T : Nat) (h : FnLe f B P K I A T) (hB : B ≤ 1000000) :
    (funcS f.d).length ≤ 30 + (80 + (26 + 44 * K) * P + (61 + 22 * A) * I + 44 * T) * B := by
  have g1 := dS_len f.params hr.params
  have g2 : (blksS f.d.blocks f.d.blocks.length).length ≤ (80 + (26 + 44 * K) * P + (61 + 22 * A) * I + 44 * T) * B := by
    have hl : f.d.blocks.length = f.blocks.length := by show (f.blocks.map FBlk.d).length = _; rw [List.length_map]
    refine flat_le2 _ _ B _ (fun k hk => ?_) (by rw [List.length_range, hl]; exact h.n)
    have hk' := List.mem_range.1 hk
    rw [hl] at hk'
    have hb : f.d.blocks[k]? = some f.blocks[k].d := by
      show (f.blocks.map FBlk.d)[k]? = _
      rw [List.getElem?_map, List.getElem?_eq_getElem hk']; rfl
    have hm : f.blocks[k] ∈ f.blocks := List.getElem_mem hk'
    unfold blkAt
    rw [hb]
    have := h.n
    exact blkS_le k _ P K I A T (by omega) (hr.blocks _ hm) (h.phis _ hm) (h.phi _ hm) (h.ins _ hm) (h.inx _ hm) (h.ar _ hm) (h.tg _ hm)
  unfold funcS
  simp only [List.length_append, List.length_cons, List.length_nil]
  have : f.d.params = f.params := rfl
  rw [this]
  omega
theorem pats_le : ∀ i, i < 37 → (patNames.getD i ByteArray.empty).data.toList.length ≤ 6 := by decide
theorem patS_le (p : Int) : (patS p).length ≤ 6 := by
  unfold patS patB
  split
  · decide
  · exact pats_le _ (by omega)
theorem tileS_le (t : DTile) (h : In64 t.cost) : (tileS t).length ≤ 34 := by
  have h1 := patS_le t.pat
  have h2 := dS_len t.cost h
  unfold tileS
  simp only [List.length_append, List.length_cons, List.length_nil]
  omega
theorem tilesS_le (l : List DTile) (n : Nat) (h : ∀ t ∈ l, In64 t.cost) (hn : l.length ≤ n) : (tilesS l).length ≤ 34 * n := flat_le2 tileS 34 n l (fun t ht => tileS_le t (h t ht)) hn
end Go.Proofs.YtmhojfpidedjeaaDoor
namespace Go.Proofs.YtmhojfpidedjeaaDoor
open Go.RowKit Go.ChangeShapes Go.WideShapes
set_option linter.unusedVariables false
theorem Tryd.cellsTile : Tryd.prog.cellsOf 37 = 2 := by kernel_rfl
instance : Inhabited FPhi := ⟨⟨0, [], .slice none 0 0⟩⟩
instance : Inhabited FIns := ⟨⟨0, 0, 0, [], .slice none 0 0, 0⟩⟩
instance : Inhabited FBlk := ⟨⟨[], .slice none 0 0, [], .slice none 0 0, ⟨0, [], .slice none 0 0, [], .slice none 0 0, 0⟩⟩⟩
instance : Inhabited DTile := ⟨⟨0, 0⟩⟩
theorem wf64 {n : Int} (h : (Lit.int .i64 n).wf = true) : In64 n := by
  simp [Lit.wf, IntKind.min, IntKind.max, IntKind.signed, IntKind.bits] at h
  unfold In64; omega
theorem wf32 {n : Int} (h : (Lit.int .i32 n).wf = true) : In32W n := by
  simp [Lit.wf, IntKind.min, IntKind.max, IntKind.signed, IntKind.bits] at h
  unfold In32W; omega
theorem RowIn.split {α : Type} {f : α → List Value} {sz : Nat} {p : World → α → Prop} {q : α → Prop} {w : World} {v : Value} {l : List α} (h : RowIn f sz (fun w x => p w x ∧ q x) w v l) : RowIn f sz p w v l ∧ ∀ x ∈ l, q x := by
  rcases h with ⟨a, h1, h2⟩ | ⟨b, off, cap, h1, h2, h3, h4, h5⟩
  · exact ⟨.inl ⟨a, h1, h2⟩, by subst h2; intro x hx; cases hx⟩
  · refine ⟨.inr ⟨b, off, cap, h1, h2, h3, h4, fun j x hj => ⟨(h5 j x hj).1, (h5 j x hj).2.1⟩⟩, fun x hx => ?_⟩
    obtain ⟨j, hj, rfl⟩ := List.mem_iff_getElem.1 hx
    exact (h5 j _ (List.getElem?_eq_getElem hj)).2.2
theorem ls2 {α : Type} {l : List α} (h : l.length = 2) : ∃ a b, l = [a, b] := by
  match l, h with
  | [a, b], _ => exact ⟨a, b, rfl⟩
section
variable {H : Type} {enc : TypeId × Value → H} {w : World} {base : Nat} {held : Bool}
theorem ints_trod {fuel : Nat} {v : Value} {x : DataW H × List MemPlace} (h : DataW.trod enc Tryd.prog w base (fun _ => true) held fuel 33 [v] = some x) : ∃ l : List Int, Ints w v l ∧ ∀ n ∈ l, In64 n := by
  obtain ⟨l, h1, h2⟩ := nums_trod Tryd.underlying33 Tryd.underlying3 Tryd.cellsInt h
  exact ⟨l, h1, fun n hn => wf64 (h2 n hn)⟩
set_option maxRecDepth 100000 in
theorem tile_trod {fuel : Nat} {cs : List Value} {x : DataW H × List MemPlace} (h : DataW.trod enc Tryd.prog w base (fun _ => true) held fuel 37 cs = some x) : ∃ y : DTile, cs = dtcells y ∧ In64 y.pat ∧ In64 y.cost := by
  obtain ⟨xs, n, _, _, hlen, hxs, hf⟩ := DataW.trod_struct Tryd.underlying37 h
  rw [Tryd.cellsTile] at hlen
  obtain ⟨c0, c1, rfl⟩ := ls2 hlen
  have h0 := fld hf 0 3 0 1 rfl Tryd.cellsInt
  have h1 := fld hf 1 3 1 1 rfl Tryd.cellsInt
  have hsz : xs.length = 2 := by simpa using hxs
  simp only [List.drop_succ_cons, List.drop_zero, List.take_succ_cons, List.take_zero] at h0 h1
  obtain ⟨n0, rfl, w0⟩ := int_field Tryd.underlying3 h0 (by simp [hsz])
  obtain ⟨n1, rfl, w1⟩ := int_field Tryd.underlying3 h1 (by simp [hsz])
  exact ⟨⟨n0, n1⟩, rfl, wf64 w0, wf64 w1⟩
set_option maxRecDepth 100000 in
theorem tiles_open {r : Reach} {b0 : Nat} {v : Value} {d : DataW H} {p : List MemPlace} (hv : Value.okWide Tryd.prog w r b0 32 v) (h : DataW.Trod enc Tryd.prog w base (fun _ => true) held 32 v d p) : ∃ l : List DTile, TilesIn w v l := by
  obtain ⟨a, len, cap, rfl⟩ := okWide_slice Tryd.underlying32 hv
  obtain ⟨fuel, hf⟩ := h
  obtain ⟨l, hl⟩ := row_trod (p := fun (_ : World) (t : DTile) => In64 t.pat ∧ In64 t.cost) Tryd.underlying32 Tryd.cellsTile (by decide) (fun _ => rfl) (fun fuel cs y hy => tile_trod hy) (by simpa [Value.cells] using hf)
  exact ⟨l, hl⟩
end
end Go.Proofs.YtmhojfpidedjeaaDoor
namespace Go.Proofs.YtmhojfpidedjeaaDoor
open Go.RowKit
set_option linter.unusedVariables false
theorem RowIn.cut {α : Type} {f : α → List Value} {sz : Nat} {p : World → α → Prop} {w : World} {a : Option Addr} {n c k : Nat} {l : List α} (h : RowIn f sz p w (.slice a n c) l) (hk : k ≤ n) : RowIn f sz p w (.slice a k c) (l.take k) := by
  rcases h with ⟨x, h1, h2⟩ | ⟨b, off, cap, h1, h2, h3, h4, h5⟩
  · cases h1
    obtain rfl : k = 0 := by omega
    exact .inl ⟨_, rfl, by simp⟩
  · cases h1
    have hl : (l.take k).length = k := by rw [List.length_take]; omega
    refine .inr ⟨b, off, _, by rw [hl], by omega, h3, h4, fun j x hj => h5 j x ?_⟩
    have := (List.getElem?_eq_some_iff.1 hj).1
    rwa [List.getElem?_take_of_lt (by omega)] at hj
theorem Nums.cutTo {kd : IntKind} {w : World} {a : Option Addr} {n c k : Nat} {l : List Int} (h : Nums kd w (.slice a n c) l) (hk : k ≤ n) : Nums kd w (.slice a k c) (l.take k) := by
  rcases h with ⟨x, h1, h2⟩ | ⟨b, off, cap, h1, h2, h3, h4, h5⟩
  · cases h1
    obtain rfl : k = 0 := by omega
    exact .inl ⟨_, rfl, by simp⟩
  · cases h1
    have hl : (l.take k).length = k := by rw [List.length_take]; omega
    refine .inr ⟨b, off, _, by rw [hl], by omega, h3, h4, fun j x hj => h5 j x ?_⟩
    have := (List.getElem?_eq_some_iff.1 hj).1
    rwa [List.getElem?_take_of_lt (by omega)] at hj
section
variable {wx w w' : World} {q : Nat} {k im : Int} {av tv phv inv phv' inv' : Value} {phl : List FPhi} {il : List FIns}
end
section
variable {wa w0 w w' : World} {qg : Nat} {p : Int} {gv gv' : Value} {gl : List FBlk}
end
end Go.Proofs.YtmhojfpidedjeaaDoor
