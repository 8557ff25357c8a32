/- TxLinesP TxStepsP TxTEach TxRParse TxTParse TxLine -/
import Derived.Test.YtmhojfpidedjeaaDoorDz08
namespace Go.Proofs.YtmhojfpidedjeaaDoor
set_option linter.unusedVariables false
def emitL (n : Int) (l : List ByteArray) : List (List ByteArray × Int) := if l = [] then [] else [(l, n)]
def numd : Int → List (List ByteArray) → List (List ByteArray × Int)
  | _, [] => []
  | n, x :: r => emitL n x ++ numd (n + 1) r
end Go.Proofs.YtmhojfpidedjeaaDoor
namespace Go.Proofs.YtmhojfpidedjeaaDoor
set_option linter.unusedVariables false
def runL {σ : Type} (step : σ → List ByteArray → Except Int σ) : σ → List (List ByteArray × Int) → Except (Int × Int) σ
  | s, [] => .ok s
  | s, x :: r => match step s x.1 with
    | .error e => .error (x.2, e)
    | .ok t => runL step t r
theorem goSt_runL {σ : Type} (step : σ → List ByteArray → Except Int σ) : ∀ (L : List (List ByteArray)) (i : Nat) (s : σ), goSt step i s L = runL step s (numd ((i : Int) + 1) L)
  | [], i, s => rfl
  | l :: r, i, s => by
    rw [goSt, numd]
    have e : (((i + 1 : Nat) : Int) + 1) = (i : Int) + 1 + 1 := by omega
    by_cases h : l = []
    · rw [if_pos h, goSt_runL step r (i + 1) s, emitL, if_pos h, List.nil_append, e]
    · rw [if_neg h, emitL, if_neg h, List.singleton_append, runL]
      cases hs : step s l with
      | error n => rfl
      | ok t =>
        simp only []
        rw [goSt_runL step r (i + 1) t, e]
theorem fldGo_len : ∀ (l cur : Bs), (fldGo cur l).length ≤ l.length + (if cur = [] then 0 else 1)
  | [], cur => by unfold fldGo; by_cases h : cur = [] <;> simp [h]
  | x :: r, cur => by
    unfold fldGo
    by_cases hx : isSep x = true
    · rw [if_pos hx]
      have h0 := fldGo_len r []
      rw [if_pos rfl] at h0
      by_cases h : cur = []
      · rw [if_pos h, if_pos h]; simp only [List.length_cons]; omega
      · rw [if_neg h, if_neg h]; simp only [List.length_cons]; omega
    · rw [if_neg hx]
      have h0 := fldGo_len r (cur ++ [x])
      rw [if_neg (by simp)] at h0
      simp only [List.length_cons]
      omega
theorem wordsOf_len (l : Bs) : (wordsOf l).length ≤ l.length := by
  unfold wordsOf
  rw [List.length_map]
  have h := fldGo_len (ahead 35 l) []
  rw [if_pos rfl] at h
  have h2 : (ahead 35 l).length ≤ l.length := by unfold ahead; exact (List.takeWhile_sublist _).length_le
  omega
theorem spl_mem_len (c : UInt8) : ∀ (s : Bs), ∀ x ∈ spl c s, x.length ≤ s.length
  | [], x, hx => by simp [spl] at hx; simp [hx]
  | y :: r, x, hx => by
    rw [spl] at hx
    by_cases hy : y = c
    · rw [if_pos hy] at hx
      rcases List.mem_cons.1 hx with h | h
      · subst h; simp
      · have := spl_mem_len c r x h; simp only [List.length_cons]; omega
    · rw [if_neg hy] at hx
      have ih := spl_mem_len c r
      cases hs : spl c r with
      | nil => rw [hs] at hx; simp at hx; simp [hx]
      | cons h t =>
        rw [hs] at hx ih
        rcases List.mem_cons.1 hx with h1 | h1
        · have := ih h (by simp); subst h1; simp only [List.length_cons]; omega
        · have := ih x (by simp [h1]); simp only [List.length_cons]; omega
theorem spl_len (c : UInt8) : ∀ (s : Bs), (spl c s).length ≤ s.length + 1
  | [] => by simp [spl]
  | y :: r => by
    rw [spl]
    have ih := spl_len c r
    by_cases hy : y = c
    · rw [if_pos hy]; simp only [List.length_cons]; omega
    · rw [if_neg hy]
      cases hs : spl c r with
      | nil => simp
      | cons h t => rw [hs] at ih; simp only [List.length_cons] at ih ⊢; omega
theorem linesOf_len (s : Bs) : (linesOf s).length ≤ s.length + 1 := by unfold linesOf; rw [List.length_map]; exact spl_len 10 s
theorem lines_words (s : Bs) : ∀ l ∈ linesOf s, l.length ≤ s.length := fun l hl => by
  obtain ⟨x, hx, rfl⟩ := List.mem_map.1 hl
  have := wordsOf_len x
  have := spl_mem_len 10 s x hx
  omega
theorem numd_mem : ∀ (L : List (List ByteArray)) (n : Int), ∀ x ∈ numd n L, x.1 ∈ L ∧ x.1 ≠ []
  | [], _, x, hx => by cases hx
  | l :: r, n, x, hx => by
    rw [numd] at hx
    rcases List.mem_append.1 hx with h | h
    · unfold emitL at h
      by_cases hl : l = []
      · rw [if_pos hl] at h; cases h
      · rw [if_neg hl] at h
        rw [List.mem_singleton.1 h]
        exact ⟨by simp, hl⟩
    · have := numd_mem r (n + 1) x h
      exact ⟨List.mem_cons_of_mem _ this.1, this.2⟩
theorem numd_len : ∀ (L : List (List ByteArray)) (n : Int), (numd n L).length ≤ L.length
  | [], _ => Nat.le_refl _
  | l :: r, n => by
    rw [numd, List.length_append, List.length_cons]
    have := numd_len r (n + 1)
    have : (emitL n l).length ≤ 1 := by unfold emitL; by_cases h : l = [] <;> simp [h]
    omega
/-- What holds of a parser behind so many lines. -/
structure FewSt (n : Nat) (s : PSt) : Prop where
  bl : s.blocks.length ≤ n
  each : ∀ b ∈ s.blocks, b.phis.length ≤ n ∧ b.ins.length ≤ n
  pl : 0 ≤ s.pl ∧ s.pl ≤ 3 ∧ (2 ≤ s.pl → s.blocks ≠ [])
theorem mem_modify {α : Type} {g : α → α} : ∀ (l : List α) (i : Nat) (x : α), x ∈ l.modify i g → x ∈ l ∨ ∃ y ∈ l, x = g y
  | [], i, x, h => by simp at h
  | y :: r, 0, x, h => by
    simp only [List.modify_zero_cons, List.mem_cons] at h
    rcases h with h | h
    · exact .inr ⟨y, by simp, h⟩
    · exact .inl (by simp [h])
  | y :: r, i + 1, x, h => by
    simp only [List.modify_succ_cons, List.mem_cons] at h
    rcases h with h | h
    · exact .inl (by simp [h])
    · rcases mem_modify r i x h with h | ⟨z, hz, e⟩
      · exact .inl (by simp [h])
      · exact .inr ⟨z, by simp [hz], e⟩
theorem FewSt.more {n : Nat} {s : PSt} (h : FewSt n s) : FewSt (n + 1) s := ⟨by have := h.bl; omega, fun b hb => by have := h.each b hb; omega, h.pl⟩
theorem FewSt.last {n : Nat} {s : PSt} (h : FewSt n s) (g : DBlk → DBlk) (hg : ∀ b, (g b).phis.length ≤ b.phis.length + 1 ∧ (g b).ins.length ≤ b.ins.length + 1) (k : Int) (hk : 0 ≤ k ∧ k ≤ 3 ∧ (2 ≤ k → s.blocks ≠ [])) (p : Int) : FewSt (n + 1) ⟨p, onLast s g, k⟩ := by
  refine ⟨?_, fun b hb => ?_, hk.1, hk.2.1, fun h2 => ?_⟩
  · show (onLast s g).length ≤ n + 1
    unfold onLast; rw [List.length_modify]; have := h.bl; omega
  · rcases mem_modify _ _ _ hb with h1 | ⟨y, hy, rfl⟩
    · have := h.each b h1; omega
    · have := h.each y hy
      have := hg y
      omega
  · show onLast s g ≠ []
    have h3 := hk.2.2 h2
    unfold onLast
    intro e
    apply h3
    rw [← List.length_eq_zero_iff] at e ⊢
    rwa [List.length_modify] at e
theorem FewSt.step {n : Nat} {s t : PSt} {l : List ByteArray} (h : FewSt n s) (hs : stepSt s l = .ok t) : FewSt (n + 1) t := by
  unfold stepSt at hs
  split at hs
  · cases hs; exact h.more
  · rename_i w r
    split at hs
    · split at hs
      · split at hs
        · cases hs; exact ⟨by have := h.bl; show s.blocks.length ≤ n + 1; omega, fun b hb => (by have := h.each b hb; omega), (show (0:Int) ≤ 1 from by decide), (show (1:Int) ≤ 3 from by decide), fun h => absurd (show (2:Int) ≤ 1 from h) (by decide)⟩
        · cases hs
      · cases hs
    · split at hs
      · split at hs
        · split at hs
          · split at hs
            · cases hs
              refine ⟨by have := h.bl; show (s.blocks ++ [zeroBlk]).length ≤ n + 1; simp; omega, fun b hb => ?_, (show (0:Int) ≤ 2 from by decide), (show (2:Int) ≤ 3 from by decide), fun _ => by simp⟩
              rcases List.mem_append.1 hb with h1 | h1
              · have := h.each b h1; omega
              · rw [List.mem_singleton.1 h1]; simp [zeroBlk]
            · cases hs
          · cases hs
        · cases hs
      · split at hs
        · split at hs
          · rename_i hpl
            unfold phiSt at hs
            split at hs
            · cases hs
            · split at hs
              · split at hs
                · cases hs
                  exact h.last _ (fun b => by simp) _ h.pl _
                · cases hs
              · cases hs
          · cases hs
        · split at hs
          · split at hs
            · rename_i hpl
              unfold insSt at hs
              split at hs
              · split at hs
                · cases hs
                  exact h.last _ (fun b => by simp) _ ⟨by decide, by decide, fun _ => h.pl.2.2 hpl⟩ _
                · cases hs
              · cases hs
            · cases hs
          · split at hs
            · split at hs
              · rename_i hpl
                unfold termSt at hs
                split at hs
                · split at hs
                  · cases hs
                    exact h.last _ (fun b => by simp) _ ⟨by decide, by decide, fun h => absurd h (by decide)⟩ _
                  · cases hs
                · cases hs
              · cases hs
            · cases hs
theorem FewSt.start : FewSt 0 ⟨0, [], 0⟩ := ⟨Nat.le_refl _, fun b hb => (by cases hb), (show (0:Int) ≤ 0 from by decide), (show (0:Int) ≤ 3 from by decide), fun h => absurd (show (2:Int) ≤ 0 from h) (by decide)⟩
end Go.Proofs.YtmhojfpidedjeaaDoor
namespace Go.Proofs.YtmhojfpidedjeaaDoor
open Go.RowKit
set_option linter.unusedVariables false
theorem sep_enters (args : Array Value) (w : World) : (callFunc 29 args).run Tryd.prog w = .ok (.enter 29 args) w := by
  simp [callFunc, Tryd.func29]
  first | rfl | skip
set_option maxHeartbeats 400000 in
set_option maxRecDepth 100000 in
theorem sep_any (x : Nat) (hx : x ≤ 1114111) (w : World) : Calls Tryd.prog 29 #[.int .i32 (x : Int)] w fun e w' => e = .returned (.bool (isSepR x)) ∧ w' = w := by
  have e : isSepR x = (((x : Int) == 32) || ((x : Int) == 9)) := by
    unfold isSepR
    congr 1
    · by_cases h : x = 32
      · subst h; rfl
      · rw [beq_eq_false_iff_ne.2 h, beq_eq_false_iff_ne.2 (by omega)]
    · by_cases h : x = 9
      · subst h; rfl
      · rw [beq_eq_false_iff_ne.2 h, beq_eq_false_iff_ne.2 (by omega)]
  rw [e]
  clear e
  obtain ⟨a, ha⟩ : ∃ a, ((x : Int) == 32) = a := ⟨_, rfl⟩
  obtain ⟨b, hb⟩ : ∃ b, ((x : Int) == 9) = b := ⟨_, rfl⟩
  rw [ha, hb]
  cases a
  · go_enter Tryd.func29, Tryd.ntmps29
    go_wp2
    go_ret
    exact ⟨rfl, rfl⟩
  · go_enter Tryd.func29, Tryd.ntmps29
    go_wp2
    go_ret
    exact ⟨rfl, rfl⟩
theorem sep_pred (w : World) : PredAtRunes Tryd.prog 29 #[] isSepR w := fun W x hx _ => (sep_any x hx W).mono fun e w' ⟨h1, h2⟩ => ⟨h1, 0, by rw [h2]; rfl⟩
/-- A line's words. -/
theorem words_go (x : ByteArray) : Lib.goFieldsP isSepR ⟨(ahead 35 x.data.toList).toArray⟩ = wordsOf x.data.toList := goFields_fld _
/-- The lines of a text, as they are cut. -/
def cutLines (s : ByteArray) : List ByteArray := Lib.splitB ⟨#[10]⟩ 0 (Lib.countB s ⟨#[10]⟩) s
theorem cutLines_data (s : ByteArray) : (cutLines s).map (·.data.toList) = spl 10 s.data.toList := by
  rw [← split_spl]
  unfold cutLines
  rw [Lib.splitB_data]
  rfl
theorem cutLines_len (s : ByteArray) : (cutLines s).length = Lib.countB s ⟨#[10]⟩ + 1 := Lib.splitB_all ⟨#[10]⟩ (by decide) 0 _ s rfl
theorem cutLines_words (s : ByteArray) : (cutLines s).map (fun x => wordsOf x.data.toList) = linesOf s.data.toList := by
  unfold linesOf
  rw [← cutLines_data, List.map_map]
  rfl
theorem cutLines_small (s : ByteArray) : ∀ x ∈ cutLines s, x.size ≤ s.size := fun x hx => by
  have h := spl_mem_len 10 s.data.toList x.data.toList (by rw [← cutLines_data]; exact List.mem_map_of_mem hx)
  rwa [bytes_len, bytes_len] at h
theorem fldGo_small : ∀ (l cur : Bs), ∀ x ∈ fldGo cur l, x.length ≤ l.length + cur.length
  | [], cur, x, hx => by
    unfold fldGo at hx
    by_cases h : cur = []
    · rw [if_pos h] at hx; cases hx
    · rw [if_neg h] at hx; rw [List.mem_singleton.1 hx]; simp
  | c :: r, cur, x, hx => by
    unfold fldGo at hx
    by_cases hs : isSep c = true
    · rw [if_pos hs] at hx
      by_cases h : cur = []
      · rw [if_pos h] at hx
        have := fldGo_small r [] x hx
        simp only [List.length_cons, List.length_nil] at *; omega
      · rw [if_neg h] at hx
        rcases List.mem_cons.1 hx with h1 | h1
        · subst h1; simp only [List.length_cons]; omega
        · have := fldGo_small r [] x h1
          simp only [List.length_cons, List.length_nil] at *; omega
    · rw [if_neg hs] at hx
      have := fldGo_small r (cur ++ [c]) x hx
      simp only [List.length_cons, List.length_append, List.length_nil] at *; omega
theorem words_small (l : Bs) : ∀ x ∈ wordsOf l, x.size ≤ l.length := fun x hx => by
  unfold wordsOf at hx
  obtain ⟨y, hy, rfl⟩ := List.mem_map.1 hx
  have h := fldGo_small (ahead 35 l) [] y hy
  have h2 : (ahead 35 l).length ≤ l.length := by unfold ahead; exact (List.takeWhile_sublist _).length_le
  show y.toArray.size ≤ _
  simp at h ⊢; omega
/-- Blocks of texts are no blocks of the parser's. -/
def NoText (w : World) (q : Nat) : Prop := ∀ cs, ¬ HeapIs w q cs 9
/-- What a parser that goes over lines is asked. -/
structure EachOk (fn : Nat) (pb : Nat) {σ : Type} (step : σ → List ByteArray → Except Int σ) (Inv : Nat → σ → World → Prop) (Bad : Int → World → Prop) : Prop where
  e0 : ∀ i s w, Inv i s w → w.cell? ⟨pb, 3, none⟩ = some (.int .i64 0) ∧ pb < w.heap.size
  keep : ∀ i s w w', Inv i s w → Since w w' → Inv i s w'
  laid : ∀ i s w, Inv i s w → LaidT w
  more : ∀ i s w, Inv i s w → Inv (i + 1) s w
  enters : ∀ (args : Array Value) (w : World), (callFunc fn args).run Tryd.prog w = .ok (.enter fn args) w
  call : ∀ (i : Nat) (s : σ) (w : World) (v : Value) (f : ByteArray) (r : List ByteArray), Inv i s w → i ≤ 400000 → StrsIn w v (f :: r) → (∀ q, v.ownBlock = some q → ∃ cs, HeapIs w q cs 9) → r.length ≤ 400000 → Calls Tryd.prog fn #[.pointer (some ⟨pb, 0, none⟩), v] w fun x w' => x = .returned (.tuple #[]) ∧ Turn (NoText w) w w' ∧ (match step s (f :: r) with | .error n => Bad n w' | .ok t => Inv (i + 1) t w')
  bad : ∀ n w, Bad n w → w.cell? ⟨pb, 3, none⟩ = some (.int .i64 n) ∧ n ≠ 0 ∧ pb < w.heap.size
def EachQ {σ : Type} (step : σ → List ByteArray → Except Int σ) (Inv : Nat → σ → World → Prop) (Bad : Int → World → Prop) (s0 : σ) (s : ByteArray) (x : Ending) (w' : World) : Prop :=
  ∃ wrong : Int, x = .returned (.tuple #[.int .i64 wrong, .int .i64 (linesOf s.data.toList).length]) ∧ (match goSt step 0 s0 (linesOf s.data.toList) with | .error e => wrong = e.1 ∧ Bad e.2 w' | .ok t => wrong = 0 ∧ ∃ i, i ≤ s.size + 1 ∧ Inv i t w')
theorem goSt_next {σ : Type} {step : σ → List ByteArray → Except Int σ} {i : Nat} {s t : σ} {l : List ByteArray} {r : List (List ByteArray)} (hl : l ≠ []) (hs : step s l = .ok t) : goSt step i s (l :: r) = goSt step (i + 1) t r := by
  rw [goSt, if_neg hl, hs]
theorem goSt_bad {σ : Type} {step : σ → List ByteArray → Except Int σ} {i : Nat} {s : σ} {n : Int} {l : List ByteArray} {r : List (List ByteArray)} (hl : l ≠ []) (hs : step s l = .error n) : goSt step i s (l :: r) = .error ((i : Int) + 1, n) := by
  rw [goSt, if_neg hl, hs]
theorem goSt_skip {σ : Type} {step : σ → List ByteArray → Except Int σ} {i : Nat} {s : σ} {r : List (List ByteArray)} : goSt step i s ([] :: r) = goSt step (i + 1) s r := by
  rw [goSt, if_pos rfl]
section
variable {fn pb : Nat} {σ : Type} {step : σ → List ByteArray → Except Int σ} {Inv : Nat → σ → World → Prop} {Bad : Int → World → Prop}
set_option maxHeartbeats 4000000 in
set_option maxRecDepth 100000 in
theorem each_any (hE : EachOk fn pb step Inv Bad) (s0 : σ) (s : ByteArray) (w : World) (h0 : Inv 0 s0 w) (hs : s.size ≤ 300000) : Calls Tryd.prog 15 #[.pointer (some ⟨pb, 0, none⟩), .string s, .func (.func fn) #[.pointer (some ⟨pb, 0, none⟩)] #[]] w (fun x w' => EachQ step Inv Bad s0 s x w') := by
  obtain ⟨N, hN⟩ : ∃ N, (cutLines s).length = N := ⟨_, rfl⟩
  have hNl : (linesOf s.data.toList).length = N := by rw [← cutLines_words, List.length_map, hN]
  have hNs : N ≤ s.size + 1 := by rw [← hNl, ← bytes_len]; exact linesOf_len _
  have HN := Lib.hid hN
  have HNL := Lib.hid hNl
  have HE := Lib.hid hE
  have H0 := Lib.hid h0
  obtain ⟨m0, hm0⟩ := (hE.laid 0 s0 w h0).mx
  have hsp := Tryd.strings_Split s ⟨#[10]⟩ m0 w (by omega) hm0 (by decide)
  rw [← cutLines_len, hN] at hsp
  have HSP := Lib.hid hsp
  have hent := hE.enters
  have HENT := Lib.hid hent
  clear hE h0 hm0 hsp hN hNl
  go_enter Tryd.func15, Tryd.ntmps15
  go_wp2_with fail
  refine HSP.out.mono ?_
  rintro e1 w1 ⟨rfl, hw1⟩
  obtain ⟨lb, hlb⟩ : ∃ q, w.heap.size = q := ⟨_, rfl⟩
  rw [hlb]
  have hlines : HeapIs w1 lb ((cutLines s).map Value.string).toArray 9 := by rw [hw1, ← hlb]; exact HeapIs.new _ _ _
  have hs1 : Since w w1 := by rw [hw1]; exact (Since.refl _).alloc _
  have HL1 := Lib.hid hlines
  have HS1 := Lib.hid hs1
  clear hw1 hlines hs1 hlb
  go_wp2_with fail
  go_loopw [16] (fun io wr => ∃ (k : Nat) (t : σ), io = .int .i64 k ∧ k ≤ N ∧ Inv k t wr ∧ HeapIs wr lb ((cutLines s).map Value.string).toArray 9 ∧ goSt step 0 s0 (linesOf s.data.toList) = goSt step k t ((linesOf s.data.toList).drop k)) (fun io _ => N - (intOf io).toNat)
  case atStart => exact ⟨0, s0, rfl, Nat.zero_le _, HE.out.keep _ _ _ _ H0.out HS1.out, HL1.out, rfl⟩
  case round =>
    obtain ⟨k, t, rfl, hk, hinv, hlr, hgo⟩ := hrel
    have HINV := Lib.hid hinv
    have HLR := Lib.hid hlr
    have HGO := Lib.hid hgo
    clear hinv hgo
    by_cases hlt : k < N
    · obtain ⟨x, hx⟩ : ∃ x, (cutLines s)[k]? = some x := ⟨_, List.getElem?_eq_getElem (by rw [HN.out]; exact hlt)⟩
      have hcell : wr.cell? ⟨lb, k, none⟩ = some (.string x) := by rw [hlr.cell, List.getElem?_toArray, List.getElem?_map, hx]; rfl
      have hll := hlr.lt
      have hxs := cutLines_small s x (List.mem_of_getElem? hx)
      have hdrop : (linesOf s.data.toList).drop k = wordsOf x.data.toList :: (linesOf s.data.toList).drop (k + 1) := by
        have h9 : (linesOf s.data.toList)[k]? = some (wordsOf x.data.toList) := by rw [← cutLines_words, List.getElem?_map, hx]; rfl
        rw [List.drop_eq_getElem_cons (List.getElem?_eq_some_iff.1 h9).1, (List.getElem?_eq_some_iff.1 h9).2]
      have HDROP := Lib.hid hdrop
      have HXS := Lib.hid hxs
      obtain ⟨m1, hm1⟩ := (HE.out.laid _ _ _ HINV.out).mx
      have hcut := Tryd.strings_Cut x ⟨#[35]⟩ m1 wr (by omega) hm1
      have HCUT := Lib.hid hcut
      obtain ⟨y, hy⟩ : ∃ y : ByteArray, ⟨(ahead 35 x.data.toList).toArray⟩ = y := ⟨_, rfl⟩
      have HY := Lib.hid hy
      have HYS := Lib.hid (show y.size ≤ 300000 from by
        have h2 : (ahead 35 x.data.toList).length ≤ x.data.toList.length := by unfold ahead; exact (List.takeWhile_sublist _).length_le
        rw [bytes_len] at h2
        rw [← hy]; show (ahead 35 x.data.toList).toArray.size ≤ _; simp; omega)
      clear hlr hx hdrop hm1 hcut hy
      go_wp2_with fail
      refine HCUT.out.mono ?_
      rintro e2 w2 ⟨rfl, kk, hw2⟩
      rw [show (⟨(Lib.cut x.data.toList (⟨#[35]⟩ : ByteArray).data.toList).1.toArray⟩ : ByteArray) = y from by rw [← HY.out]; exact congrArg (fun l : Bs => (⟨l.toArray⟩ : ByteArray)) (cut_ahead 35 x.data.toList).1]
      have hs2 : Since wr w2 := by rw [hw2]; exact drew_since wr kk
      have HS2 := Lib.hid hs2
      have HFF := Lib.hid (Tryd.strings_FieldsFunc_runes 29 #[] sep_enters isSepR y w2 (by have := HYS.out; omega) (sep_pred w2))
      clear hw2 hs2 hcell hll
      go_wp2_with fail
      refine HFF.out.mono ?_
      rintro e3 w3 ⟨wb, rfl, hwb, how, hs3⟩
      have hs3 : Since w2 w3 := hs3
      rw [← HY.out, words_go x] at how ⊢
      obtain ⟨wl, hwl⟩ : ∃ l, wordsOf x.data.toList = l := ⟨_, rfl⟩
      rw [hwl] at how ⊢
      obtain ⟨wn, hwn⟩ : ∃ n, wl.length = n := ⟨_, rfl⟩
      rw [hwn] at how ⊢
      have HWL := Lib.hid hwl
      have HWN := Lib.hid hwn
      have HOW := Lib.hid how
      have HS3 := Lib.hid (HS2.out.trans hs3)
      have HINV3 := Lib.hid (HE.out.keep _ _ _ _ HINV.out HS3.out)
      have HLR3 := Lib.hid (HLR.out.keep HS3.out)
      have hwnb : wn ≤ 300000 := by
        have h9 := wordsOf_len x.data.toList
        rw [hwl, hwn, bytes_len] at h9; omega
      clear hwl hwn how hs3 hwb
      by_cases h0 : wn = 0
      · subst h0
        have HNX := Lib.hid (show goSt step 0 s0 (linesOf s.data.toList) = goSt step (k + 1) t ((linesOf s.data.toList).drop (k + 1)) from by
          rw [HGO.out, HDROP.out, HWL.out, List.length_eq_zero_iff.1 HWN.out, goSt_skip])
        go_wp2
        go_roundw
        case rel => exact ⟨k + 1, t, by go_num, by omega, HE.out.more _ _ _ HINV3.out, HLR3.out, HNX.out⟩
        case measure => simp [intOf]; omega
      · have hq0 : ((wn : Int) == 0) = false := by rw [beq_eq_false_iff_ne]; omega
        obtain ⟨f, r, hfr⟩ : ∃ f r, wl = f :: r := by
          match wl, HWN.out with
          | f :: r, _ => exact ⟨f, r, rfl⟩
          | [], h => exact absurd h.symm h0
        subst hfr
        have hrow : StrsIn w3 (.slice (some ⟨wb, 0, none⟩) wn wn) (f :: r) := by
          have h9 : OwnRow stc 1 9 w2.heap.size w3 (.slice (some ⟨wb, 0, none⟩) wn wn) (f :: r) := by
            unfold OwnRow
            rw [HWN.out]
            have e9 : (f :: r).flatMap stc = (f :: r).map Value.string := by
              have : ∀ l : List ByteArray, l.flatMap stc = l.map Value.string := fun l => by induction l with | nil => rfl | cons a l ih => rw [List.flatMap_cons, ih]; rfl
              exact this _
            rw [e9]; exact HOW.out
          exact row_of_own stc_len h9 fun z hz => by
            have := words_small x.data.toList z (by rw [HWL.out]; exact hz)
            rw [bytes_len] at this
            have := HXS.out; omega
        have hown : ∀ q, (Value.slice (some ⟨wb, 0, none⟩) wn wn).ownBlock = some q → ∃ cs, HeapIs w3 q cs 9 := fun q hq => own_heap HOW.out hq
        have HCALL := Lib.hid (HE.out.call k t w3 _ f r HINV3.out (by omega) hrow hown (by have := HWN.out; rw [List.length_cons] at this; omega))
        have hent := HENT.out
        clear h0 hrow hown
        go_wp2_with fail
        refine HCALL.out.mono ?_
        rintro e4 w4 ⟨rfl, ht4, hans⟩
        have hlr4 := HLR3.out.turn ht4 (fun h => h _ HLR3.out)
        have HLR4 := Lib.hid hlr4
        clear hent
        cases hst : step t (f :: r) with
        | error n =>
          rw [hst] at hans
          obtain ⟨c3, hn0, hpl⟩ := HE.out.bad _ _ hans
          have hnq : (n == 0) = false := by rw [beq_eq_false_iff_ne]; exact hn0
          have HRES := Lib.hid (show goSt step 0 s0 (linesOf s.data.toList) = .error ((k : Int) + 1, n) from by
            rw [HGO.out, HDROP.out, HWL.out, goSt_bad (by simp) hst])
          have HB := Lib.hid hans
          clear hst hans ht4 hlr4
          go_wp2
          go_ret2
          refine ⟨(k : Int) + 1, by rw [HNL.out]; rfl, ?_⟩
          rw [HRES.out]
          exact ⟨rfl, HB.out⟩
        | ok u =>
          rw [hst] at hans
          obtain ⟨c3, hpl⟩ := HE.out.e0 _ _ _ hans
          have HNX := Lib.hid (show goSt step 0 s0 (linesOf s.data.toList) = goSt step (k + 1) u ((linesOf s.data.toList).drop (k + 1)) from by
            rw [HGO.out, HDROP.out, HWL.out, goSt_next (by simp) hst])
          have HI := Lib.hid hans
          clear hst hans ht4 hlr4
          go_wp2
          go_roundw
          case rel => exact ⟨k + 1, u, by go_num, by omega, HI.out, HLR4.out, HNX.out⟩
          case measure => simp [intOf]; omega
    · obtain rfl : N = k := by omega
      have HNX := Lib.hid (show goSt step 0 s0 (linesOf s.data.toList) = .ok t from by
        rw [HGO.out, List.drop_eq_nil_of_le (by rw [HNL.out]; exact Nat.le_refl _)]; rfl)
      go_wp2
      go_ret2
      refine ⟨0, by rw [HNL.out]; rfl, ?_⟩
      rw [HNX.out]
      exact ⟨rfl, N, hNs, HINV.out⟩
end
end Go.Proofs.YtmhojfpidedjeaaDoor
namespace Go.Proofs.YtmhojfpidedjeaaDoor
open Go.RowKit
set_option linter.unusedVariables false
theorem put_block {w : World} {g : Nat} {old : Array Value} {t : TypeId} (h : w.heap[g]? = some (.cells old t (0, 0))) (cs : Array Value) : (w.setRow g cs).heap[g]? = some (.cells cs t (0, 0)) := by
  simp [World.setRow, Array.getElem?_modify, h]
theorem put_turn {S : Nat → Prop} {w : World} {g : Nat} (hg : S g) (cs : Array Value) : Turn S w (w.setRow g cs) := by
  refine ⟨rfl, rfl, rfl, by simp [World.setRow], fun k hk hs => ?_⟩
  have : g ≠ k := fun e => hs (e ▸ hg)
  simp [World.setRow, Array.getElem?_modify, this]
section
variable {T : TypeId} {w0 w : World} {pb : Nat} {tl : List Value} {params pl e : Int} {bv : Value} {bl : List FBlk}
theorem PaM.start (w : World) (T : TypeId) (tl : List Value) (hk : T ≠ 52 ∧ T ≠ 76 ∧ T ≠ 46) : PaM T w w.heap.size tl 0 0 0 (.slice none 0 0) [] (w.alloc (.cells (.int .i64 0 :: .slice none 0 0 :: .int .i64 0 :: .int .i64 0 :: tl).toArray T)) :=
  ⟨HeapIs.new _ _ _, OwnRow.nil _ _ _ _ _, fun i b h => (by simp at h), fun b h => (by simp at h), (Since.refl w).alloc _, fun q hq => (by
    rcases hq with h | h | ⟨b, h, _⟩
    · omega
    · cases h
    · simp at h), hk⟩
theorem RowIn.imp {α : Type} {f : α → List Value} {sz : Nat} {p p' : World → α → Prop} {w : World} {v : Value} {l : List α} (h : RowIn f sz p w v l) (hp : ∀ x, p w x → p' w x) : RowIn f sz p' w v l := by
  rcases h with h | ⟨b, off, cap, h1, h2, h3, h4, h5⟩
  · exact .inl h
  · exact .inr ⟨b, off, cap, h1, h2, h3, h4, fun j x hj => ⟨(h5 j x hj).1, hp x (h5 j x hj).2⟩⟩
theorem BkStay.fn {S : Nat → Prop} {b : FBlk} (h : BkStay S w b) : FBlkIn w b := ⟨RowIn.imp h.phis fun _ hx => hx.1, RowIn.imp h.ins fun _ hx => hx.1, h.term.read⟩
/-- What was parsed is a function that lies in memory, though what was there ahead of the parser turns. -/
theorem PaM.fnTurn {R : Nat → Prop} {w' : World} (h : PaM T w0 pb tl params pl e bv bl w) (t : Turn R w w') (hR : ∀ q, R q → q < w0.heap.size) : FnIn w' ⟨params, bl, bv⟩ := by
  have hn : ∀ q, PaOwn pb bv bl q → ¬ R q := fun q hq hr => by have := h.new q hq; have := hR q hr; omega
  have h1 : ∀ q, R q → PaS w0 pb bv bl q := fun q hq => .inr (hR q hq)
  have h2 : ∀ q, PaS w0 pb bv bl q → PaS w0 pb bv bl q ∨ w.heap.size ≤ q := fun q hq => .inl hq
  refine row_of_own fbcells_len (own_turn h.row t fun q hq => hn q (.inr (.inl hq))) fun b hb => ?_
  obtain ⟨i, hi⟩ := List.getElem?_of_mem hb
  have hlt : i < bl.length := (List.getElem?_eq_some_iff.1 hi).1
  by_cases hl : i + 1 < bl.length
  · exact ((h.early i b hi hl).turn t h1 h2).fn
  · obtain rfl : i = bl.length - 1 := by omega
    have hl := h.last b hi
    exact ⟨row_of_own fpcells_len (own_turn hl.phis t fun q hq => hn q (.inr (.inr ⟨b, hi, .inl hq⟩))) fun p hp => ((hl.phi p hp).turn t h1 h2).1, row_of_own ficells_len (own_turn hl.ins t fun q hq => hn q (.inr (.inr ⟨b, hi, .inr hq⟩))) fun x hx => ((hl.inx x hx).turn t h1 h2).1, (hl.term.turn t h1 h2).read⟩
end
theorem parse_runL (s : Bs) : parseS s = match runL stepSt ⟨0, [], 0⟩ (numd 1 (linesOf s)) with
    | .error x => ⟨⟨0, []⟩, x.1, x.2⟩
    | .ok t => if t.pl = 1 ∧ t.blocks ≠ [] then ⟨⟨t.params, t.blocks⟩, 0, 0⟩ else ⟨⟨0, []⟩, ((linesOf s).length : Int), 70⟩ := by
  unfold parseS
  rw [goSt_runL stepSt (linesOf s) 0 ⟨0, [], 0⟩]
  rfl
theorem fn_nil (w : World) : FnIn w ⟨0, [], .slice none 0 0⟩ := .inl ⟨none, rfl, rfl⟩
end Go.Proofs.YtmhojfpidedjeaaDoor
namespace Go.Proofs.YtmhojfpidedjeaaDoor
open Go.RowKit
set_option linter.unusedVariables false
theorem PaM.noText {T : TypeId} {w0 w : World} {pb : Nat} {tl : List Value} {params pl e : Int} {bv : Value} {bl : List FBlk} (h : PaM T w0 pb tl params pl e bv bl w) (hT : T ≠ 9) {q : Nat} (hq : PaOwn pb bv bl q) : NoText w q := fun cs hb => by
  rcases hq with rfl | hq | ⟨b, hbl, hq | hq⟩
  · exact heap_ne h.box hb hT rfl
  · exact own_not h.row hb (by decide) hq
  · exact own_not (h.last b hbl).phis hb (by decide) hq
  · exact own_not (h.last b hbl).ins hb (by decide) hq
def PInv (w0 : World) (pb : Nat) (i : Nat) (t : PSt) (w : World) : Prop := ∃ bv bl, TPa w0 pb (.slice none 0 0) t.params t.pl 0 bv bl w ∧ t.blocks = bl.map FBlk.d ∧ FewSt i t
def PBad (w0 : World) (pb : Nat) (n : Int) (w : World) : Prop := ∃ params pl bv bl, TPa w0 pb (.slice none 0 0) params pl n bv bl w ∧ n ≠ 0
theorem line_enters (args : Array Value) (w : World) : (callFunc 16 args).run Tryd.prog w = .ok (.enter 16 args) w := by
  simp [callFunc, Tryd.func16]
  first | rfl | skip
theorem parse_ok (w0 : World) (pb : Nat) (hL : LaidT w0) : EachOk 16 pb stepSt (PInv w0 pb) (PBad w0 pb) where
  e0 := fun i t w ⟨bv, bl, h, _, _⟩ => ⟨h.cell 3, h.box.lt⟩
  keep := fun i t w w' ⟨bv, bl, h, h1, h2⟩ s => ⟨bv, bl, h.keep s, h1, h2⟩
  laid := fun i t w ⟨bv, bl, h, _, _⟩ => hL.keep h.old
  more := fun i t w ⟨bv, bl, h, h1, h2⟩ => ⟨bv, bl, h, h1, h2.more⟩
  enters := line_enters
  bad := fun n w ⟨params, pl, bv, bl, h, hn⟩ => ⟨h.cell 3, hn, h.box.lt⟩
  call := fun i t w v f r ⟨bv, bl, h, hb, hf⟩ hi hv hq hn => by
    obtain ⟨params, blocks, pl⟩ := t
    simp only at hb h
    subst hb
    have hst : Stays (PaOwn pb bv bl) w v := fun q hqq => by
      obtain ⟨cs, hcs⟩ := hq q hqq
      exact ⟨fun hp => h.noText (by decide) hp cs hcs, hcs.lt⟩
    refine (pline_any w h hL ⟨hf.pl.1, hf.pl.2.1, fun h2 e => hf.pl.2.2 h2 (by rw [e]; rfl)⟩ v f r hv hst hn (by have := hf.bl; simp only [List.length_map] at this; omega) (fun b hb => by
      have := hf.each b.d (List.mem_map_of_mem (List.mem_of_getElem? hb))
      have e1 : b.d.phis.length = b.phis.length := by simp [FBlk.d]
      have e2 : b.d.ins.length = b.ins.length := by simp [FBlk.d]
      omega)).mono ?_
    rintro x w' ⟨rfl, params', pl', e', bv', bl', hp, ht, hans⟩
    refine ⟨rfl, ht.mono fun q _ hpq => h.noText (by decide) hpq, ?_⟩
    cases hs : stepSt ⟨params, bl.map FBlk.d, pl⟩ (f :: r) with
    | error n =>
      rw [hs] at hans
      obtain ⟨h1, h2⟩ := hans
      subst h1
      exact ⟨params', pl', bv', bl', hp, h2⟩
    | ok u =>
      rw [hs] at hans
      obtain ⟨h1, h2⟩ := hans
      subst h1 h2
      exact ⟨bv', bl', hp, rfl, hf.step hs⟩
def ParseQ (s : ByteArray) (w : World) (e : Ending) (w' : World) : Prop := ∃ f line er, e = .returned (.tuple #[fv f, .int .i64 line, .int .i64 er]) ∧ FnIn w' f ∧ (⟨f.d, line, er⟩ : PRes) = parseS s.data.toList ∧ Since w w'
structure FunPh (rb : Nat) (w6 : World) (cs : Array Value) (w8 : World) : Prop where
  t : Turn (fun q => q = rb) w6 w8
  b : HeapIs w8 rb cs 28
set_option maxHeartbeats 8000000 in
set_option maxRecDepth 100000 in
theorem parse_any (s : ByteArray) (w : World) (hs : s.size ≤ 300000) (hL : LaidT w) : Calls Tryd.prog 6 #[.string s] w (ParseQ s w) := by
  have hs1 : Since w (w.alloc (.cells #[.int .i64 0, .slice none 0 0] 28)) := (Since.refl w).alloc _
  have HL1 := Lib.hid (hL.keep hs1)
  have HS1 := Lib.hid hs1
  have HB1 := Lib.hid (HeapIs.new w #[.int .i64 0, .slice none 0 0] 28)
  clear hs1 hL
  go_enter Tryd.func6, Tryd.ntmps6
  go_wp2_with fail
  obtain ⟨rb, hrb⟩ : ∃ q, w.heap.size = q := ⟨_, rfl⟩
  rw [hrb] at HB1
  obtain ⟨w1, hw1⟩ : ∃ w1, w.alloc (.cells #[.int .i64 0, .slice none 0 0] 28) = w1 := ⟨_, rfl⟩
  rw [hw1] at HL1 HS1 HB1
  obtain ⟨pb, hpb⟩ : ∃ q, w1.heap.size = q := ⟨_, rfl⟩
  have hp0 := PaM.start w1 57 [.slice none 0 0] (by decide)
  rw [hpb] at hp0
  have HP0 := Lib.hid hp0
  have HRB := Lib.hid hrb
  have hpe : w.heap.size + 1 = pb := by rw [← hpb, ← hw1]; simp
  rw [hrb] at hpe
  rw [hw1]
  try rw [hrb]
  try rw [hpe]
  clear hp0 hw1 hrb hpb
  clear hpe
  refine (each_any (parse_ok w1 pb HL1.out) ⟨0, [], 0⟩ s _ ⟨_, [], HP0.out, rfl, FewSt.start⟩ hs).mono ?_
  rintro e2 w2 ⟨wrong, rfl, hans⟩
  obtain ⟨N, hN⟩ : ∃ N, (linesOf s.data.toList).length = N := ⟨_, rfl⟩
  rw [hN]
  have HN := Lib.hid hN
  have HPS := Lib.hid (show parseS s.data.toList = match goSt stepSt 0 ⟨0, [], 0⟩ (linesOf s.data.toList) with
    | .error x => ⟨⟨0, []⟩, x.1, x.2⟩
    | .ok t => if t.pl = 1 ∧ t.blocks ≠ [] then ⟨⟨t.params, t.blocks⟩, 0, 0⟩ else ⟨⟨0, []⟩, ((linesOf s.data.toList).length : Int), 70⟩ from rfl)
  clear hN
  cases hg : goSt stepSt 0 ⟨0, [], 0⟩ (linesOf s.data.toList) with
  | error x =>
    rw [hg] at hans
    obtain ⟨ln, E⟩ := x
    obtain ⟨h1, params, pl, bv, bl, hp, hn0⟩ := hans
    simp only at h1 hp hn0
    subst h1
    have HRS := Lib.hid (show (⟨(⟨0, [], .slice none 0 0⟩ : FnV).d, wrong, E⟩ : PRes) = parseS s.data.toList from by rw [HPS.out, hg]; rfl)
    have hE : (E == 0) = false := by rw [beq_eq_false_iff_ne]; exact hn0
    have c3 : w2.cell? ⟨pb, 3, none⟩ = some (.int .i64 E) := hp.cell 3
    have hpl := hp.box.lt
    have HB2 := Lib.hid (HB1.out.keep hp.old)
    have HS2 := Lib.hid (HS1.out.trans hp.old)
    have hpr : pb ≠ rb := heap_ne hp.box HB2.out (by decide)
    clear hg hp hn0
    go_wp2_with fail
    refine wp_region_phases [6] [0, 0, 0, 0, 0, 0, 0, 1, 1] [0, 1, 1, 1, 1, 1, 0, 1, 1] [0, 0, 0, 0, 0, 0, 1, 0, 0] (fun p w8 => FunPh rb w2 #[.int .i64 0, .slice none 0 0] w8) rfl (by decide +kernel) (by decide +kernel) (by decide +kernel)
      [Is (.agg #[.int .i64 0, .slice none 0 0]), Is (.int .i64 wrong), Is (.pointer (some ⟨pb, 0, none⟩)), Is (.pointer (some ⟨pb, 0, none⟩)), Is (.pointer (some ⟨pb, 3, none⟩)), Is (.int .i64 E), Any, Is (.int .i64 wrong), Is (.int .i64 E)]
      (by repeat (first | exact trivial | refine ⟨Is.fixed _, ?_⟩ | refine ⟨Any.fixed, ?_⟩)) ⟨Turn.since ((Since.refl w2).drew), HB2.out.keep ((Since.refl w2).drew)⟩ ⟨?_, ?_, ?_, ?_, ?_, ?_, ?_, ?_, ?_, trivial⟩ ?_
    rotate_right
    · intro vs w8 _ hph hk
      simp only [putAll, Act.put, KnowsAll, nthF, Is, Any, List.setIfInBounds_toArray, List.set_cons_zero, List.set_cons_succ, Nat.reduceAdd, List.length_cons, List.length_nil] at hk ⊢
      try simp only [hk]
      have HB8 := Lib.hid (show HeapIs w8 rb #[.int .i64 0, .slice none 0 0] 28 from hph.b)
      have d0 := HB8.out.cell 0
      have d1 := HB8.out.cell 1
      have dl := HB8.out.lt
      have HS8 := Lib.hid (hph.t.toSince HS2.out fun q hq e => by have := HRB.out; omega)
      clear hph hk
      go_wp2
      exact bodyPost_ret (v := .tuple #[.agg #[.int .i64 0, .slice none 0 0], .int .i64 wrong, .int .i64 E]) (by simp [results, Tryd.results6, go_sem, d0, d1]) rfl ⟨⟨0, [], .slice none 0 0⟩, wrong, E, rfl, fn_nil _, HRS.out, HS8.out⟩
    all_goals
      intro p vs w8 hlo hhi _ hph hk
      simp only [putAll, Act.put, Knows, nthF, Is, Any, List.setIfInBounds_toArray, List.set_cons_zero, List.set_cons_succ, Nat.reduceAdd] at hk ⊢
      try simp only [hk]
    · go_wp2
      exact ⟨_, rfl, rfl, trivial, hph⟩
    · go_wp2
      exact ⟨_, rfl, rfl, trivial, hph⟩
    · go_wp2
      exact ⟨_, rfl, rfl, trivial, hph⟩
    · go_wp2
      exact ⟨_, rfl, rfl, trivial, hph⟩
    · go_wp2
      exact ⟨_, rfl, rfl, trivial, hph⟩
    · have z1 : w8.cell? ⟨pb, 3, none⟩ = some (.int .i64 E) := (hph.t.cell (p := ⟨pb, 3, none⟩) hpl hpr).trans c3
      have z2 : pb < w8.heap.size := Nat.lt_of_lt_of_le hpl hph.t.size
      go_wp2
      exact ⟨_, rfl, rfl, trivial, hph⟩
    · have HB8 := Lib.hid (show HeapIs w8 rb #[.int .i64 0, .slice none 0 0] 28 from hph.b)
      have HT8 := Lib.hid hph.t
      clear hph
      refine wpList_store_row rfl 28 _ _ rfl rb #[.int .i64 0, .slice none 0 0] rfl rfl 28 _ HB8.out (by kernel_rfl) rfl (by rw [← Array.all_toList]; rfl) ?_
      go_wp2
      exact ⟨undef, rfl, trivial, trivial, ⟨HT8.out.trans (put_turn (S := fun q => q = rb) rfl _), put_block HB8.out _⟩⟩
    · go_wp2
      exact ⟨_, rfl, rfl, trivial, hph⟩
    · go_wp2
      exact ⟨_, rfl, rfl, trivial, hph⟩
  | ok t =>
    rw [hg] at hans
    obtain ⟨h1, i, hi, bv, bl, hp, hbl, hfew⟩ := hans
    obtain ⟨params, blocks, pl⟩ := t
    simp only at hp hbl
    subst h1 hbl
    have c0 : w2.cell? ⟨pb, 0, none⟩ = some (.int .i64 params) := hp.cell 0
    have c1 : w2.cell? ⟨pb, 1, none⟩ = some bv := hp.cell 1
    have c2 : w2.cell? ⟨pb, 2, none⟩ = some (.int .i64 pl) := hp.cell 2
    have c3 : w2.cell? ⟨pb, 3, none⟩ = some (.int .i64 0) := hp.cell 3
    have hpl := hp.box.lt
    obtain ⟨va, vc, hv⟩ := own_shape hp.row
    obtain ⟨bn, hbn⟩ : ∃ n, bl.length = n := ⟨_, rfl⟩
    rw [hbn] at hv
    subst hv
    have HBN := Lib.hid hbn
    have hbb : bn ≤ 300001 := by have := hfew.bl; simp only [List.length_map] at this; omega
    have HP := Lib.hid hp
    have HB2 := Lib.hid (HB1.out.keep hp.old)
    have HS2 := Lib.hid (HS1.out.trans hp.old)
    have HGO := Lib.hid hg
    clear hbn hp hfew hg
    by_cases hp1 : pl = 1
    · subst hp1
      by_cases hb0 : bn = 0
      · subst hb0
        have HBL := Lib.hid (List.length_eq_zero_iff.1 HBN.out)
        have HRS := Lib.hid (show (⟨(⟨0, [], .slice none 0 0⟩ : FnV).d, N, 70⟩ : PRes) = parseS s.data.toList from by rw [HPS.out, HGO.out, HBL.out]; simp [FnV.d, HN.out])
        go_wp2_with (refine wpList_store_row rfl 28 _ _ rfl rb #[.int .i64 0, .slice none 0 0] rfl rfl 28 _ HB2.out (by kernel_rfl) rfl (by rw [← Array.all_toList]; rfl) ?_)
        have hb5 : HeapIs (w2.setRow rb #[.int .i64 0, .slice none 0 0]) rb #[.int .i64 0, .slice none 0 0] 28 := put_block HB2.out _
        have hs5 : Since w (w2.setRow rb #[.int .i64 0, .slice none 0 0]) := since_setRow HS2.out (Nat.le_of_eq HRB.out) _
        have hfn : FnIn (w2.setRow rb #[.int .i64 0, .slice none 0 0]) ⟨0, [], .slice none 0 0⟩ := fn_nil _
        generalize w2.setRow rb #[.int .i64 0, .slice none 0 0] = w5 at *
        have d0 := hb5.cell 0
        have d1 := hb5.cell 1
        have hl5 := hb5.lt
        have HS5 := Lib.hid hs5
        have HFN := Lib.hid hfn
        clear hb5 hs5 hfn
        go_wp2
        exact bodyPost_ret (v := .tuple #[.agg #[.int .i64 0, .slice none 0 0], .int .i64 N, .int .i64 70]) (by simp [results, Tryd.results6, go_sem, d0, d1]) rfl ⟨⟨0, [], .slice none 0 0⟩, N, 70, rfl, HFN.out, HRS.out, HS5.out⟩
      · have hq0 : ((bn : Int) == 0) = false := by rw [beq_eq_false_iff_ne]; omega
        have HRS := Lib.hid (show (⟨(⟨params, bl, .slice va bn vc⟩ : FnV).d, 0, 0⟩ : PRes) = parseS s.data.toList from by
          have hne : bl.map FBlk.d ≠ [] := fun e => by rw [List.map_eq_nil_iff] at e; rw [e] at HBN; exact hb0 HBN.out.symm
          rw [HPS.out, HGO.out]; show _ = (if (1 : Int) = 1 ∧ bl.map FBlk.d ≠ [] then _ else _); rw [if_pos ⟨rfl, hne⟩]; rfl)
        clear hb0
        go_wp2_with (refine wpList_store_row rfl 28 _ _ rfl rb #[.int .i64 params, .slice va bn vc] rfl rfl 28 _ HB2.out (by kernel_rfl) rfl (by rw [← Array.all_toList]; rfl) ?_)
        have hb5 : HeapIs (w2.setRow rb #[.int .i64 params, .slice va bn vc]) rb #[.int .i64 params, .slice va bn vc] 28 := put_block HB2.out _
        have hs5 : Since w (w2.setRow rb #[.int .i64 params, .slice va bn vc]) := since_setRow HS2.out (Nat.le_of_eq HRB.out) _
        have hfn : FnIn (w2.setRow rb #[.int .i64 params, .slice va bn vc]) ⟨params, bl, .slice va bn vc⟩ := HP.out.fnTurn (R := fun q => q = rb) (put_turn (S := fun q => q = rb) rfl _) (fun q hq => by rw [hq]; exact HB1.out.lt)
        generalize w2.setRow rb #[.int .i64 params, .slice va bn vc] = w5 at *
        have d0 := hb5.cell 0
        have d1 := hb5.cell 1
        have hl5 := hb5.lt
        have HS5 := Lib.hid hs5
        have HFN := Lib.hid hfn
        clear hb5 hs5 hfn
        go_wp2
        exact bodyPost_ret (v := .tuple #[.agg #[.int .i64 params, .slice va bn vc], .int .i64 0, .int .i64 0]) (by simp [results, Tryd.results6, go_sem, d0, d1]) rfl ⟨⟨params, bl, .slice va bn vc⟩, 0, 0, rfl, HFN.out, HRS.out, HS5.out⟩
    · have hq1 : (pl == 1) = false := by rw [beq_eq_false_iff_ne]; exact hp1
      have HRS := Lib.hid (show (⟨(⟨0, [], .slice none 0 0⟩ : FnV).d, N, 70⟩ : PRes) = parseS s.data.toList from by rw [HPS.out, HGO.out]; simp only []; rw [if_neg (fun h => hp1 h.1)]; simp [FnV.d, HN.out])
      clear hp1
      go_wp2_with (refine wpList_store_row rfl 28 _ _ rfl rb #[.int .i64 0, .slice none 0 0] rfl rfl 28 _ HB2.out (by kernel_rfl) rfl (by rw [← Array.all_toList]; rfl) ?_)
      have hb5 : HeapIs (w2.setRow rb #[.int .i64 0, .slice none 0 0]) rb #[.int .i64 0, .slice none 0 0] 28 := put_block HB2.out _
      have hs5 : Since w (w2.setRow rb #[.int .i64 0, .slice none 0 0]) := since_setRow HS2.out (Nat.le_of_eq HRB.out) _
      have hfn : FnIn (w2.setRow rb #[.int .i64 0, .slice none 0 0]) ⟨0, [], .slice none 0 0⟩ := fn_nil _
      generalize w2.setRow rb #[.int .i64 0, .slice none 0 0] = w5 at *
      have d0 := hb5.cell 0
      have d1 := hb5.cell 1
      have hl5 := hb5.lt
      have HS5 := Lib.hid hs5
      have HFN := Lib.hid hfn
      clear hb5 hs5 hfn
      go_wp2
      exact bodyPost_ret (v := .tuple #[.agg #[.int .i64 0, .slice none 0 0], .int .i64 N, .int .i64 70]) (by simp [results, Tryd.results6, go_sem, d0, d1]) rfl ⟨⟨0, [], .slice none 0 0⟩, N, 70, rfl, HFN.out, HRS.out, HS5.out⟩
end Go.Proofs.YtmhojfpidedjeaaDoor
namespace Go.Proofs.YtmhojfpidedjeaaDoor
open Go.RowKit
set_option linter.unusedVariables false
def LineQ (B b : Nat) (m : Bs) (w : World) (e : Ending) (w' : World) : Prop := e = .returned (.tuple #[]) ∧ Bu B b m w' ∧ Kept B b w w'
set_option maxHeartbeats 4000000 in
set_option maxRecDepth 100000 in
theorem line_any (B b : Nat) (l : Bs) (first : ByteArray) (v : Value) (its : List It) (w : World) (hb : Bu B b l w) (hB : B ≤ w.heap.size) (hR : ∀ w', Kept B b w w' → ItsIn w' v its) (hL : ∀ w', Kept B b w w' → LaidT w')
    (hn : l.length + (first.size + (its.flatMap itS).length) ≤ 1000000000000) :
    Calls Tryd.prog 21 #[.pointer (some ⟨b, 0, none⟩), .string first, v] w (LineQ B b (l ++ (first.data.toList ++ (its.flatMap itS ++ [10]))) w) := by
  obtain ⟨ra, rc, rfl, hrl⟩ := RowIn.shape (hR w (Kept.refl _ _ _))
  unfold maxLen at hrl
  have HR := Lib.hid hR
  have HL := Lib.hid hL
  have HN0 := Lib.hid hn
  have hfs := bytes_len first
  clear hR hL
  go_enter Tryd.func21, Tryd.ntmps21
  go_wp2_with fail
  refine (bu_string B b (Lib.byteCells l) first w hb (by rw [Lib.byteCells_length]; omega) hB).mono ?_
  rintro e w1 ⟨rfl, hb1, hk1⟩
  have HB1 := Lib.hid (bu_app hb1 rfl)
  have HK1 := Lib.hid hk1
  clear hb1 hk1 hb
  go_wp2_with fail
  go_loopw [21] (fun i wr => ∃ k : Nat, i = .int .i64 k ∧ k ≤ its.length ∧ Bu B b (l ++ (first.data.toList ++ (its.take k).flatMap itS)) wr ∧ Kept B b w wr) (fun i _ => its.length - (intOf i).toNat)
  case atStart => exact ⟨0, rfl, Nat.zero_le _, by rw [List.take_zero, List.flatMap_nil, List.append_nil]; exact HB1.out, HK1.out⟩
  case round =>
    obtain ⟨i, rfl, hi, hb, hk⟩ := hrel
    have HB := Lib.hid hb
    have HK := Lib.hid hk
    have HS := Lib.hid (Nat.le_trans hB hk.size)
    clear hb hk
    by_cases hlt : i < its.length
    · obtain ⟨rb, off, x, rfl, hrb, hx, hc, hp⟩ := RowIn.at (HR.out _ HK.out) hlt
      have hc := hc 0 (by decide)
      have HX0 := Lib.hid hx
      have hft := flat_take itS its i
      have hfn := flat_take itS its (i + 1)
      rw [flat_next itS hx, List.length_append] at hfn
      rw [Nat.mul_one, Nat.add_zero] at hc
      clear hx
      cases x with
      | ns z y =>
        replace hc : wr.cell? ⟨rb, off + i, none⟩ = some (.iface 33 _) := hc
        have h0 := ta_hit Tryd.underlying33 (fun m e => by cases e)
        obtain ⟨hz, h64⟩ := hp
        obtain ⟨za, zc, rfl⟩ := nums_lenI hz
        have hyl := Nums.len hz
        unfold maxLen at hyl
        have H64 := Lib.hid h64
        have HFN := Lib.hid hfn
        clear hz h64 hfn hft
        go_wp2_with fail
        go_loopw [31] (fun q ws => ∃ j : Nat, q = .int .i64 j ∧ j ≤ y.length ∧ Bu B b ((l ++ (first.data.toList ++ (its.take i).flatMap itS)) ++ allS (y.take j)) ws ∧ Kept B b w ws) (fun q _ => y.length - (intOf q).toNat)
        case atStart => exact ⟨0, rfl, Nat.zero_le _, by rw [List.take_zero]; unfold allS; rw [List.flatMap_nil, List.append_nil]; exact HB.out, HK.out⟩
        case round =>
          obtain ⟨j, rfl, hj, hb, hk⟩ := hrel
          have HB := Lib.hid hb
          have HK := Lib.hid hk
          have HS := Lib.hid (Nat.le_trans hB hk.size)
          clear hb hk
          by_cases hjl : j < y.length
          · have hp2 := RowIn.get (HR.out _ HK.out) HX0.out
            obtain ⟨yb, yo, u, rfl, hyb, hu, hcu⟩ := nums_at hp2.1 hjl
            have HX := Lib.hid (H64.out u (List.mem_of_getElem? hu))
            have hjt := flat_take dS y (j + 1)
            rw [flat_next dS hu, List.length_append] at hjt
            have HU := Lib.hid hu
            have HN := Lib.hid (show ((l ++ (first.data.toList ++ (its.take i).flatMap itS)) ++ allS (y.take j)).length + (⟨#[32]⟩ ++ ⟨(Lib.itoa u).toArray⟩ : ByteArray).size ≤ 140737488355328 from by rw [← bytes_len (⟨#[32]⟩ ++ _)]; show _ + (dS u).length ≤ _; have := HFN.out; simp only [List.length_append]; simp only [itS, allS] at this ⊢; omega)
            have hz5 := itoa_fits u HX.out
            clear hp2 hjt hu
            go_wp2_with fail
            refine wp_region_since_tail 6 rfl (by decide +kernel) (by decide +kernel) (by decide +kernel) (by decide)
              [Is (.pointer (some ⟨b, 0, none⟩)), Is (.pointer (some ⟨b, 0, none⟩)), Is (.pointer (some ⟨b, 0, none⟩)), Is (.int .i64 u), Is (.string ⟨(Lib.itoa u).toArray⟩), Is (.string (⟨#[32]⟩ ++ ⟨(Lib.itoa u).toArray⟩))]
              (by repeat (first | exact trivial | refine ⟨Is.stable _, ?_⟩ | refine ⟨Any.stable, ?_⟩ | refine ⟨IsNums.stable _ _, ?_⟩)) ⟨?_, ?_, ?_, ?_, ?_, ?_, trivial⟩ ?_
            rotate_right
            · intro vs w1 hs hk
              simp only [List.take, List.drop, putAll, Act.put, KnowsAll, nthF, Is, List.setIfInBounds_toArray, List.set_cons_zero, List.set_cons_succ, Nat.reduceAdd] at hk ⊢
              try simp only [hk]
              have HB2 := Lib.hid (HB.out.keep hs)
              have HK2 := Lib.hid (HK.out.trans (Kept.since hs HS.out))
              have HS2 := Lib.hid (Nat.le_trans HS.out hs.size)
              clear hs hk
              go_wp2_with fail
              refine (bu_string B b (Lib.byteCells ((l ++ (first.data.toList ++ (its.take i).flatMap itS)) ++ allS (y.take j))) _ w1 HB2.out (by rw [Lib.byteCells_length]; exact HN.out) HS2.out).mono ?_
              rintro e w2 ⟨rfl, hb2, hk2⟩
              have HB3 := Lib.hid (bu_app hb2 (m := ((l ++ (first.data.toList ++ (its.take i).flatMap itS)) ++ allS (y.take j)) ++ dS u) rfl)
              have HK3 := Lib.hid (HK2.out.trans hk2)
              clear hb2 hk2
              go_wp2
              go_roundw
              case rel => exact ⟨j + 1, by go_num, by omega, by unfold allS at HB3 ⊢; rw [flat_next dS HU.out]; rw [← List.append_assoc]; exact HB3.out, HK3.out⟩
              case measure => simp [intOf]; omega
            all_goals
              intro vs w1 hs hk _
              simp only [List.take, putAll, Act.put, Knows, nthF, Is, List.setIfInBounds_toArray, List.set_cons_zero, List.set_cons_succ, Nat.reduceAdd] at hk ⊢
              try simp only [hk]
            · go_wp2
              exact ⟨_, rfl, rfl, Since.refl _⟩
            · go_wp2
              exact ⟨_, rfl, rfl, Since.refl _⟩
            · go_wp2
              exact ⟨_, rfl, rfl, Since.refl _⟩
            · go_wp2
              exact ⟨_, rfl, rfl, Since.refl _⟩
            · go_wp2_with fail
              refine (Tryd.strconv_Itoa u HX.out.1 HX.out.2 _ (HL.out _ (HK.out.trans (Kept.since hs HS.out))).s.tab).mono ?_
              rintro e w2 ⟨rfl, k, os, rfl⟩
              have HG := Lib.hid (grow_below w1 k os)
              generalize Sort.grow (w1.drewN k) os = w2 at *
              go_wp2
              exact ⟨_, rfl, rfl, HG.out⟩
            · go_wp2
              exact ⟨_, rfl, rfl, Since.refl _⟩
          · obtain rfl : y.length = j := by omega
            have HB3 := Lib.hid HB.out
            have HK3 := Lib.hid HK.out
            rw [List.take_length] at HB3
            have HB3 := Lib.hid (show Bu B b ((l ++ (first.data.toList ++ (its.take i).flatMap itS)) ++ itS (.ns (.slice za y.length zc) y)) _ from HB3.out)
            go_wp2
            go_roundw
            case rel => exact ⟨i + 1, by go_num, by omega, by rw [flat_next itS HX0.out]; simpa only [List.append_assoc] using HB3.out, HK3.out⟩
            case measure => simp [intOf]; omega
      | n y =>
        replace hc : wr.cell? ⟨rb, off + i, none⟩ = some (.iface 3 _) := hc
        have h0 := ta_miss (s := 3) Tryd.underlying33 (fun m e => by cases e) Tryd.zeroValue33 (by decide)
        have h1 := ta_hit Tryd.underlying3 (fun m e => by cases e)
        have HX := Lib.hid hp
        have HN := Lib.hid (show (l ++ (first.data.toList ++ (its.take i).flatMap itS)).length + (⟨#[32]⟩ ++ ⟨(Lib.itoa y).toArray⟩ : ByteArray).size ≤ 140737488355328 from by rw [← bytes_len (⟨#[32]⟩ ++ _)]; show _ + (dS y).length ≤ _; simp only [List.length_append]; simp only [itS] at hfn; omega)
        have hz5 := itoa_fits y HX.out
        clear hp hfn hft
        go_wp2_with fail
        refine wp_region_since_tail 6 rfl (by decide +kernel) (by decide +kernel) (by decide +kernel) (by decide)
          [Is (.pointer (some ⟨b, 0, none⟩)), Is (.pointer (some ⟨b, 0, none⟩)), Is (.pointer (some ⟨b, 0, none⟩)), Is (.int .i64 y), Is (.string ⟨(Lib.itoa y).toArray⟩), Is (.string (⟨#[32]⟩ ++ ⟨(Lib.itoa y).toArray⟩))]
          (by repeat (first | exact trivial | refine ⟨Is.stable _, ?_⟩ | refine ⟨Any.stable, ?_⟩ | refine ⟨IsNums.stable _ _, ?_⟩)) ⟨?_, ?_, ?_, ?_, ?_, ?_, trivial⟩ ?_
        rotate_right
        · intro vs w1 hs hk
          simp only [List.take, List.drop, putAll, Act.put, KnowsAll, nthF, Is, List.setIfInBounds_toArray, List.set_cons_zero, List.set_cons_succ, Nat.reduceAdd] at hk ⊢
          try simp only [hk]
          have HB2 := Lib.hid (HB.out.keep hs)
          have HK2 := Lib.hid (HK.out.trans (Kept.since hs HS.out))
          have HS2 := Lib.hid (Nat.le_trans HS.out hs.size)
          clear hs hk
          go_wp2_with fail
          refine (bu_string B b (Lib.byteCells (l ++ (first.data.toList ++ (its.take i).flatMap itS))) _ w1 HB2.out (by rw [Lib.byteCells_length]; exact HN.out) HS2.out).mono ?_
          rintro e w2 ⟨rfl, hb2, hk2⟩
          have HB3 := Lib.hid (bu_app hb2 (m := (l ++ (first.data.toList ++ (its.take i).flatMap itS)) ++ itS (.n y)) rfl)
          have HK3 := Lib.hid (HK2.out.trans hk2)
          clear hb2 hk2
          go_wp2
          go_roundw
          case rel => exact ⟨i + 1, by go_num, by omega, by rw [flat_next itS HX0.out]; simpa only [List.append_assoc] using HB3.out, HK3.out⟩
          case measure => simp [intOf]; omega
        all_goals
          intro vs w1 hs hk _
          simp only [List.take, putAll, Act.put, Knows, nthF, Is, List.setIfInBounds_toArray, List.set_cons_zero, List.set_cons_succ, Nat.reduceAdd] at hk ⊢
          try simp only [hk]
        · go_wp2
          exact ⟨_, rfl, rfl, Since.refl _⟩
        · go_wp2
          exact ⟨_, rfl, rfl, Since.refl _⟩
        · go_wp2
          exact ⟨_, rfl, rfl, Since.refl _⟩
        · go_wp2
          exact ⟨_, rfl, rfl, Since.refl _⟩
        · go_wp2_with fail
          refine (Tryd.strconv_Itoa y HX.out.1 HX.out.2 _ (HL.out _ (HK.out.trans (Kept.since hs HS.out))).s.tab).mono ?_
          rintro e w2 ⟨rfl, k, os, rfl⟩
          have HG := Lib.hid (grow_below w1 k os)
          generalize Sort.grow (w1.drewN k) os = w2 at *
          go_wp2
          exact ⟨_, rfl, rfl, HG.out⟩
        · go_wp2
          exact ⟨_, rfl, rfl, Since.refl _⟩
      | w y =>
        replace hc : wr.cell? ⟨rb, off + i, none⟩ = some (.iface 21 _) := hc
        have h0 := ta_miss (s := 21) Tryd.underlying33 (fun m e => by cases e) Tryd.zeroValue33 (by decide)
        have h1 := ta_miss (s := 21) Tryd.underlying3 (fun m e => by cases e) Tryd.zeroValue3 (by decide)
        have h2 := ta_hit Tryd.underlying21 (fun m e => by cases e)
        have HX := Lib.hid hp
        have HN := Lib.hid (show (l ++ (first.data.toList ++ (its.take i).flatMap itS)).length + (⟨#[32]⟩ ++ ⟨(Lib.itoa y).toArray⟩ : ByteArray).size ≤ 140737488355328 from by rw [← bytes_len (⟨#[32]⟩ ++ _)]; show _ + (dS y).length ≤ _; simp only [List.length_append]; simp only [itS] at hfn; omega)
        have hz5 := itoa_fits y ⟨by have := HX.out.1; omega, by have := HX.out.2; omega⟩
        clear hp hfn hft
        go_wp2_with fail
        refine wp_region_since_tail 6 rfl (by decide +kernel) (by decide +kernel) (by decide +kernel) (by decide)
          [Is (.pointer (some ⟨b, 0, none⟩)), Is (.pointer (some ⟨b, 0, none⟩)), Is (.pointer (some ⟨b, 0, none⟩)), Is (.int .i32 y), Is (.string ⟨(Lib.itoa y).toArray⟩), Is (.string (⟨#[32]⟩ ++ ⟨(Lib.itoa y).toArray⟩))]
          (by repeat (first | exact trivial | refine ⟨Is.stable _, ?_⟩ | refine ⟨Any.stable, ?_⟩ | refine ⟨IsNums.stable _ _, ?_⟩)) ⟨?_, ?_, ?_, ?_, ?_, ?_, trivial⟩ ?_
        rotate_right
        · intro vs w1 hs hk
          simp only [List.take, List.drop, putAll, Act.put, KnowsAll, nthF, Is, List.setIfInBounds_toArray, List.set_cons_zero, List.set_cons_succ, Nat.reduceAdd] at hk ⊢
          try simp only [hk]
          have HB2 := Lib.hid (HB.out.keep hs)
          have HK2 := Lib.hid (HK.out.trans (Kept.since hs HS.out))
          have HS2 := Lib.hid (Nat.le_trans HS.out hs.size)
          clear hs hk
          go_wp2_with fail
          refine (bu_string B b (Lib.byteCells (l ++ (first.data.toList ++ (its.take i).flatMap itS))) _ w1 HB2.out (by rw [Lib.byteCells_length]; exact HN.out) HS2.out).mono ?_
          rintro e w2 ⟨rfl, hb2, hk2⟩
          have HB3 := Lib.hid (bu_app hb2 (m := (l ++ (first.data.toList ++ (its.take i).flatMap itS)) ++ itS (.w y)) rfl)
          have HK3 := Lib.hid (HK2.out.trans hk2)
          clear hb2 hk2
          go_wp2
          go_roundw
          case rel => exact ⟨i + 1, by go_num, by omega, by rw [flat_next itS HX0.out]; simpa only [List.append_assoc] using HB3.out, HK3.out⟩
          case measure => simp [intOf]; omega
        all_goals
          intro vs w1 hs hk _
          simp only [List.take, putAll, Act.put, Knows, nthF, Is, List.setIfInBounds_toArray, List.set_cons_zero, List.set_cons_succ, Nat.reduceAdd] at hk ⊢
          try simp only [hk]
        · go_wp2
          exact ⟨_, rfl, rfl, Since.refl _⟩
        · go_wp2
          exact ⟨_, rfl, rfl, Since.refl _⟩
        · go_wp2
          exact ⟨_, rfl, rfl, Since.refl _⟩
        · go_wp2
          exact ⟨_, rfl, rfl, Since.refl _⟩
        · go_wp2_with fail
          refine (text_any y w1 HX.out.1 HX.out.2 (HL.out _ (HK.out.trans (Kept.since hs HS.out))).s).mono ?_
          rintro e w2 ⟨rfl, hg⟩
          have HG := Lib.hid hg
          go_wp2
          exact ⟨_, rfl, rfl, HG.out⟩
        · go_wp2
          exact ⟨_, rfl, rfl, Since.refl _⟩
      | s y =>
        replace hc : wr.cell? ⟨rb, off + i, none⟩ = some (.iface 9 _) := hc
        have h0 := ta_miss (s := 9) Tryd.underlying33 (fun m e => by cases e) Tryd.zeroValue33 (by decide)
        have h1 := ta_miss (s := 9) Tryd.underlying3 (fun m e => by cases e) Tryd.zeroValue3 (by decide)
        have h2 := ta_miss (s := 9) Tryd.underlying21 (fun m e => by cases e) Tryd.zeroValue21 (by decide)
        have h3 := ta_hit Tryd.underlying9 (fun m e => by cases e)
        have hz5 : y.size ≤ 1000000000000 := by rw [← bytes_len y]; simp only [itS, List.length_cons] at hfn; omega
        have HN := Lib.hid (show (l ++ (first.data.toList ++ (its.take i).flatMap itS)).length + (⟨#[32]⟩ ++ y : ByteArray).size ≤ 140737488355328 from by rw [← bytes_len (⟨#[32]⟩ ++ _), bytes_app]; show _ + (itS (.s y)).length ≤ _; simp only [List.length_append]; omega)
        clear hp hfn hft
        go_wp2_with fail
        refine (bu_string B b (Lib.byteCells (l ++ (first.data.toList ++ (its.take i).flatMap itS))) _ wr HB.out (by rw [Lib.byteCells_length]; exact HN.out) HS.out).mono ?_
        rintro e w2 ⟨rfl, hb2, hk2⟩
        have HB3 := Lib.hid (bu_app hb2 (m := (l ++ (first.data.toList ++ (its.take i).flatMap itS)) ++ itS (.s y)) (by rw [bytes_app]; rfl))
        have HK3 := Lib.hid (HK.out.trans hk2)
        clear hb2 hk2
        go_wp2
        go_roundw
        case rel => exact ⟨i + 1, by go_num, by omega, by rw [flat_next itS HX0.out]; simpa only [List.append_assoc] using HB3.out, HK3.out⟩
        case measure => simp [intOf]; omega
    · obtain rfl : its.length = i := by omega
      have HN := Lib.hid (show (l ++ (first.data.toList ++ its.flatMap itS)).length + 1 ≤ 140737488355328 from by simp only [List.length_append]; omega)
      rw [List.take_length] at HB
      go_wp2_with fail
      refine (bu_byte B b (Lib.byteCells (l ++ (first.data.toList ++ its.flatMap itS))) 10 wr HB.out (by rw [Lib.byteCells_length]; exact HN.out) HS.out).mono ?_
      rintro e w2 ⟨rfl, hb2, hk2⟩
      have HB3 := Lib.hid (bu_app1 (c := 10) rfl hb2 rfl)
      have HK3 := Lib.hid (HK.out.trans hk2)
      clear hb2 hk2
      go_wp2
      go_end0
      exact ⟨rfl, by have := HB3.out; simp only [List.append_assoc] at this; exact this, HK3.out⟩
end Go.Proofs.YtmhojfpidedjeaaDoor
