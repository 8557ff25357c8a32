/- TxTiles TxRPTiles TxTwo TxTTile -/
import Derived.Test.YtmhojfpidedjeaaDoorDz10
namespace Go.Proofs.YtmhojfpidedjeaaDoor
open Go.RowKit
set_option linter.unusedVariables false
def dtcells (t : DTile) : List Value := [.int .i64 t.pat, .int .i64 t.cost]
abbrev TilesIn (w : World) (v : Value) (l : List DTile) : Prop := RowIn dtcells 2 (fun _ t => In64 t.pat ∧ In64 t.cost) w v l
set_option maxHeartbeats 1000000 in
set_option maxRecDepth 100000 in
theorem bu_says0 (b : Nat) (w : World) (hbk : w.heap[b]? = some (.cells #[.pointer none, .slice none 0 0] 71 (0, 0))) :
    Calls Tryd.prog 22 #[.pointer (some ⟨b, 0, none⟩)] w fun e w' => e = .returned (.string ⟨#[]⟩) ∧ Since w w' := by
  have hUS : (Builtin.unsafeString_ #[101, 3] 9 #[.pointer none, .int .i64 0]).run Tryd.prog w.drew = .ok (.string .empty) w.drew := Lib.run_unsafeString_none w.drew _ _ _ _
  have c1 : w.drew.cell? ⟨b, 1, none⟩ = some (.slice none 0 0) := by
    have : w.drew.heap[b]? = some (.cells #[.pointer none, .slice none 0 0] 71 (0, 0)) := hbk
    rw [Lib.cell_of_heap this]; rfl
  have hSD : (Builtin.unsafeSliceData_ #[67] 101 #[.slice none 0 0]).run Tryd.prog w.drew = .ok (.pointer none) w.drew := rfl
  go_enter Tryd.func22, Tryd.ntmps22
  go_wp2
  go_region
  all_goals (go_wp2; go_ret; exact ⟨rfl, (Since.refl w).drew⟩)
theorem bu_new0 (w : World) : Bu w.heap.size w.heap.size [] (w.alloc (.cells #[.pointer none, .slice none 0 0] 71)) := .inl ⟨Nat.le_refl _, .slice none 0 0, heap_last _ _, ⟨rfl, .inl ⟨rfl, rfl⟩⟩, by simp [Value.ownBlock]⟩
theorem tile_eq (t : DTile) : tileS t = [116, 105, 108, 101] ++ (([.s ⟨(patS t.pat).toArray⟩, .n t.cost] : List It).flatMap itS ++ [10]) := by
  unfold tileS; simp [itS]
set_option maxHeartbeats 4000000 in
set_option maxRecDepth 100000 in
theorem text_tiles (v : Value) (l : List DTile) (w : World) (hf : TilesIn w v l) (hL : LaidT w) (hn : (tilesS l).length ≤ 500000) :
    Calls Tryd.prog 11 #[v] w (StrQ ⟨(tilesS l).toArray⟩ w) := by
  obtain ⟨ba, bc, e, hbl⟩ := RowIn.shape hf
  obtain rfl : v = .slice ba l.length bc := e
  unfold maxLen at hbl
  have HF := Lib.hid hf
  have hs0 : Since w (w.alloc (.cells #[.pointer none, .slice none 0 0] 71)) := (Since.refl w).alloc _
  by_cases hl0 : l = []
  · subst hl0
    have hh : (w.alloc (.cells #[.pointer none, .slice none 0 0] 71)).heap[w.heap.size]? = _ := heap_last w _
    have HH := Lib.hid (bu_says0 _ _ hh)
    have HS := Lib.hid hs0
    clear hh hs0 hf hL hn
    rw [List.length_nil]
    go_enter Tryd.func11, Tryd.ntmps11
    go_wp2_with fail
    go_loopw [11] (fun i wr => i = .int .i64 0 ∧ wr = w.alloc (.cells #[.pointer none, .slice none 0 0] 71)) (fun _ _ => 0)
    case atStart => exact ⟨rfl, rfl⟩
    case round =>
      obtain ⟨rfl, rfl⟩ := hrel
      go_wp2_with fail
      refine HH.out.mono ?_
      rintro e w5 ⟨rfl, hs5⟩
      have HS5 := Lib.hid (HS.out.trans hs5)
      clear hs5
      go_wp2
      go_ret
      exact ⟨rfl, HS5.out⟩
  · have hp0 : PrG w (w.alloc (.cells #[.pointer none, .slice none 0 0] 71)) w.heap.size [] _ := ⟨bu_new0 w, Kept.refl _ _ _, hs0, by simp, hL⟩
    have HP0 := Lib.hid hp0
    have HLT := Lib.hid hL
    have HN := Lib.hid hn
    clear hs0 hf hL hn hp0
    go_enter Tryd.func11, Tryd.ntmps11
    go_wp2_with fail
    generalize hwB : w.alloc (.cells #[.pointer none, .slice none 0 0] 71) = wB at HP0 ⊢
    clear hwB
    go_loopw [11] (fun i wr => ∃ k : Nat, i = .int .i64 k ∧ k ≤ l.length ∧ PrG w wB w.heap.size ((l.take k).flatMap tileS) wr) (fun i _ => l.length - (intOf i).toNat)
    case atStart => exact ⟨0, rfl, Nat.zero_le _, by simpa using HP0.out⟩
    case round =>
      obtain ⟨k, rfl, hk, hp⟩ := hrel
      obtain ⟨wo, hwo⟩ : ∃ z, z = wr := ⟨_, rfl⟩
      subst hwo
      by_cases hlt : k < l.length
      · obtain ⟨rb, off, x, rfl, hrb, hx, hc, hxr⟩ := RowIn.at HF.out hlt
        have hln := flat_take tileS l (k + 1)
        rw [flat_next tileS hx, List.length_append] at hln
        have HNX := Lib.hid (flat_next tileS hx)
        obtain ⟨pat, cost⟩ := x
        have HXR := Lib.hid hxr
        rw [tile_eq] at hln
        have HLN := Lib.hid (show ((l.take k).flatMap tileS).length + (4 + ((([.s ⟨(patS pat).toArray⟩, .n cost] : List It).flatMap itS).length + 1)) ≤ 500000 from by
          have := HN.out; unfold tilesS at this; simp only [List.length_append, List.length_cons, List.length_nil] at hln ⊢; omega)
        have hs := hp.since
        have c0 : wo.cell? ⟨rb, off + k * 2, none⟩ = some (.int .i64 pat) := (hs.cell (p := ⟨rb, off + k * 2 + 0, none⟩) hrb).trans (hc 0 (by decide))
        have c1 : wo.cell? ⟨rb, off + k * 2 + 1, none⟩ = some (.int .i64 cost) := (hs.cell (p := ⟨rb, off + k * 2 + 1, none⟩) hrb).trans (hc 1 (by decide))
        have hrl : rb < wo.heap.size := Nat.lt_of_lt_of_le hrb hs.size
        have HP := Lib.hid (hp.keep ((Since.refl wo).alloc (.cells #[.int .i64 pat, .int .i64 cost] 37)))
        have HQ := Lib.hid (HeapIs.new wo #[.int .i64 pat, .int .i64 cost] 37)
        obtain ⟨y, hy⟩ : ∃ y, patB pat = y := ⟨_, rfl⟩
        have hnm := tname_any pat (wo.alloc (.cells #[.int .i64 pat, .int .i64 cost] 37)) hxr.1 (HLT.out.keep HP.out.since).tab
        rw [hy] at hnm
        have HNM := Lib.hid hnm
        have HY := Lib.hid hy
        clear hs hc hx hln hp hnm hy hxr
        go_wp2_with fail
        refine HNM.out.mono ?_
        rintro e w4 ⟨rfl, hs4⟩
        clear c0 c1 hrl
        have HPT := Lib.hid (HP.out.keep hs4)
        have hbk := HQ.out.keep hs4
        have hb1 : w4.cell? ⟨wo.heap.size, 1, none⟩ = some (.int .i64 cost) := hbk.cell 1
        have hbl := hbk.lt
        clear hs4 hbk HP HQ
        obtain ⟨z, hz⟩ : ∃ z : ByteArray, ⟨(patS pat).toArray⟩ = z := ⟨_, rfl⟩
        rw [hz] at HLN
        have HZ := Lib.hid hz
        clear hz
        by_cases hpp : pat < 1 ∨ 37 < pat
        · obtain rfl : ByteArray.empty = y := by rw [← HY.out]; unfold patB; rw [if_pos hpp]
          obtain rfl : ⟨#[63]⟩ = z := by rw [← HZ.out]; unfold patS; rw [if_pos hpp]
          clear hpp
          go_wp2_with fail
          refine (pr_line HPT.out ⟨#[116, 105, 108, 101]⟩ [.s ⟨#[63]⟩, .n cost] 2 _ _ rfl rfl rfl (by simp) (fun x hx => by
            simp only [List.mem_cons, List.not_mem_nil, or_false] at hx
            rcases hx with rfl | rfl
            · trivial
            · exact HXR.out.2) (by have := HLN.out; show _ + (4 + _) ≤ _; omega)).mono ?_
          rintro e w5 ⟨rfl, hp5, _⟩
          have HP5 := Lib.hid (show PrG w wB w.heap.size ((l.take (k + 1)).flatMap tileS) w5 from by
            rw [HNX.out, tile_eq, HZ.out]
            exact hp5)
          clear hp5
          go_wp2
          go_roundw
          case rel => exact ⟨k + 1, by go_num, by omega, HP5.out⟩
          case measure => simp [intOf]; omega
        · obtain rfl : y = z := by rw [← HY.out, ← HZ.out]; unfold patS; rw [if_neg hpp]
          have hq : (y.toList == []) = false := by
            rw [← HY.out, ByteArray.toList_eq]
            have hall : ∀ k, k < 37 → ((patNames.getD k ByteArray.empty).data.toList == []) = false := by decide
            have := hall (pat - 1).toNat (by omega)
            unfold patB
            rw [if_neg hpp]
            exact this
          clear hpp
          go_wp2_with fail
          refine (pr_line HPT.out ⟨#[116, 105, 108, 101]⟩ [.s y, .n cost] 2 _ _ rfl rfl rfl (by simp) (fun x hx => by
            simp only [List.mem_cons, List.not_mem_nil, or_false] at hx
            rcases hx with rfl | rfl
            · trivial
            · exact HXR.out.2) (by have := HLN.out; show _ + (4 + _) ≤ _; omega)).mono ?_
          rintro e w5 ⟨rfl, hp5, _⟩
          have HP5 := Lib.hid (show PrG w wB w.heap.size ((l.take (k + 1)).flatMap tileS) w5 from by
            rw [HNX.out, tile_eq, HZ.out]
            exact hp5)
          clear hp5
          go_wp2
          go_roundw
          case rel => exact ⟨k + 1, by go_num, by omega, HP5.out⟩
          case measure => simp [intOf]; omega
      · obtain rfl : l.length = k := by omega
        rw [List.take_length] at hp
        have HP := Lib.hid hp
        clear hp
        go_wp2_with fail
        refine (pr_says HP.out (by
          cases l with
          | nil => exact absurd rfl hl0
          | cons t r => rw [List.flatMap_cons, tile_eq]; simp)).mono ?_
        rintro e w5 ⟨rfl, hs5⟩
        have HS5 := Lib.hid hs5
        clear hs5
        go_wp2
        go_ret
        exact ⟨rfl, HS5.out⟩
end Go.Proofs.YtmhojfpidedjeaaDoor
namespace Go.Proofs.YtmhojfpidedjeaaDoor
open Go.RowKit
set_option linter.unusedVariables false
theorem patB_at (k : Nat) (h : k < 37) : patB ((k : Int) + 1) = patNames.getD k ByteArray.empty := by
  unfold patB
  rw [if_neg (by omega), show ((k : Int) + 1 - 1).toNat = k from by omega]
theorem patF_hit {s : ByteArray} {k : Nat} (h : k < 37) (he : patNames.getD k ByteArray.empty = s) (hne : ∀ j, j < k → patNames.getD j ByteArray.empty ≠ s) : patF s = (k : Int) + 1 := by
  unfold patF Lib.idxOfS
  rw [Lib.idxFromS_hit s patNames k 0 h he hne]
  omega
theorem patF_miss {s : ByteArray} (hne : ∀ j, j < 37 → patNames.getD j ByteArray.empty ≠ s) : patF s = 0 := by
  unfold patF Lib.idxOfS
  rw [Lib.idxFromS_miss s patNames 0 hne]
  rfl
theorem patF_le (s : ByteArray) : 0 ≤ patF s ∧ patF s ≤ 37 := by
  have h := idx_all patNames s
  have h5 : patNames.length = 37 := rfl
  rw [h5] at h
  unfold patF; omega
theorem tileSt_len {l t : List DTile} {x : List ByteArray} (h : tileSt l x = .ok t) : t.length ≤ l.length + 1 := by
  unfold tileSt at h
  split at h
  · cases h; omega
  · split at h
    · split at h
      · split at h
        · split at h
          · cases h; simp
          · cases h
        · cases h
      · cases h
    · cases h
theorem wTile_list : wTile.toList = [116, 105, 108, 101] := by kernel_rfl
theorem not_tile {f : ByteArray} (h : ¬ f = wTile) : (f.toList == [116, 105, 108, 101]) = false := by have := (Lib.bytes_beq_false_iff f wTile).2 h; rwa [wTile_list] at this
theorem is_tile {f : ByteArray} (h : f = wTile) : (f.toList == [116, 105, 108, 101]) = true := by have := (Lib.bytes_beq_iff f wTile).2 h; rwa [wTile_list] at this
theorem numW_in (x : ByteArray) : In64 (numW x) := ⟨by have := (numW_32 x).1; omega, by have := (numW_32 x).2; omega⟩
theorem patF_in (x : ByteArray) : In64 (patF x) := ⟨by have := (patF_le x).1; omega, by have := (patF_le x).2; omega⟩
def TlOk (l : List DTile) : Prop := ∀ t ∈ l, In64 t.pat ∧ In64 t.cost
theorem tiles_own {w : World} {b : Nat} {v : Value} {l : List DTile} (h : OwnRow dtcells 2 37 b w v l) (ho : TlOk l) : TilesIn w v l := row_of_own (f := dtcells) (fun _ => rfl) h fun x hx => ho x hx
theorem TlOk.more {l : List DTile} (h : TlOk l) (p c : ByteArray) : TlOk (l ++ [⟨patF p, numW c⟩]) := fun t ht => by
  rcases List.mem_append.1 ht with h1 | h1
  · exact h t h1
  · rw [List.mem_singleton.1 h1]; exact ⟨patF_in p, numW_in c⟩
theorem dtcells_one (t : DTile) : ∀ u ∈ dtcells t, u.oneCell' = true := fun u hu => by simp [dtcells] at hu; rcases hu with rfl | rfl <;> rfl
theorem tilesIn_nil (w : World) : TilesIn w (.slice none 0 0) [] := .inl ⟨none, rfl, rfl⟩
end Go.Proofs.YtmhojfpidedjeaaDoor
namespace Go.Proofs.YtmhojfpidedjeaaDoor
open Go.RowKit
set_option linter.unusedVariables false
/-- Does operation j stand behind operation i, by an edge of its own? -/
def needsB (l : List Oper) (j i : Nat) : Bool := match l[j]? with | some o => o.after.toList.any (fun e => e.on == i && Region.binds .any e) | none => false
theorem needsB_at {l : List Oper} {j i : Nat} {listed : Array Bool} (h : needsB l j i = true) (hc : Closed l listed) (hj : listed.getD j false = true) : listed.getD i false = true := by
  unfold needsB at h
  cases ho : l[j]? with
  | none => rw [ho] at h; cases h
  | some o =>
    rw [ho] at h
    obtain ⟨e, he, hb⟩ := List.any_eq_true.1 h
    simp only [Bool.and_eq_true, beq_iff_eq] at hb
    have := hc j o ho hj e (by simpa using he) hb.2
    rwa [hb.1] at this
/-- What an operation may do: p and p2 turn, others let memory grow. -/
def RRt (p p2 : Nat) (R R2 : World → World → Prop) (k : Nat) : World → World → Prop := cond (Nat.beq k p || Nat.beq k p2) R R2
theorem RRt_le {p p2 : Nat} {R R2 : World → World → Prop} (h : ∀ a b, R2 a b → R a b) (k : Nat) {a b : World} (hk : RRt p p2 R R2 k a b) : R a b := by
  unfold RRt at hk
  cases hb : (Nat.beq k p || Nat.beq k p2) with
  | true => rw [hb] at hk; exact hk
  | false => rw [hb] at hk; exact h _ _ hk
theorem RRt_ne {p p2 : Nat} {R R2 : World → World → Prop} {k : Nat} (hn : k ≠ p) (hn2 : k ≠ p2) {a b : World} (hk : RRt p p2 R R2 k a b) : R2 a b := by
  unfold RRt at hk
  cases hb : (Nat.beq k p || Nat.beq k p2) with
  | true => rcases Bool.or_eq_true _ _ |>.mp hb with h | h; exact absurd (Nat.eq_of_beq_eq_true h) hn; exact absurd (Nat.eq_of_beq_eq_true h) hn2
  | false => rw [hb] at hk; exact hk
/-- One obligation for each of the first operations. -/
def StepsK2 (pv p2 : Nat) (R R2 : World → World → Prop) (Ph : Nat → World → Prop) (P : Program) (ops : Array Oper) (l : List Oper) (Q : Exit → Act → World → Prop) (F : Nat → Value → World → Prop) (a0 : Act) (w0 : World) : List Oper → List Nat → List Nat → List Nat → Nat → Prop
  | o :: r, lo :: los, hi :: his, inc :: incs, k => (∀ (p : Nat) (vs : Nat → Value) (w : World), lo ≤ p → p ≤ hi → R w0 w → Ph p w → Knows F vs w o.after.toList →
      wpList P ops (OneQK (RRt pv p2 R R2 k) Ph Q F k (p + inc) o.dst (putAll l 0 vs a0) w) [o] (putAll l 0 vs a0) w) ∧ StepsK2 pv p2 R R2 Ph P ops l Q F a0 w0 r los his incs (k + 1)
  | _, _, _, _, _ => True
theorem stepsK2_at {pv p2 : Nat} {R R2 : World → World → Prop} {Ph : Nat → World → Prop} {P : Program} {ops : Array Oper} {l0 : List Oper} {Q : Exit → Act → World → Prop} {F : Nat → Value → World → Prop} {a0 : Act} {w0 : World} : ∀ (l : List Oper) (los his incs : List Nat) (k : Nat), StepsK2 pv p2 R R2 Ph P ops l0 Q F a0 w0 l los his incs k → los.length = l.length → his.length = l.length → incs.length = l.length → ∀ (i : Nat) (o : Oper), l[i]? = some o → ops[k + i]? = some o →
    ∀ (p : Nat) (vs : Nat → Value) (w : World), los.getD i 0 ≤ p → p ≤ his.getD i 0 → R w0 w → Ph p w → Knows F vs w o.after.toList → ∀ K : Act → World → Prop, (∀ a' w', LeftK (RRt pv p2 R R2 (k + i)) Ph F (k + i) (p + incs.getD i 0) o.dst (putAll l0 0 vs a0) w a' w' → K a' w') →
      wpOp P ops Q (k + i) K (putAll l0 0 vs a0) w
  | [], _, _, _, _, _, _, _, _, _, _, h, _ => by cases h
  | _ :: _, [], _, _, _, _, h, _, _, _, _, _, _ => by simp at h
  | _ :: _, _ :: _, [], _, _, _, _, h, _, _, _, _, _ => by simp at h
  | _ :: _, _ :: _, _ :: _, [], _, _, _, _, h, _, _, _, _ => by simp at h
  | p :: r, lo :: los, hi :: his, inc :: incs, k, h, _, _, _, 0, o, ho, hall => by
    obtain rfl : p = o := by simpa using ho
    intro q vs w hlo hhi hw hph hk K hK
    have := h.1 q vs w hlo hhi hw hph hk
    unfold wpOp
    rw [hall]
    simp only [wpList] at this
    show if _ then _ else _
    split
    · rename_i hwant
      rw [if_pos hwant] at this
      rcases this with this | ⟨h1, h2⟩
      · exact .inl (Oper.wp_turn (fun _ _ _ h => h) (fun h => h) (Oper.wp_mono (fun a' w' h => hK a' w' h) this))
      · exact .inr ⟨h1, h2⟩
    · rename_i hwant
      rw [if_neg hwant] at this
      exact hK _ _ this
  | p :: r, lo :: los, hi :: his, inc :: incs, k, h, h1, h2, h3, i + 1, o, ho, hall => by
    have := stepsK2_at r los his incs (k + 1) h.2 (by simpa using h1) (by simpa using h2) (by simpa using h3) i o (by simpa using ho) (by rw [show k + 1 + i = k + (i + 1) from by omega]; exact hall)
    rw [show k + 1 + i = k + (i + 1) from by omega] at this
    exact this
section
variable {P : Program} {Q : Exit → Act → World → Prop} {l t0 : List Oper} {F : Nat → Value → World → Prop} {a0 : Act} {w0 : World} {pv p2 : Nat} {R R2 : World → World → Prop} {Ph : Nat → World → Prop} {keys los his incs : List Nat}
theorem any_factsK2 (hnd : needsB (l ++ t0) pv p2 = true) (hbd : boundsKT (l ++ t0) l.length keys los his incs = true) (hRt : ∀ a b c, R a b → R b c → R a c) (hF : ∀ i v w w', i ≠ pv → F i v w → R w w' → F i v w') (hF2 : ∀ i v w w', F i v w → R2 w w' → F i v w') (hle : ∀ a b, R2 a b → R a b) (hd : dstsApart l = true) (hb : edgesBack (l ++ t0) 0 = true) (hf : forcedA (l ++ t0) l.length = true)
    (hs : StepsK2 pv p2 R R2 Ph P (l ++ t0).toArray l Q F a0 w0 l los his incs 0)
    (he : ∀ vs w, R w0 w → Ph keys.length w → KnowsAll F vs w 0 l.length → wpList P (l ++ t0).toArray Q t0 (putAll l 0 vs a0) w) :
    ∀ (fuel : Nat) (listed : Array Bool) (vs : Nat → Value) (w : World), listed.size = (l ++ t0).length → ((List.range (l ++ t0).length).filter fun i => !listed.getD i true).length ≤ fuel → R w0 w → Ph (doneK keys listed) w → Closed (l ++ t0) listed →
      (∀ i, i < l.length → listed.getD i true = true → F i (vs i) w) → (∀ i, l.length ≤ i → i < (l ++ t0).length → listed.getD i true = false) → wpAny P .any (l ++ t0).toArray Q fuel listed (putAll l 0 vs a0) w := by
  unfold boundsKT at hbd
  simp only [Bool.and_eq_true, beq_iff_eq, decide_eq_true_eq, List.all_eq_true] at hbd
  obtain ⟨⟨⟨⟨hlos, hhis⟩, hincs⟩, hnod⟩, hkeys⟩ := hbd
  have hll : l.length ≤ (l ++ t0).length := by simp
  have hend : ∀ (fuel : Nat) (listed : Array Bool) (vs : Nat → Value) (w : World), listed.size = (l ++ t0).length → ((List.range (l ++ t0).length).filter fun i => !listed.getD i true).length ≤ fuel → R w0 w → Ph (doneK keys listed) w → (∀ i, i < l.length → listed.getD i true = true) →
      (∀ i, i < l.length → listed.getD i true = true → F i (vs i) w) → (∀ i, l.length ≤ i → i < (l ++ t0).length → listed.getD i true = false) → wpAny P .any (l ++ t0).toArray Q fuel listed (putAll l 0 vs a0) w := by
    intro fuel listed vs w hsz hn hw hph hall hk htl
    have hfull : doneK keys listed = keys.length := by
      unfold doneK
      rw [List.countP_eq_length]
      intro k hk
      have hkl := hkeys k hk
      rw [same_getD (by omega)]
      exact hall k hkl
    rw [hfull] at hph
    refine run_tail (n0 := l.length) (t0 := t0) hb (by simp) hf t0 0 rfl (by simp) fuel listed _ w hsz hn (fun i hi => hall i (by omega)) (fun i hi hil => htl i (by omega) hil) ?_
    exact he vs w hw hph (knowsAll_of F vs w _ 0 fun i _ hi => hk i (by omega) (hall i (by omega)))
  have hget : ∀ i o, i < l.length → (l ++ t0)[i]? = some o → l[i]? = some o := fun i o hi h => by rwa [List.getElem?_append_left hi] at h
  intro fuel
  induction fuel with
  | zero =>
    intro listed vs w hsz hn hw hph hcl hk htl
    refine hend 0 listed vs w hsz hn hw hph (fun i hi => ?_) hk htl
    cases hl : listed.getD i true with
    | true => rfl
    | false =>
      exfalso
      have : i ∈ (List.range (l ++ t0).length).filter fun i => !listed.getD i true := by
        rw [List.mem_filter]; exact ⟨List.mem_range.2 (by omega), by simp [hl]⟩
      have := List.length_pos_of_mem this
      omega
  | succ fuel ih =>
    intro listed vs w hsz hn hw hph hcl hk htl
    by_cases hallL : ∀ i, i < l.length → listed.getD i true = true
    · exact hend (fuel + 1) listed vs w hsz hn hw hph hallL hk htl
    · refine ⟨fun hr => ?_, fun i hi => ?_⟩
      · exfalso
        apply hallL
        have all : ∀ (n i : Nat), i < n → i < l.length → listed.getD i true = true := by
          intro n
          induction n with
          | zero => intro i h; omega
          | succ n ihn =>
            intro i h1 h2
            cases hl : listed.getD i true with
            | true => rfl
            | false =>
              exfalso
              have : i ∈ Region.ready .any (l ++ t0).toArray listed := by
                rw [mem_ready]
                have ho : (l ++ t0)[i]? = some l[i] := by rw [List.getElem?_append_left h2]; exact List.getElem?_eq_getElem h2
                refine ⟨hl, l[i], by simpa using ho, fun e hee hbd => ?_⟩
                have hlt := edges_back (l ++ t0) 0 hb i l[i] ho e hee hbd
                rw [same_getD (by omega)]
                exact ihn e.on (by omega) (by omega)
              rw [hr] at this
              cases this
        exact fun i hi => all (i + 1) i (by omega) hi
      · rw [mem_ready] at hi
        obtain ⟨h1, o, ho, hpre⟩ := hi
        have hol' : (l ++ t0)[i]? = some o := by simpa using ho
        have hlt' : i < (l ++ t0).length := (List.getElem?_eq_some_iff.1 hol').1
        have hlt : i < l.length := by
          by_cases h : i < l.length
          · exact h
          · exfalso
            apply hallL
            intro j hj
            have := forced_listed hf hcl hol' (by omega) hpre (i := j) (by omega)
            rwa [same_getD (by omega)] at this
        have hol := hget i o hlt hol'
        have hknow : Knows F vs w o.after.toList := by
          refine knows_of F vs w _ fun e hee hbind => ?_
          have hee' : e ∈ o.after := by simpa using hee
          have hlt2 := edges_back (l ++ t0) 0 hb i o hol' e hee' hbind
          have hon : e.on < l.length := by omega
          refine hk e.on hon ?_
          rw [← same_getD (by omega)]
          exact hpre e hee' hbind
        have hil : listed.getD i false = false := by rw [same_getD (by omega)]; exact h1
        have hlo : los.getD i 0 ≤ doneK keys listed := by
          rw [hlos]
          simp only [List.getD_eq_getElem?_getD, List.getElem?_map, List.getElem?_range hlt, Option.map_some, Option.getD_some]
          exact List.countP_mono_left fun k _ hk2 => ahead_listed hcl _ _ _ hk2 o hol' hpre
        have hhi : doneK keys listed ≤ his.getD i 0 := by
          rw [hhis]
          simp only [List.getD_eq_getElem?_getD, List.getElem?_map, List.getElem?_range hlt, Option.map_some, Option.getD_some]
          refine List.countP_mono_left fun k hkm hk2 => ?_
          simp only [Bool.and_eq_true, Bool.not_eq_true', beq_eq_false_iff_ne]
          refine ⟨?_, fun e => by rw [e, hil] at hk2; cases hk2⟩
          cases hah : aheadB (l ++ t0) (l ++ t0).length i k with
          | false => rfl
          | true =>
            exfalso
            have hkl : k < (l ++ t0).length := Nat.lt_of_lt_of_le (hkeys k hkm) hll
            have ho2 : (l ++ t0)[k]? = some (l ++ t0)[k] := List.getElem?_eq_getElem hkl
            have := ahead_listed hcl _ _ _ hah _ ho2 (hcl k _ ho2 hk2)
            rw [hil] at this; cases this
        have hinc : incs.getD i 0 = if keys.contains i then 1 else 0 := by
          rw [hincs]
          simp only [List.getD_eq_getElem?_getD, List.getElem?_map, List.getElem?_range hlt, Option.map_some, Option.getD_some]
        have hstep := stepsK2_at l los his incs 0 hs (by rw [hlos]; simp) (by rw [hhis]; simp) (by rw [hincs]; simp) i o hol (by simpa using hol') (doneK keys listed) vs w hlo hhi hw hph hknow
        simp only [Nat.zero_add] at hstep
        refine hstep _ fun a' w' ⟨v, ha', hv, hw', hph'⟩ => ?_
        subst ha'
        have e := putAll_upd v l 0 vs a0 i o hol hd
        rw [Nat.zero_add] at e
        rw [← e]
        refine ih (listed.setIfInBounds i true) (upd vs i v) w' (by simpa using hsz) ?_ (hRt _ _ _ hw (RRt_le hle i hw')) ?_ ?_ ?_ ?_
        · have e2 : ((List.range (l ++ t0).length).filter fun j => !(listed.setIfInBounds i true).getD j true) = ((List.range (l ++ t0).length).filter fun j => !listed.getD j true).filter fun j => j != i := by
            rw [List.filter_filter]
            refine List.filter_congr fun j hj => ?_
            by_cases hji : j = i
            · subst hji
              have hin : j < listed.size := by omega
              simp [Array.getD_eq_getD_getElem?, hin]
            · rw [getD_set_ne _ (Ne.symm hji)]; simp [hji]
          rw [e2]
          have hmem : i ∈ (List.range (l ++ t0).length).filter fun j => !listed.getD j true := by
            rw [List.mem_filter]; exact ⟨List.mem_range.2 hlt', by simp [h1]⟩
          have := (List.length_filter_lt_length_iff_exists (p := fun j => j != i) (l := (List.range (l ++ t0).length).filter fun j => !listed.getD j true)).2 ⟨i, hmem, by simp⟩
          omega
        · rw [hinc] at hph'
          by_cases hik : i ∈ keys
          · rw [doneK_more (by omega) hil hnod hik]
            rw [if_pos (by simpa using hik)] at hph'
            exact hph'
          · rw [doneK_same hik]
            rw [if_neg (by simpa using hik)] at hph'
            exact hph'
        · intro j p hp hjl x hx hbx
          by_cases hji : j = i
          · subst hji
            have := hol'.symm.trans hp; cases this
            exact getD_set_true (hpre x hx hbx)
          · rw [getD_set_ne _ (Ne.symm hji)] at hjl
            exact getD_set_true (hcl j p hp hjl x hx hbx)
        · intro j hj hlj
          by_cases hji : j = i
          · subst hji; rw [upd_same]; exact hv
          · rw [upd_other _ _ hji]
            rw [getD_set_ne _ (Ne.symm hji)] at hlj
            by_cases hip : i = pv
            · subst hip
              exact hF _ _ _ _ hji (hk j hj hlj) (RRt_le hle i hw')
            · by_cases hip2 : i = p2
              · refine hF _ _ _ _ (fun hjp => ?_) (hk j hj hlj) (RRt_le hle i hw')
                subst hjp hip2
                have hon := needsB_at hnd hcl (by rw [same_getD (by omega)]; exact hlj)
                rw [hil] at hon; cases hon
              · exact hF2 _ _ _ _ (hk j hj hlj) (RRt_ne hip hip2 hw')
        · intro j hj hjl
          rw [getD_set_ne _ (by omega)]
          exact htl j hj hjl
end
theorem wp_region_two {P : Program} {Q : Exit → Act → World → Prop} {all : List Oper} {a0 : Act} {w0 : World} {id : Nat} (n pv p2 : Nat) (keys los his incs : List Nat) (S : Nat → Prop) (Ph : Nat → World → Prop) (hm : P.follows .mixedOrders = true) (hnd : needsB all pv p2 = true)
    (hd : dstsApart (all.take n) = true) (hb : edgesBack all 0 = true) (hf : forcedA all n = true) (hn : n ≤ all.length) (hbd : boundsKT all n keys los his incs = true) (Fs : List (Value → World → Prop)) (hF : AllBut S pv Fs 0) (hF2 : AllStable Fs) (hph : Ph 0 w0.drew)
    (hs : StepsK2 pv p2 (Turn S) Since Ph P all.toArray (all.take n) Q (nthF Fs) a0 w0 (all.take n) los his incs 0)
    (he : ∀ vs w, Turn S w0 w → Ph keys.length w → KnowsAll (nthF Fs) vs w 0 n → wpList P all.toArray Q (all.drop n) (putAll (all.take n) 0 vs a0) w) : (Code.region id all.toArray true).wp P Q a0 w0 := by
  refine wp_region_any hm ?_
  have hln : (all.take n).length = n := by rw [List.length_take]; omega
  have hcat : all.take n ++ all.drop n = all := List.take_append_drop n all
  have e := putAll_old (oldAt (all.take n) a0) a0 (all.take n) 0 (fun i o d hi hdst => by simp only [oldAt, Nat.zero_add, hi, Option.bind_some, hdst])
  have h := any_factsK2 (hnd := by rw [hcat]; exact hnd) (l := all.take n) (t0 := all.drop n) (P := P) (Q := Q) (F := nthF Fs) (a0 := a0) (w0 := w0) (pv := pv) (p2 := p2) (R := Turn S) (R2 := Since) (by rw [hcat, hln]; exact hbd) (fun _ _ _ => Turn.trans) (fun i v w w' hi hv ht => nthF_but Fs 0 hF i v w w' (by omega) hv ht) (nthF_stable Fs hF2) (fun a b h => Turn.since h) hd (by rw [hcat]; exact hb) (by rw [hcat, hln]; exact hf) (by rw [hcat]; exact hs) (by rw [hcat, hln]; exact he)
    all.length (Array.replicate all.length false) (oldAt (all.take n) a0) { w0 with drawn := w0.drawn + 1 } (by rw [hcat]; simp) (by rw [hcat]; exact Nat.le_trans (List.length_filter_le _ _) (by simp)) (Turn.since (Since.refl w0).drew)
    (by
      have : doneK keys (Array.replicate all.length false) = 0 := by
        unfold doneK
        rw [List.countP_eq_zero]
        intro k _
        simp [Array.getD_eq_getD_getElem?, Array.getElem?_replicate]
        split <;> rfl
      rw [this]
      exact hph)
    (fun i o ho hl => by
      have hi : i < all.length := by rw [← hcat]; exact (List.getElem?_eq_some_iff.1 ho).1
      simp [Array.getD_eq_getD_getElem?, hi] at hl)
    (fun i hi hl => by
      have : i < all.length := by omega
      simp [Array.getD_eq_getD_getElem?, this] at hl)
    (fun i _ hi => by
      rw [hcat] at hi
      simp [Array.getD_eq_getD_getElem?, hi])
  rw [e, hcat] at h
  simpa using h
end Go.Proofs.YtmhojfpidedjeaaDoor
namespace Go.Proofs.YtmhojfpidedjeaaDoor
open Go.RowKit
set_option linter.unusedVariables false
theorem NumRow.stableT {S : Nat → Prop} {base : Nat} (x : Int) (hS : ∀ q, S q → q < base) : StableT S (NumRow base x) := fun v w w' ⟨g, cap, h1, h2, h3, h4⟩ t => ⟨g, cap, h1, h2, Nat.lt_of_lt_of_le h3 t.size, (t.cell (p := ⟨g, 0, none⟩) h3 (fun hs => by have := hS g hs; omega)).trans h4⟩
theorem PaM.bare {T : TypeId} {w0 w w' : World} {pb : Nat} {tl tl' : List Value} {params pl e params' pl' e' : Int} (h : PaM T w0 pb tl params pl e (.slice none 0 0) [] w) {R : Nat → Prop} (t : Turn R w w') (hR : ∀ q, R q → w0.heap.size ≤ q) (hb : HeapIs w' pb (.int .i64 params' :: .slice none 0 0 :: .int .i64 pl' :: .int .i64 e' :: tl').toArray T) : PaM T w0 pb tl' params' pl' e' (.slice none 0 0) [] w' :=
  ⟨hb, OwnRow.nil _ _ _ _ _, fun i b h => (by simp at h), fun b h => (by simp at h), t.toSince h.old fun q hq hr => (by have := hR q hr; omega), h.new, h.kind⟩
def TileRow (base : Nat) (l : List DTile) (v : Value) (w : World) : Prop := OwnRow dtcells 2 37 base w v l
theorem TileRow.stable (base : Nat) (l : List DTile) : Stable (TileRow base l) := fun v w w' h s => OwnRow.keep h s
structure TlPh (w0 : World) (pb : Nat) (tv : Value) (tl : List DTile) (E : Int) (p : Nat) (w : World) : Prop where
  pa : TPa w0 pb tv 0 0 (([0, E, E] : List Int).getD p 0) (.slice none 0 0) [] w
  row : p < 2 → OwnRow dtcells 2 37 w0.heap.size w tv tl
def TileAns (r : Except Int (List DTile)) (e : Int) (tl : List DTile) : Prop := match r with
  | .error n => e = n ∧ n ≠ 0
  | .ok t => e = 0 ∧ tl = t
def TileQ (w0 : World) (pb : Nat) (tv : Value) (tl : List DTile) (l : List ByteArray) (w : World) (x : Ending) (w' : World) : Prop :=
  x = .returned (.tuple #[]) ∧ ∃ tv' tl' e', TPa w0 pb tv' 0 0 e' (.slice none 0 0) [] w' ∧ OwnRow dtcells 2 37 w0.heap.size w' tv' tl' ∧ Turn (fun q => q = pb ∨ tv.ownBlock = some q) w w' ∧ TileAns (tileSt tl l) e' tl'
set_option maxHeartbeats 1000000 in
set_option maxRecDepth 100000 in
theorem patterns_any (w : World) (htab : Lib.TabIs Tryd.prog w "strings.asciiSpace" .u8 Lib.asciiSpaceTab) : Calls Tryd.prog 42 #[] w fun e w' => e = .returned (.int .i64 37) ∧ Since w w' := by
  have HF := Lib.hid (fields_tiles w htab)
  clear htab
  go_enter Tryd.func42, Tryd.ntmps42
  go_wp2_with fail
  refine HF.out.mono ?_
  rintro e w1 ⟨rfl, hst, hs⟩
  have HS := Lib.hid hs
  clear hst hs
  go_wp2
  go_ret
  exact ⟨rfl, HS.out⟩
section
variable {w0 : World} {pb : Nat}
set_option maxHeartbeats 8000000 in
set_option maxRecDepth 100000 in
theorem tile_any (w : World) (tv : Value) (tl : List DTile) (h : TPa w0 pb tv 0 0 0 (.slice none 0 0) [] w) (ho : OwnRow dtcells 2 37 w0.heap.size w tv tl) (hL : LaidT w0) (hk : tl.length ≤ 400000) (v : Value) (f : ByteArray) (r : List ByteArray) (hl : StrsIn w v (f :: r)) (hsv : ∀ q, v.ownBlock = some q → ∃ cs, HeapIs w q cs 9) (hn : r.length ≤ 400000) : Calls Tryd.prog 20 #[.pointer (some ⟨pb, 0, none⟩), v] w (TileQ w0 pb tv tl (f :: r) w) := by
  obtain ⟨a, vc, e1, _⟩ := RowIn.shape hl
  obtain ⟨n, hnn⟩ : ∃ n, (f :: r).length = n := ⟨_, rfl⟩
  rw [hnn] at e1
  subst e1
  obtain ⟨vb, vo, x, ha, hvb, hx, hc0, hfs⟩ := StrsIn.at hl (k := 0) (by simp)
  obtain rfl : f = x := by simpa using hx
  subst ha
  rw [Nat.add_zero] at hc0
  have hn1 : 0 < n := by rw [← hnn]; simp
  have hvt : ∃ cs, HeapIs w vb cs 9 := hsv vb rfl
  have hvp : vb ≠ pb := fun e => by obtain ⟨cs, hcs⟩ := hvt; exact heap_ne h.box hcs (by decide) e.symm
  have hvr : ¬ tv.ownBlock = some vb := fun e => by obtain ⟨cs, hcs⟩ := hvt; exact own_not ho hcs (by decide) e
  have hpr : ¬ tv.ownBlock = some pb := own_not ho h.box (by decide)
  have HL := Lib.hid hl
  have HH := Lib.hid h
  have HO := Lib.hid ho
  have HLT0 := Lib.hid hL
  have HNN := Lib.hid hnn
  have HVR := Lib.hid hvr
  have HPR := Lib.hid hpr
  clear h ho hl hsv hnn hx hvt hvr hpr hL hfs
  have HE : Hid (∀ (m : Int) w', tileSt tl (f :: r) = .error m → m ≠ 0 → TPa w0 pb tv 0 0 m (.slice none 0 0) [] w' → Turn (fun q => q = pb) w w' → TileQ w0 pb tv tl (f :: r) w (.returned (.tuple #[])) w') := Lib.hid (fun m w' h1 h2 h3 h4 => ⟨rfl, tv, tl, m, h3, own_turn HO.out h4 (fun q hq e => by subst e; exact HPR.out hq), h4.mono (fun q _ hq => .inl hq), by rw [h1]; exact ⟨rfl, h2⟩⟩)
  go_enter Tryd.func20, Tryd.ntmps20
  by_cases hf : f = wTile
  · have hqf := is_tile hf
    have HF := Lib.hid hf
    clear hf
    by_cases h3 : n = 3
    · subst h3
      obtain ⟨p, c, hr⟩ : ∃ p c, r = [p, c] := by
        match r, HNN.out with
        | [p, c], _ => exact ⟨p, c, rfl⟩
      subst hr
      have HST := Lib.hid (show tileSt tl [f, p, c] = if 0 < patF p then (if isNum c then .ok (tl ++ [⟨patF p, numW c⟩]) else .error 71) else .error 72 from by
        show (if f = wTile then _ else _) = _
        rw [if_pos HF.out]; exact if_pos rfl)
      obtain ⟨b1, o1, x1, e1, _, h1, cp, hps⟩ := StrsIn.at HL.out (k := 1) (by simp)
      cases e1
      obtain rfl : p = x1 := by simpa using h1
      obtain ⟨b2, o2, x2, e2, _, h2, cc, hcs⟩ := StrsIn.at HL.out (k := 2) (by simp)
      cases e2
      obtain rfl : c = x2 := by simpa using h2
      have HCS := Lib.hid hcs
      clear h1 h2 hcs hps
      go_wp2_with fail
      refine (must_any w HH.out true 72 (by decide)).mono ?_
      rintro e4 w4 ⟨rfl, hp4, ht4⟩
      have HP4 := Lib.hid (show TPa w0 pb tv 0 0 0 (.slice none 0 0) [] w4 from hp4)
      have HT4 := Lib.hid ht4
      clear hp4 ht4
      go_wp2_with fail
      refine (must_any w4 HP4.out true 70 (by decide)).mono ?_
      rintro e5 w5 ⟨rfl, hp5, ht5⟩
      have HP5 := Lib.hid (show TPa w0 pb tv 0 0 0 (.slice none 0 0) [] w5 from hp5)
      have ht5b := HT4.out.trans ht5
      have HT5 := Lib.hid ht5b
      have cp5 : w5.cell? ⟨vb, vo + 1, none⟩ = some (.string p) := (ht5b.cell (p := ⟨vb, vo + 1, none⟩) hvb hvp).trans cp
      have cc5 : w5.cell? ⟨vb, vo + 2, none⟩ = some (.string c) := (ht5b.cell (p := ⟨vb, vo + 2, none⟩) hvb hvp).trans cc
      have hvb5 : vb < w5.heap.size := Nat.lt_of_lt_of_le hvb ht5b.size
      have HO5 := Lib.hid (own_turn HO.out ht5b (fun q hq e => by subst e; exact HPR.out hq))
      clear hp5 ht5 ht5b cp cc hc0 hvb
      go_wp2_with fail
      go_loopw [4] (fun io wr => ∃ k : Nat, k ≤ 37 ∧ io = .int .i64 ((k : Int) + 1) ∧ (∀ j, j < k → patNames.getD j ByteArray.empty ≠ p) ∧ Since w5 wr) (fun io _ => 40 - (intOf io).toNat)
      case atStart => exact ⟨0, by omega, rfl, fun j hj => by omega, Since.refl _⟩
      case round =>
        obtain ⟨k, hk37, rfl, hne, hsr⟩ := hrel
        have HNE := Lib.hid hne
        have HSR := Lib.hid hsr
        have cpr : wr.cell? ⟨vb, vo + 1, none⟩ = some (.string p) := (hsr.cell (p := ⟨vb, vo + 1, none⟩) hvb5).trans cp5
        have hvbr := Nat.lt_of_lt_of_le hvb5 hsr.size
        clear hne hsr
        by_cases hlt : k < 37
        · obtain ⟨z, hz⟩ : ∃ z, patNames.getD k ByteArray.empty = z := ⟨_, rfl⟩
          have HZ := Lib.hid hz
          clear hz
          by_cases he : z = p
          · have hq : (z.toList == p.toList) = true := (Lib.bytes_beq_iff z p).2 he
            have hpat := patF_hit hlt (HZ.out.trans he) HNE.out
            have HPF := Lib.hid hpat
            clear he hpat
            go_wp2_with fail
            refine wp_region_since_tail 9 rfl (by decide +kernel) (by decide +kernel) (by decide +kernel) (by decide)
              [Is (.int .i64 ((k : Int) + 1)), Is (.int .i64 37), Is (.bool true), Is (.bool true), Is (.int .i64 ((k : Int) + 1)), Is (.string z), Is (.slice (some ⟨vb, vo, none⟩) 3 vc), Is (.pointer (some ⟨vb, vo + 1, none⟩)), Is (.string p)]
              (by repeat (first | exact trivial | refine ⟨Is.stable _, ?_⟩ | refine ⟨Any.stable, ?_⟩)) ⟨?_, ?_, ?_, ?_, ?_, ?_, ?_, ?_, ?_, trivial⟩ ?_
            rotate_right
            · intro vs w8 hs hk
              simp only [List.take, List.drop, putAll, Act.put, KnowsAll, nthF, Is, List.setIfInBounds_toArray, List.set_cons_zero, List.set_cons_succ, Nat.reduceAdd] at hk ⊢
              try simp only [hk]
              have HS8 := Lib.hid (HSR.out.trans hs)
              clear hs hk
              obtain ⟨pn, hpn⟩ : ∃ pn, (k : Int) + 1 = pn := ⟨_, rfl⟩
              have hpn0 : 0 < pn := by omega
              have hpn37 : pn ≤ 37 := by omega
              have HPN := Lib.hid (HPF.out.trans hpn)
              rw [hpn]
              clear hpn
              have HP8 := Lib.hid (HP5.out.keep HS8.out)
              have HT8 := Lib.hid (HT5.out.later (Turn.since (S := fun q => q = pb) HS8.out) (fun q hq => .inl hq))
              go_wp2_with fail
              have hlt9 := HLT0.out.keep HP8.out.old
              refine (patterns_any w8 hlt9.tab).mono ?_
              rintro e9 w9 ⟨rfl, hs9⟩
              have HS9 := Lib.hid (HS8.out.trans hs9)
              have HP9 := Lib.hid (HP8.out.keep hs9)
              have HT9 := Lib.hid (HT8.out.later (Turn.since (S := fun q => q = pb) hs9) (fun q hq => .inl hq))
              clear hs9 hlt9
              go_wp2_with fail
              refine (must_any w9 HP9.out true 72 (by decide)).mono ?_
              rintro e10 w10 ⟨rfl, hp10, ht10⟩
              have hp10 : TPa w0 pb tv 0 0 0 (.slice none 0 0) [] w10 := hp10
              have ho10 := own_turn (OwnRow.keep HO5.out HS9.out) ht10 (fun q hq e => by subst e; exact HPR.out hq)
              have hsz := HS9.out.size
              have hsz2 := ht10.size
              have cc10 : w10.cell? ⟨vb, vo + 2, none⟩ = some (.string c) := (ht10.cell (p := ⟨vb, vo + 2, none⟩) (Nat.lt_of_lt_of_le hvb5 hsz) hvp).trans ((HS9.out.cell (p := ⟨vb, vo + 2, none⟩) hvb5).trans cc5)
              have hvb10 : vb < w10.heap.size := Nat.lt_of_lt_of_le hvb5 (Nat.le_trans hsz hsz2)
              obtain ⟨ta, tc, htv⟩ := own_shape ho10
              obtain ⟨kt, hkt⟩ : ∃ k, tl.length = k := ⟨_, rfl⟩
              rw [hkt] at htv
              subst htv
              rw [hkt] at hk
              have HKT := Lib.hid hkt
              have HP10 := Lib.hid hp10
              have HO10 := Lib.hid ho10
              have HT10 := Lib.hid (HT9.out.trans ht10)
              have hpbl := hp10.box.lt
              have HSB := Lib.hid (show ∀ q, (q = pb ∨ (Value.slice ta kt tc).ownBlock = some q) → q < w10.heap.size from fun q hq => by
                rcases hq with rfl | hq
                · exact hp10.box.lt
                · exact (World.ownsRow.lt ho10 q hq).2)
              have HNS := Lib.hid (show ¬ (vb = pb ∨ (Value.slice ta kt tc).ownBlock = some vb) from fun hq => by
                rcases hq with hq | hq
                · exact hvp hq
                · exact HVR.out hq)
              have HP4B := Lib.hid (show w10.cell? ⟨pb, 4, none⟩ = some (.slice ta kt tc) from hp10.cell 4)
              obtain ⟨base, hbase⟩ : ∃ b, w10.heap.size = b := ⟨_, rfl⟩
              have HBASE := Lib.hid hbase
              obtain ⟨d, hd⟩ : ∃ d, numW c = d := ⟨_, rfl⟩
              have HD := Lib.hid hd
              obtain ⟨E, hE⟩ : ∃ E, numsE 0 [c] = E := ⟨_, rfl⟩
              have HEE := Lib.hid hE
              clear hp10 ho10 ht10 cc5 hvb5 cp5 hkt hbase hd hE hpbl hsz hsz2 cpr hvbr
              go_wp2_with fail
              refine wp_region_two 17 16 11 [11, 16] [0, 0, 0, 0, 0, 0, 0, 0, 0, 0, 0, 0, 1, 1, 1, 1, 1] [2, 1, 1, 1, 1, 1, 0, 0, 0, 0, 0, 0, 1, 1, 1, 1, 1] [0, 0, 0, 0, 0, 0, 0, 0, 0, 0, 0, 1, 0, 0, 0, 0, 1] (fun q => q = pb ∨ (Value.slice ta kt tc).ownBlock = some q) (fun p w12 => TlPh w0 pb (.slice ta kt tc) tl E p w12) rfl (by decide +kernel) (by decide +kernel) (by decide +kernel) (by decide +kernel) (by decide) (by decide +kernel)
                [Is (.pointer (some ⟨pb, 0, none⟩)), Is (.pointer (some ⟨pb, 0, none⟩)), Is (.pointer (some ⟨pb, 0, none⟩)), Is (.pointer (some ⟨pb, 4, none⟩)), Is (.slice ta kt tc), Is (.int .i64 pn), Is (.pointer (some ⟨pb, 0, none⟩)), Is (.slice (some ⟨vb, vo, none⟩) 3 vc), Is (.pointer (some ⟨vb, vo + 2, none⟩)), Is (.string c), OneOf stc 9 (fun q => q = pb ∨ (Value.slice ta kt tc).ownBlock = some q) c, NumRow base d, NumPtr base d, Is (.int .i64 d), Is (.agg #[.int .i64 pn, .int .i64 d]), OneOf dtcells 37 (fun q => q = pb ∨ (Value.slice ta kt tc).ownBlock = some q) (⟨pn, d⟩ : DTile), TileRow w0.heap.size (tl ++ [⟨pn, d⟩])]
                (by repeat (first | exact trivial | refine ⟨fun h => absurd rfl h, ?_⟩ | refine ⟨fun _ => Is.stableT _ _, ?_⟩ | refine ⟨fun _ => Any.stableT _, ?_⟩ | refine ⟨fun _ => OneOf.stableT _ _ _ _, ?_⟩ | refine ⟨fun _ => NumRow.stableT _ (fun q hq => by rw [← HBASE.out]; exact HSB.out q hq), ?_⟩ | refine ⟨fun _ => NumPtr.stableT _ (fun q hq => by rw [← HBASE.out]; exact HSB.out q hq), ?_⟩)) (by repeat (first | exact trivial | refine ⟨Is.stable _, ?_⟩ | refine ⟨Any.stable, ?_⟩ | refine ⟨OneOf.stable _ _ _ _, ?_⟩ | refine ⟨NumRow.stable _ _, ?_⟩ | refine ⟨NumPtr.stable _ _, ?_⟩ | refine ⟨TileRow.stable _ _, ?_⟩)) ⟨HP10.out.keep ((Since.refl w10).drew), fun _ => OwnRow.keep HO10.out ((Since.refl w10).drew)⟩ ⟨?_, ?_, ?_, ?_, ?_, ?_, ?_, ?_, ?_, ?_, ?_, ?_, ?_, ?_, ?_, ?_, ?_, trivial⟩ ?_
              rotate_right
              · intro vs w12 ht hph hk
                simp only [List.take, List.drop, putAll, Act.put, KnowsAll, nthF, Is, List.setIfInBounds_toArray, List.set_cons_zero, List.set_cons_succ, Nat.reduceAdd] at hk ⊢
                try simp only [hk]
                obtain ⟨nw, hnw⟩ : ∃ nw, vs 16 = nw := ⟨_, rfl⟩
                have hrow : TileRow w0.heap.size (tl ++ [⟨pn, d⟩]) (vs 16) w12 := by exact hk.2.2.2.2.2.2.2.2.2.2.2.2.2.2.2.2.1
                rw [hnw] at hrow
                simp only [hnw]
                obtain ⟨km, hkm⟩ : ∃ k, (tl ++ [(⟨pn, d⟩ : DTile)]).length = k := ⟨_, rfl⟩
                obtain ⟨na, nc, hv9⟩ := own_shape hrow
                rw [hkm] at hv9
                subst hv9
                have hpa : TPa w0 pb (.slice ta kt tc) 0 0 E (.slice none 0 0) [] w12 := hph.pa
                have z4 : w12.cell? ⟨pb, 4, none⟩ = some (.slice ta kt tc) := hpa.cell 4
                have zl := hpa.box.lt
                have zf := hpa.box.frozen
                have HPF2 := Lib.hid (hpa.put 4 (.slice na km nc) (params' := 0) (pl' := 0) (e' := E) (tl' := [.slice na km nc]) rfl)
                have HRW := Lib.hid hrow
                have HBX := Lib.hid hpa.box
                have HTT := Lib.hid ((HT10.out.mono (fun q _ hq => .inl hq) : Turn (fun q => q = pb ∨ (Value.slice ta kt tc).ownBlock = some q) w w10).trans ht)
                clear hk hph ht hrow hpa hnw hkm
                go_wp2
                go_end0
                have hset : Turn (fun q => q = pb) w12 (w12.setCell ⟨pb, 4, none⟩ (.slice na km nc)) := (Turn.refl (fun q => q = pb) w12).setCell (p := ⟨pb, 4, none⟩) rfl _
                refine ⟨rfl, .slice na km nc, tl ++ [(⟨pn, d⟩ : DTile)], E, HPF2.out, own_turn HRW.out hset (fun q hq e => by subst e; exact own_not HRW.out HBX.out (by decide) hq), HTT.out.trans (hset.mono fun q _ hq => .inl hq), ?_⟩
                rw [HST.out, HPN.out, if_pos hpn0]
                have hE := HEE.out
                unfold numsE areNums at hE
                cases hok : isNum c
                · rw [if_neg (by simp)]
                  refine ⟨?_, by decide⟩
                  rw [← hE]; simp [hok]
                · rw [if_pos rfl]
                  refine ⟨?_, by rw [HD.out]⟩
                  rw [← hE]; simp [hok]
              all_goals
                intro p vs w12 hlo hhi ht hph hk
                simp only [List.take, putAll, Act.put, Knows, nthF, Is, List.setIfInBounds_toArray, List.set_cons_zero, List.set_cons_succ, Nat.reduceAdd] at hk ⊢
                try simp only [hk]
              · go_wp2
                exact ⟨_, rfl, rfl, Since.refl _, hph⟩
              · go_wp2
                exact ⟨_, rfl, rfl, Since.refl _, hph⟩
              · go_wp2
                exact ⟨_, rfl, rfl, Since.refl _, hph⟩
              · go_wp2
                exact ⟨_, rfl, rfl, Since.refl _, hph⟩
              · have z1 : w12.cell? ⟨pb, 4, none⟩ = some (.slice ta kt tc) := hph.pa.cell 4
                have z2 : pb < w12.heap.size := hph.pa.box.lt
                go_wp2
                exact ⟨_, rfl, rfl, Since.refl _, hph⟩
              · go_wp2
                exact ⟨_, rfl, rfl, Since.refl _, hph⟩
              · go_wp2
                exact ⟨_, rfl, rfl, Since.refl _, hph⟩
              · go_wp2
                exact ⟨_, rfl, rfl, Since.refl _, hph⟩
              · go_wp2
                exact ⟨_, rfl, rfl, Since.refl _, hph⟩
              · have z1 : w12.cell? ⟨vb, vo + 2, none⟩ = some (.string c) := (ht.cell (p := ⟨vb, vo + 2, none⟩) hvb10 HNS.out).trans cc10
                have z2 : vb < w12.heap.size := Nat.lt_of_lt_of_le hvb10 ht.size
                go_wp2
                exact ⟨_, rfl, rfl, Since.refl _, hph⟩
              · have hne : ¬ (w12.heap.size = pb ∨ (Value.slice ta kt tc).ownBlock = some w12.heap.size) := fun e => by have := HSB.out _ e; have := ht.size; omega
                have hs2 := (Since.refl w12).alloc (.cells (stc c).toArray 9)
                have HP := Lib.hid (show TlPh w0 pb (.slice ta kt tc) tl E p _ from ⟨hph.pa.keep hs2, fun hp => OwnRow.keep (hph.row hp) hs2⟩)
                clear hph
                go_wp2
                exact ⟨_, rfl, ⟨_, rfl, HeapIs.new _ _ _, hne⟩, hs2, HP.out⟩
              · obtain ⟨b1, hbx1, hbx2, hbx3⟩ : OneOf stc 9 (fun q => q = pb ∨ (Value.slice ta kt tc).ownBlock = some q) c (vs 10) w12 := hk.2.1
                simp only [hbx1]
                obtain rfl : p = 0 := by omega
                have hst12 : StrsIn w12 (.slice (some ⟨b1, 0, none⟩) 1 1) [c] := .inr ⟨b1, 0, 1, rfl, Nat.le_refl _, by decide, HeapIs.lt hbx2, fun j y hj => by
                  match j, hj with
                  | 0, hj => obtain rfl : c = y := by simpa using hj
                             exact ⟨fun t ht => by obtain rfl : t = 0 := by omega
                                                   exact hbx2.cell 0, HCS.out⟩
                  | j + 1, hj => simp at hj⟩
                have hsy : Stays (fun q => q = pb) w12 (.slice (some ⟨b1, 0, none⟩) 1 1) := fun q hq => by cases hq; exact ⟨fun e => hbx3 (.inl e), HeapIs.lt hbx2⟩
                have hp12 : TPa w0 pb (.slice ta kt tc) 0 0 0 (.slice none 0 0) [] w12 := hph.pa
                have hrow := hph.row (by decide)
                have HROW := Lib.hid hrow
                have hsz := ht.size
                clear hk hph hbx1
                go_wp2_with fail
                refine (nums_any w12 hp12 HLT0.out _ [c] hst12 hsy (by simp)).mono ?_
                rintro e13 w13 ⟨rv, rfl, hrow3, hp13, ht13⟩
                obtain ⟨g, gc, rfl, hg1, hg2, hg3, hgl, hgc⟩ := own_one (show w13.ownsRow _ _ 1 _ 1 [.int .i64 (numW c)] from hrow3)
                rw [HD.out] at hgc
                rw [HEE.out] at hp13
                have HX := Lib.hid (show NumRow base d (.slice (some ⟨g, 0, none⟩) 1 gc) w13 from ⟨g, gc, rfl, by have := HBASE.out; omega, hgl, hgc⟩)
                have HT13 := Lib.hid (ht13.mono (fun q _ hq => .inl hq) : Turn (fun q => q = pb ∨ (Value.slice ta kt tc).ownBlock = some q) w12 w13)
                have HPH := Lib.hid (show TlPh w0 pb (.slice ta kt tc) tl E 1 w13 from ⟨hp13, fun _ => own_turn HROW.out ht13 (fun q hq e => by subst e; exact HPR.out hq)⟩)
                clear hst12 hsy hp12 hrow hrow3 hp13 ht13 hgc hgl hbx2 hbx3
                go_wp2
                exact ⟨_, rfl, HX.out, HT13.out, HPH.out⟩
              · obtain ⟨g, gc, hv3, hg1, hg2, hg3⟩ : NumRow base d (vs 11) w12 := hk.1
                simp only [hv3]
                have HX := Lib.hid (show NumPtr base d (.pointer (some ⟨g, 0, none⟩)) w12 from ⟨g, rfl, hg1, hg2, hg3⟩)
                clear hk hv3
                go_wp2
                exact ⟨_, rfl, HX.out, Since.refl _, hph⟩
              · obtain ⟨g, hv3, hg1, hg2, hg3⟩ : NumPtr base d (vs 12) w12 := hk.1
                simp only [hv3]
                clear hk hv3
                go_wp2
                exact ⟨_, rfl, rfl, Since.refl _, hph⟩
              · go_wp2
                exact ⟨_, rfl, rfl, Since.refl _, hph⟩
              · have hne : ¬ (w12.heap.size = pb ∨ (Value.slice ta kt tc).ownBlock = some w12.heap.size) := fun e => by have := HSB.out _ e; have := ht.size; omega
                have hs2 := (Since.refl w12).alloc (.cells (dtcells (⟨pn, d⟩ : DTile)).toArray 37)
                have HP := Lib.hid (show TlPh w0 pb (.slice ta kt tc) tl E p _ from ⟨hph.pa.keep hs2, fun hp => OwnRow.keep (hph.row hp) hs2⟩)
                clear hph
                go_wp2
                exact ⟨_, rfl, ⟨_, rfl, HeapIs.new _ _ _, hne⟩, hs2, HP.out⟩
              · obtain ⟨b1, hbx1, hbx2, hbx3⟩ : OneOf dtcells 37 (fun q => q = pb ∨ (Value.slice ta kt tc).ownBlock = some q) (⟨pn, d⟩ : DTile) (vs 15) w12 := hk.2.1
                simp only [hbx1]
                obtain rfl : p = 1 := by omega
                have hrow := hph.row (by decide)
                have HPA := Lib.hid (show TPa w0 pb (.slice ta kt tc) 0 0 E (.slice none 0 0) [] w12 from hph.pa)
                have HROW := Lib.hid hrow
                clear hk hph hbx1
                refine wpList_append_one2 dtcells 2 (fun _ => rfl) (by decide) rfl _ _ 32 rfl 37 (.agg #[.int .i64 0, .int .i64 0]) 16 Tryd.underlying32 (by kernel_rfl) rfl (.slice ta kt tc) tl ⟨pn, d⟩ b1 1 _ rfl rfl hrow hbx2 (dtcells_one _) (by rw [HKT.out]; unfold maxLen; omega) (by rw [HKT.out]; omega) HPA.out.old.size ?_
                intro v9 w13 hown ht3 hnew
                have HA := Lib.hid (show TileRow w0.heap.size (tl ++ [⟨pn, d⟩]) v9 w13 from hown)
                have HT3 := Lib.hid (ht3.mono (fun q _ hq => .inr hq) : Turn (fun q => q = pb ∨ (Value.slice ta kt tc).ownBlock = some q) w12 w13)
                have HPH := Lib.hid (show TlPh w0 pb (.slice ta kt tc) tl E 2 w13 from ⟨HPA.out.bare ht3 (fun q hq => (World.ownsRow.lt HROW.out q hq).1) (HPA.out.box.turn ht3 HPR.out), fun h => absurd h (by decide)⟩)
                clear hown ht3 hnew hrow hbx2 hbx3
                go_wp2
                exact ⟨_, rfl, HA.out, HT3.out, HPH.out⟩
            all_goals
              intro vs w8 hs hk _
              simp only [List.take, putAll, Act.put, Knows, nthF, Is, List.setIfInBounds_toArray, List.set_cons_zero, List.set_cons_succ, Nat.reduceAdd] at hk ⊢
              try simp only [hk]
            · go_wp2
              exact ⟨_, rfl, rfl, Since.refl _⟩
            · have hlt8 := HLT0.out.keep (HP5.out.old.trans (HSR.out.trans hs))
              have HPA := Lib.hid (patterns_any w8 hlt8.tab)
              clear hk hlt8
              go_wp2_with fail
              refine HPA.out.mono ?_
              rintro e9 w9 ⟨rfl, hs9⟩
              have HS9 := Lib.hid hs9
              clear hs9
              go_wp2
              exact ⟨_, rfl, rfl, HS9.out⟩
            · go_wp2
              exact ⟨_, rfl, congrArg Value.bool (decide_eq_true (by omega)), Since.refl _⟩
            · go_wp2
              exact ⟨_, rfl, rfl, Since.refl _⟩
            · go_wp2
              exact ⟨_, rfl, rfl, Since.refl _⟩
            · have hlt8 := HLT0.out.keep (HP5.out.old.trans (HSR.out.trans hs))
              have hnm := tname_any ((k : Int) + 1) w8 ⟨by omega, by omega⟩ hlt8.tab
              rw [patB_at k hlt, HZ.out] at hnm
              have HNM := Lib.hid hnm
              clear hk hlt8 hnm
              go_wp2_with fail
              refine HNM.out.mono ?_
              rintro e9 w9 ⟨rfl, hs9⟩
              have hs9 : Since w8 w9 := hs9
              have HS9 := Lib.hid hs9
              clear hs9
              go_wp2
              exact ⟨_, rfl, rfl, HS9.out⟩
            · go_wp2
              exact ⟨_, rfl, rfl, Since.refl _⟩
            · go_wp2
              exact ⟨_, rfl, rfl, Since.refl _⟩
            · have z1 : w8.cell? ⟨vb, vo + 1, none⟩ = some (.string p) := (hs.cell (p := ⟨vb, vo + 1, none⟩) hvbr).trans cpr
              have z2 : vb < w8.heap.size := Nat.lt_of_lt_of_le hvbr hs.size
              go_wp2
              exact ⟨_, rfl, rfl, Since.refl _⟩
          · have hq : (z.toList == p.toList) = false := (Lib.bytes_beq_false_iff z p).2 he
            have HX := Lib.hid he
            clear he
            go_wp2_with fail
            refine wp_region_since_tail 9 rfl (by decide +kernel) (by decide +kernel) (by decide +kernel) (by decide)
              [Is (.int .i64 ((k : Int) + 1)), Is (.int .i64 37), Is (.bool true), Is (.bool true), Is (.int .i64 ((k : Int) + 1)), Is (.string z), Is (.slice (some ⟨vb, vo, none⟩) 3 vc), Is (.pointer (some ⟨vb, vo + 1, none⟩)), Is (.string p)]
              (by repeat (first | exact trivial | refine ⟨Is.stable _, ?_⟩ | refine ⟨Any.stable, ?_⟩)) ⟨?_, ?_, ?_, ?_, ?_, ?_, ?_, ?_, ?_, trivial⟩ ?_
            rotate_right
            · intro vs w8 hs hk
              simp only [List.take, List.drop, putAll, Act.put, KnowsAll, nthF, Is, List.setIfInBounds_toArray, List.set_cons_zero, List.set_cons_succ, Nat.reduceAdd] at hk ⊢
              try simp only [hk]
              have HS8 := Lib.hid (HSR.out.trans hs)
              clear hs hk
              go_wp2
              go_roundw
              case rel => exact ⟨k + 1, by omega, by go_num, fun j hj => by
                by_cases h : j < k
                · exact HNE.out j h
                · obtain rfl : j = k := by omega
                  rw [HZ.out]; exact HX.out, HS8.out⟩
              case measure => simp [intOf]; omega
            all_goals
              intro vs w8 hs hk _
              simp only [List.take, putAll, Act.put, Knows, nthF, Is, List.setIfInBounds_toArray, List.set_cons_zero, List.set_cons_succ, Nat.reduceAdd] at hk ⊢
              try simp only [hk]
            · go_wp2
              exact ⟨_, rfl, rfl, Since.refl _⟩
            · have hlt8 := HLT0.out.keep (HP5.out.old.trans (HSR.out.trans hs))
              have HPA := Lib.hid (patterns_any w8 hlt8.tab)
              clear hk hlt8
              go_wp2_with fail
              refine HPA.out.mono ?_
              rintro e9 w9 ⟨rfl, hs9⟩
              have HS9 := Lib.hid hs9
              clear hs9
              go_wp2
              exact ⟨_, rfl, rfl, HS9.out⟩
            · go_wp2
              exact ⟨_, rfl, congrArg Value.bool (decide_eq_true (by omega)), Since.refl _⟩
            · go_wp2
              exact ⟨_, rfl, rfl, Since.refl _⟩
            · go_wp2
              exact ⟨_, rfl, rfl, Since.refl _⟩
            · have hlt8 := HLT0.out.keep (HP5.out.old.trans (HSR.out.trans hs))
              have hnm := tname_any ((k : Int) + 1) w8 ⟨by omega, by omega⟩ hlt8.tab
              rw [patB_at k hlt, HZ.out] at hnm
              have HNM := Lib.hid hnm
              clear hk hlt8 hnm
              go_wp2_with fail
              refine HNM.out.mono ?_
              rintro e9 w9 ⟨rfl, hs9⟩
              have hs9 : Since w8 w9 := hs9
              have HS9 := Lib.hid hs9
              clear hs9
              go_wp2
              exact ⟨_, rfl, rfl, HS9.out⟩
            · go_wp2
              exact ⟨_, rfl, rfl, Since.refl _⟩
            · go_wp2
              exact ⟨_, rfl, rfl, Since.refl _⟩
            · have z1 : w8.cell? ⟨vb, vo + 1, none⟩ = some (.string p) := (hs.cell (p := ⟨vb, vo + 1, none⟩) hvbr).trans cpr
              have z2 : vb < w8.heap.size := Nat.lt_of_lt_of_le hvbr hs.size
              go_wp2
              exact ⟨_, rfl, rfl, Since.refl _⟩
        · obtain rfl : k = 37 := by omega
          have HPF := Lib.hid (patF_miss HNE.out)
          go_wp2_with fail
          refine wp_region_since_tail 9 rfl (by decide +kernel) (by decide +kernel) (by decide +kernel) (by decide)
            [Is (.int .i64 38), Is (.int .i64 37), Is (.bool false), Is (.bool false), Any, Any, Any, Any, Any]
            (by repeat (first | exact trivial | refine ⟨Is.stable _, ?_⟩ | refine ⟨Any.stable, ?_⟩)) ⟨?_, ?_, ?_, ?_, ?_, ?_, ?_, ?_, ?_, trivial⟩ ?_
          rotate_right
          · intro vs w8 hs hk
            simp only [List.take, List.drop, putAll, Act.put, KnowsAll, nthF, Is, Any, List.setIfInBounds_toArray, List.set_cons_zero, List.set_cons_succ, Nat.reduceAdd] at hk ⊢
            try simp only [hk]
            have HS8 := Lib.hid (HSR.out.trans hs)
            clear hs hk
            have HP8 := Lib.hid (HP5.out.keep HS8.out)
            have HT8 := Lib.hid (HT5.out.later (Turn.since (S := fun q => q = pb) HS8.out) (fun q hq => .inl hq))
            go_wp2_with fail
            have hlt9 := HLT0.out.keep HP8.out.old
            refine (patterns_any w8 hlt9.tab).mono ?_
            rintro e9 w9 ⟨rfl, hs9⟩
            have HS9 := Lib.hid (HS8.out.trans hs9)
            have HP9 := Lib.hid (HP8.out.keep hs9)
            have HT9 := Lib.hid (HT8.out.later (Turn.since (S := fun q => q = pb) hs9) (fun q hq => .inl hq))
            clear hs9 hlt9
            go_wp2_with fail
            refine (must_any w9 HP9.out false 72 (by decide)).mono ?_
            rintro e10 w10 ⟨rfl, hp10, ht10⟩
            have HFI := Lib.hid (HE.out 72 w10 (by rw [HST.out, HPF.out]; rfl) (by decide) hp10 (HT9.out.trans ht10))
            clear hp10 ht10
            go_wp2
            go_end0
            exact HFI.out
          all_goals
            intro vs w8 hs hk _
            simp only [List.take, putAll, Act.put, Knows, nthF, Is, Any, List.setIfInBounds_toArray, List.set_cons_zero, List.set_cons_succ, Nat.reduceAdd] at hk ⊢
            try simp only [hk]
          · go_wp2
            exact ⟨_, rfl, rfl, Since.refl _⟩
          · have hlt8 := HLT0.out.keep (HP5.out.old.trans (HSR.out.trans hs))
            have HPA := Lib.hid (patterns_any w8 hlt8.tab)
            clear hk hlt8
            go_wp2_with fail
            refine HPA.out.mono ?_
            rintro e9 w9 ⟨rfl, hs9⟩
            have HS9 := Lib.hid hs9
            clear hs9
            go_wp2
            exact ⟨_, rfl, rfl, HS9.out⟩
          · go_wp2
            exact ⟨_, rfl, rfl, Since.refl _⟩
          · go_wp2
            exact ⟨_, rfl, rfl, Since.refl _⟩
          · go_wp2
            exact ⟨_, (put_old _ 24).symm, trivial, Since.refl _⟩
          · go_wp2
            exact ⟨_, (put_old _ 25).symm, trivial, Since.refl _⟩
          · go_wp2
            exact ⟨_, (put_old _ 26).symm, trivial, Since.refl _⟩
          · go_wp2
            exact ⟨_, (put_old _ 27).symm, trivial, Since.refl _⟩
          · go_wp2
            exact ⟨_, (put_old _ 28).symm, trivial, Since.refl _⟩
    · have h3q : ((n : Int) == 3) = false := by rw [beq_eq_false_iff_ne]; omega
      have HZ := Lib.hid (show tileSt tl (f :: r) = .error 70 from by
        show (if f = wTile then _ else _) = _
        rw [if_pos HF.out]; exact if_neg (fun e => h3 (by rw [← HNN.out, List.length_cons, e])))
      clear h3
      go_wp2_with fail
      refine (must_any w HH.out true 72 (by decide)).mono ?_
      rintro e4 w4 ⟨rfl, hp4, ht4⟩
      have HP4 := Lib.hid (show TPa w0 pb tv 0 0 0 (.slice none 0 0) [] w4 from hp4)
      have HT4 := Lib.hid ht4
      clear hp4 ht4
      go_wp2_with fail
      refine (must_any w4 HP4.out false 70 (by decide)).mono ?_
      rintro e5 w5 ⟨rfl, hp5, ht5⟩
      have HFI := Lib.hid (HE.out 70 w5 HZ.out (by decide) hp5 (HT4.out.trans ht5))
      clear hp5 ht5
      go_wp2
      go_end0
      exact HFI.out
  · have hqf := not_tile hf
    have HZ := Lib.hid (show tileSt tl (f :: r) = .error 72 from if_neg hf)
    clear hf
    go_wp2_with fail
    refine (must_any w HH.out false 72 (by decide)).mono ?_
    rintro e4 w4 ⟨rfl, hp4, ht4⟩
    have HFI := Lib.hid (HE.out 72 w4 HZ.out (by decide) hp4 ht4)
    clear hp4 ht4
    go_wp2
    go_end0
    exact HFI.out
end
end Go.Proofs.YtmhojfpidedjeaaDoor
