/- TxTPTiles TxTileSame TxDig -/
import Derived.Test.YtmhojfpidedjeaaDoorDz11
namespace Go.Proofs.YtmhojfpidedjeaaDoor
open Go.RowKit
set_option linter.unusedVariables false
def TInv (w0 : World) (pb : Nat) (i : Nat) (t : List DTile) (w : World) : Prop := ∃ tv, TPa w0 pb tv 0 0 0 (.slice none 0 0) [] w ∧ OwnRow dtcells 2 37 w0.heap.size w tv t ∧ t.length ≤ i ∧ TlOk t
def TBad (w0 : World) (pb : Nat) (n : Int) (w : World) : Prop := ∃ tv, TPa w0 pb tv 0 0 n (.slice none 0 0) [] w ∧ n ≠ 0
theorem tile_enters (args : Array Value) (w : World) : (callFunc 20 args).run Tryd.prog w = .ok (.enter 20 args) w := by
  simp [callFunc, Tryd.func20]
  first | rfl | skip
theorem tileSt_ok {l t : List DTile} {x : List ByteArray} (hl : TlOk l) (h : tileSt l x = .ok t) : TlOk t := by
  unfold tileSt at h
  split at h
  · cases h; exact hl
  · split at h
    · split at h
      · split at h
        · split at h
          · cases h; exact hl.more _ _
          · cases h
        · cases h
      · cases h
    · cases h
theorem tiles_ok (w0 : World) (pb : Nat) (hL : LaidT w0) : EachOk 20 pb tileSt (TInv w0 pb) (TBad w0 pb) where
  e0 := fun i t w ⟨tv, h, _⟩ => ⟨h.cell 3, h.box.lt⟩
  keep := fun i t w w' ⟨tv, h, h1, h2⟩ s => ⟨tv, h.keep s, OwnRow.keep h1 s, h2⟩
  laid := fun i t w ⟨tv, h, _⟩ => hL.keep h.old
  more := fun i t w ⟨tv, h, h1, h2, h3⟩ => ⟨tv, h, h1, by omega, h3⟩
  enters := tile_enters
  bad := fun n w ⟨tv, h, hn⟩ => ⟨h.cell 3, hn, h.box.lt⟩
  call := fun i t w v f r ⟨tv, h, ho, hi2, hok⟩ hi hv hq hn => by
    refine (tile_any w tv t h ho hL (by omega) v f r hv hq hn).mono ?_
    rintro x w' ⟨rfl, tv', tl', e', hp, ho', ht, hans⟩
    refine ⟨rfl, ht.mono fun q _ hpq => ?_, ?_⟩
    · rcases hpq with rfl | hpq
      · exact fun cs hb => heap_ne h.box hb (by decide) rfl
      · exact fun cs hb => own_not ho hb (by decide) hpq
    · cases hs : tileSt t (f :: r) with
      | error n =>
        rw [hs] at hans
        obtain ⟨h1, h2⟩ := hans
        subst h1
        exact ⟨tv', hp, h2⟩
      | ok u =>
        rw [hs] at hans
        obtain ⟨h1, h2⟩ := hans
        subst h1 h2
        exact ⟨tv', hp, ho', by have := tileSt_len hs; omega, tileSt_ok hok hs⟩
def TablesQ (s : ByteArray) (w : World) (e : Ending) (w' : World) : Prop := ∃ v l line er, e = .returned (.tuple #[v, .int .i64 line, .int .i64 er]) ∧ TilesIn w' v l ∧ (⟨l, line, er⟩ : TRes) = parseT s.data.toList ∧ Since w w'
set_option maxHeartbeats 8000000 in
set_option maxRecDepth 100000 in
theorem ptiles_any (s : ByteArray) (w : World) (hs : s.size ≤ 300000) (hL : LaidT w) : Calls Tryd.prog 10 #[.string s] w (TablesQ s w) := by
  have HL0 := Lib.hid hL
  have HP0 := Lib.hid (PaM.start w 57 [.slice none 0 0] (by decide))
  clear hL
  go_enter Tryd.func10, Tryd.ntmps10
  go_wp2_with fail
  refine (each_any (tiles_ok w w.heap.size HL0.out) [] s _ ⟨_, HP0.out, OwnRow.nil _ _ _ _ _, Nat.le_refl _, fun _ h => (by cases h)⟩ hs).mono ?_
  rintro e2 w2 ⟨wrong, rfl, hans⟩
  obtain ⟨pb, hpb⟩ : ∃ q, w.heap.size = q := ⟨_, rfl⟩
  have HPS := Lib.hid (show parseT s.data.toList = match goSt tileSt 0 [] (linesOf s.data.toList) with
    | .error x => ⟨[], x.1, x.2⟩
    | .ok t => ⟨t, 0, 0⟩ from rfl)
  rw [hpb] at hans ⊢
  clear hpb
  cases hg : goSt tileSt 0 [] (linesOf s.data.toList) with
  | error x =>
    rw [hg] at hans
    obtain ⟨ln, E⟩ := x
    obtain ⟨h1, tv, hp, hn0⟩ := hans
    simp only at h1 hp hn0
    subst h1
    have HRS := Lib.hid (show (⟨[], wrong, E⟩ : TRes) = parseT s.data.toList from by rw [HPS.out, hg])
    have hE : (E == 0) = false := by rw [beq_eq_false_iff_ne]; exact hn0
    have c3 : w2.cell? ⟨pb, 3, none⟩ = some (.int .i64 E) := hp.cell 3
    have hpl := hp.box.lt
    have HS2 := Lib.hid hp.old
    clear hg hp hn0
    go_wp2_with fail
    refine wp_region_list_facts rfl (by decide +kernel) (by decide +kernel)
      [Is (.int .i64 wrong), Is (.pointer (some ⟨pb, 0, none⟩)), Is (.pointer (some ⟨pb, 0, none⟩)), Is (.pointer (some ⟨pb, 3, none⟩)), Is (.int .i64 E), Is (.slice none 0 0), Is (.int .i64 wrong), Is (.int .i64 E)]
      (by repeat (first | exact trivial | refine ⟨Is.stable _, ?_⟩ | refine ⟨IsNums.stable _ _, ?_⟩ | refine ⟨IsRows.stable _ _, ?_⟩)) ⟨?_, ?_, ?_, ?_, ?_, ?_, ?_, ?_, trivial⟩ ?_
    all_goals
      intro vs w8 hs hk
      simp only [putAll, Act.put, Knows, KnowsAll, nthF, Is, List.setIfInBounds_toArray, List.set_cons_zero, List.set_cons_succ, Nat.reduceAdd, List.length_cons, List.length_nil] at hk ⊢
      try simp only [hk]
    · go_wp2
      exact ⟨_, rfl, rfl, Since.refl _⟩
    · go_wp2
      exact ⟨_, rfl, rfl, Since.refl _⟩
    · go_wp2
      exact ⟨_, rfl, rfl, Since.refl _⟩
    · go_wp2
      exact ⟨_, rfl, rfl, Since.refl _⟩
    · have z1 : w8.cell? ⟨pb, 3, none⟩ = some (.int .i64 E) := (hs.cell (p := ⟨pb, 3, none⟩) hpl).trans c3
      have z2 : pb < w8.heap.size := Nat.lt_of_lt_of_le hpl hs.size
      go_wp2
      exact ⟨_, rfl, rfl, Since.refl _⟩
    · go_wp2
      exact ⟨_, rfl, rfl, Since.refl _⟩
    · go_wp2
      exact ⟨_, rfl, rfl, Since.refl _⟩
    · go_wp2
      exact ⟨_, rfl, rfl, Since.refl _⟩
    · have HS8 := Lib.hid (HS2.out.trans hs)
      clear hs hk
      go_wp2
      go_ret3
      exact ⟨_, [], wrong, E, rfl, tilesIn_nil _, HRS.out, HS8.out⟩
  | ok t =>
    rw [hg] at hans
    obtain ⟨h1, i, hi, tv, hp, ho, hti, hok⟩ := hans
    subst h1
    have HRS := Lib.hid (show (⟨t, 0, 0⟩ : TRes) = parseT s.data.toList from by rw [HPS.out, hg])
    have c3 : w2.cell? ⟨pb, 3, none⟩ = some (.int .i64 0) := hp.cell 3
    have c4 : w2.cell? ⟨pb, 4, none⟩ = some tv := hp.cell 4
    have hpl := hp.box.lt
    have HS2 := Lib.hid hp.old
    have HTI := Lib.hid (tiles_own ho hok)
    obtain ⟨ta, tc, htv⟩ := own_shape ho
    subst htv
    clear hg hp ho hok
    go_wp2
    go_ret3
    exact ⟨_, t, 0, 0, rfl, HTI.out, HRS.out, HS2.out⟩
end Go.Proofs.YtmhojfpidedjeaaDoor
namespace Go.Proofs.YtmhojfpidedjeaaDoor
open Go.RowKit
set_option linter.unusedVariables false
set_option maxHeartbeats 2000000 in
set_option maxRecDepth 100000 in
theorem tiles_same (va vb : Value) (l : List DTile) (w : World) (ha : TilesIn w va l) (hb : TilesIn w vb l) : Calls Tryd.prog 12 #[va, vb] w fun e w' => e = .returned (.bool true) ∧ Since w w' := by
  obtain ⟨a1, c1, e1, hl1⟩ := RowIn.shape ha
  obtain ⟨a2, c2, e2, hl2⟩ := RowIn.shape hb
  obtain rfl : va = .slice a1 l.length c1 := e1
  obtain rfl : vb = .slice a2 l.length c2 := e2
  unfold maxLen at hl1
  clear hl2
  have HA := Lib.hid ha
  have HB := Lib.hid hb
  obtain ⟨n, hn⟩ : ∃ n, l.length = n := ⟨_, rfl⟩
  rw [hn] at hl1
  clear ha hb
  simp only [hn]
  go_enter Tryd.func12, Tryd.ntmps12
  go_wp2_with fail
  go_loopw [5] (fun i wr => ∃ k : Nat, i = .int .i64 k ∧ k ≤ n ∧ Since w wr) (fun i _ => n - (intOf i).toNat)
  case atStart => exact ⟨0, rfl, Nat.zero_le _, Since.refl _⟩
  case round =>
    obtain ⟨k, rfl, hk, hs1⟩ := hrel
    have HS1 := Lib.hid hs1
    by_cases hlt : k < n
    · obtain ⟨rb, off, x, rfl, hrb, hx, hc, hxr⟩ := RowIn.at (hn ▸ HA.out) (hn ▸ hlt)
      obtain ⟨rb2, off2, y, rfl, hrb2, hy, hc2, hyr⟩ := RowIn.at (hn ▸ HB.out) (hn ▸ hlt)
      obtain rfl : x = y := by rw [hx] at hy; exact Option.some.inj hy
      obtain ⟨pat, cost⟩ := x
      have C0 := Lib.hid (show wr.cell? ⟨rb, off + k * 2, none⟩ = some (.int .i64 pat) from (hs1.cell (p := ⟨rb, off + k * 2 + 0, none⟩) hrb).trans (hc 0 (by decide)))
      have C1 := Lib.hid (show wr.cell? ⟨rb, off + k * 2 + 1, none⟩ = some (.int .i64 cost) from (hs1.cell (p := ⟨rb, off + k * 2 + 1, none⟩) hrb).trans (hc 1 (by decide)))
      have D0 := Lib.hid (show wr.cell? ⟨rb2, off2 + k * 2, none⟩ = some (.int .i64 pat) from (hs1.cell (p := ⟨rb2, off2 + k * 2 + 0, none⟩) hrb2).trans (hc2 0 (by decide)))
      have D1 := Lib.hid (show wr.cell? ⟨rb2, off2 + k * 2 + 1, none⟩ = some (.int .i64 cost) from (hs1.cell (p := ⟨rb2, off2 + k * 2 + 1, none⟩) hrb2).trans (hc2 1 (by decide)))
      have HR1 := Lib.hid (Nat.lt_of_lt_of_le hrb hs1.size)
      have HR2 := Lib.hid (Nat.lt_of_lt_of_le hrb2 hs1.size)
      clear hs1 hc hc2 hx hy hxr hyr hrb hrb2
      go_wp2_with fail
      refine wp_region_list_facts rfl (by decide +kernel) (by decide +kernel)
        [Is (.slice (some ⟨rb, off, none⟩) n c1), Is (.int .i64 k), Is (.pointer (some ⟨rb, off + k * 2, none⟩)), Is (.agg #[.int .i64 pat, .int .i64 cost]), Is (.slice (some ⟨rb2, off2, none⟩) n c2), Is (.int .i64 k), Is (.pointer (some ⟨rb2, off2 + k * 2, none⟩)), Is (.agg #[.int .i64 pat, .int .i64 cost]), Is (.bool false)]
        (by repeat (first | exact trivial | refine ⟨Is.stable _, ?_⟩ | refine ⟨IsNums.stable _ _, ?_⟩ | refine ⟨IsRows.stable _ _, ?_⟩)) ⟨?_, ?_, ?_, ?_, ?_, ?_, ?_, ?_, ?_, trivial⟩ ?_
      all_goals
        intro vs w8 hs hk
        simp only [putAll, Act.put, Knows, KnowsAll, nthF, Is, List.setIfInBounds_toArray, List.set_cons_zero, List.set_cons_succ, Nat.reduceAdd, List.length_cons, List.length_nil] at hk ⊢
        try simp only [hk]
      · go_wp2
        exact ⟨_, rfl, rfl, Since.refl _⟩
      · go_wp2
        exact ⟨_, rfl, rfl, Since.refl _⟩
      · go_wp2
        exact ⟨_, rfl, rfl, Since.refl _⟩
      · have z0 : w8.cell? ⟨rb, off + k * 2, none⟩ = some (.int .i64 pat) := (hs.cell (p := ⟨rb, off + k * 2, none⟩) HR1.out).trans C0.out
        have z1 : w8.cell? ⟨rb, off + k * 2 + 1, none⟩ = some (.int .i64 cost) := (hs.cell (p := ⟨rb, off + k * 2 + 1, none⟩) HR1.out).trans C1.out
        have z2 := Nat.lt_of_lt_of_le HR1.out hs.size
        clear hs
        go_wp2
        exact ⟨_, rfl, rfl, Since.refl _⟩
      · go_wp2
        exact ⟨_, rfl, rfl, Since.refl _⟩
      · go_wp2
        exact ⟨_, rfl, rfl, Since.refl _⟩
      · go_wp2
        exact ⟨_, rfl, rfl, Since.refl _⟩
      · have z0 : w8.cell? ⟨rb2, off2 + k * 2, none⟩ = some (.int .i64 pat) := (hs.cell (p := ⟨rb2, off2 + k * 2, none⟩) HR2.out).trans D0.out
        have z1 : w8.cell? ⟨rb2, off2 + k * 2 + 1, none⟩ = some (.int .i64 cost) := (hs.cell (p := ⟨rb2, off2 + k * 2 + 1, none⟩) HR2.out).trans D1.out
        have z2 := Nat.lt_of_lt_of_le HR2.out hs.size
        clear hs
        go_wp2
        exact ⟨_, rfl, rfl, Since.refl _⟩
      · go_wp2
        exact ⟨_, rfl, rfl, Since.refl _⟩
      · have HS9 := Lib.hid (HS1.out.trans hs)
        clear hs hk
        go_wp2
        go_roundw
        case rel => exact ⟨k + 1, by go_num, by omega, HS9.out⟩
        case measure => simp [intOf]; omega
    · obtain rfl : k = n := by omega
      clear hs1
      go_wp2
      go_ret
      exact ⟨rfl, HS1.out⟩
end Go.Proofs.YtmhojfpidedjeaaDoor
namespace Go.Proofs.YtmhojfpidedjeaaDoor
open Go.RowKit
set_option linter.unusedVariables false
def d3 (n : Int) : Bs := Lib.itoa n ++ [32]
def row3 (l : List Int) : Bs := 91 :: (l.flatMap d3 ++ [93])
def In63 (n : Int) : Prop := -9223372036854775807 ≤ n ∧ n ≤ 9223372036854775807
def d3Meas (u : Value) (f : Value) : Nat := 2 * (intOf u).toNat + (match f with | .bool true => 1 | _ => 0)
theorem d3_len (n : Int) (h : In63 n) : (d3 n).length ≤ 22 := by
  have := Lib.itoa_length_le n (by have := h.1; omega) (by have := h.2; omega)
  unfold d3; simp only [List.length_append, List.length_cons, List.length_nil]; omega
set_option maxHeartbeats 2000000 in
set_option maxRecDepth 100000 in
theorem digits_any (n : Int) (w : World) (hn : In63 n) : Calls Tryd.prog 46 #[.int .i64 n] w (StrQ ⟨(d3 n).toArray⟩ w) := by
  obtain ⟨U, hU⟩ : ∃ U : Nat, n.natAbs = U := ⟨_, rfl⟩
  obtain ⟨hn1, hn2⟩ := hn
  have hUl : U ≤ 9223372036854775807 := by omega
  obtain ⟨z, hz⟩ : ∃ z : ByteArray, ⟨(d3 n).toArray⟩ = z := ⟨_, rfl⟩
  rw [hz]
  have HOUT := Lib.hid (show if n < 0 then (⟨#[45]⟩ ++ decB U) ++ ⟨#[32]⟩ = z else decB U ++ ⟨#[32]⟩ = z from by
    rw [← hz]
    by_cases hneg : n < 0
    · rw [if_pos hneg]
      apply bytes_ext
      rw [bytes_app, bytes_app]
      unfold decB d3
      rw [itoa_neg hneg, hU]; rfl
    · rw [if_neg hneg]
      apply bytes_ext
      rw [bytes_app]
      unfold decB d3
      rw [itoa_pos hneg, show n.toNat = U from by omega])
  clear hz
  have HU := Lib.hid hU
  go_enter Tryd.func46, Tryd.ntmps46
  by_cases hneg : n < 0
  · obtain rfl : n = -(U : Int) := by omega
    have hw : (0 : Int) - -(U : Int) = (U : Int) := by omega
    clear hU
    go_wp2_with fail
    go_loopw [3, 4, 5] (fun so uo fo wr => ∃ (u : Nat) (out : ByteArray) (fi : Bool), so = .string out ∧ uo = .int .i64 u ∧ fo = .bool fi ∧ u ≤ U ∧ ((fi = true ∧ u = U ∧ out = ⟨#[]⟩) ∨ (fi = false ∧ (u < U ∨ U = 0) ∧ Behind U u out)) ∧ Since w wr) (fun _ uo fo _ => d3Meas uo fo)
    case atStart => exact ⟨U, _, true, rfl, by first | rfl | (rw [hw]) | simp, rfl, Nat.le_refl _, .inl ⟨rfl, rfl, rfl⟩, Since.refl _⟩
    case round =>
      obtain ⟨u, out, fi, rfl, rfl, rfl, huU, hB, hs⟩ := hrel
      have HS := Lib.hid hs
      clear hs
      have hdg : ¬ (u : Int) % 10 < 0 := by omega
      have hcv := conv_one wr (48 + (u : Int) % 10)
      rw [dig_u8] at hcv
      have hz1 : (digB (u % 10)).size = 1 := rfl
      rcases hB with ⟨rfl, rfl, rfl⟩ | ⟨rfl, hlu, hB⟩
      · have HN := Lib.hid (behind_first u)
        have he := bytes_empty (digB (u % 10))
        go_wp2
        go_roundw
        case rel => exact ⟨u / 10, _, false, rfl, by simp, rfl, by omega, .inr ⟨rfl, by omega, HN.out⟩, HS.out.alloc _⟩
        case measure => simp [d3Meas, intOf]; omega
      · have hz := behind_len hB (by omega)
        have HB := Lib.hid hB
        clear hB
        by_cases h0 : 0 < u
        · have HN := Lib.hid (behind_next HB.out (by omega))
          go_wp2
          go_roundw
          case rel => exact ⟨u / 10, _, false, rfl, by simp, rfl, by omega, .inr ⟨rfl, by omega, HN.out⟩, HS.out.alloc _⟩
          case measure => simp [d3Meas, intOf]; omega
        · obtain rfl : 0 = u := by omega
          obtain rfl : out = decB U := by have := HB.out; unfold Behind at this; rwa [if_pos rfl] at this
          have hfin := HOUT.out
          rw [if_pos (by omega)] at hfin
          clear hcv hdg
          go_wp2
          try rw [hfin]
          go_ret
          exact ⟨rfl, HS.out⟩
  · obtain rfl : n = (U : Int) := by omega
    clear hU
    go_wp2_with fail
    go_loopw [3, 4, 5] (fun so uo fo wr => ∃ (u : Nat) (out : ByteArray) (fi : Bool), so = .string out ∧ uo = .int .i64 u ∧ fo = .bool fi ∧ u ≤ U ∧ ((fi = true ∧ u = U ∧ out = ⟨#[]⟩) ∨ (fi = false ∧ (u < U ∨ U = 0) ∧ Behind U u out)) ∧ Since w wr) (fun _ uo fo _ => d3Meas uo fo)
    case atStart => exact ⟨U, _, true, rfl, by first | rfl | (rw [hw]) | simp, rfl, Nat.le_refl _, .inl ⟨rfl, rfl, rfl⟩, Since.refl _⟩
    case round =>
      obtain ⟨u, out, fi, rfl, rfl, rfl, huU, hB, hs⟩ := hrel
      have HS := Lib.hid hs
      clear hs
      have hdg : ¬ (u : Int) % 10 < 0 := by omega
      have hcv := conv_one wr (48 + (u : Int) % 10)
      rw [dig_u8] at hcv
      have hz1 : (digB (u % 10)).size = 1 := rfl
      rcases hB with ⟨rfl, rfl, rfl⟩ | ⟨rfl, hlu, hB⟩
      · have HN := Lib.hid (behind_first u)
        have he := bytes_empty (digB (u % 10))
        go_wp2
        go_roundw
        case rel => exact ⟨u / 10, _, false, rfl, by simp, rfl, by omega, .inr ⟨rfl, by omega, HN.out⟩, HS.out.alloc _⟩
        case measure => simp [d3Meas, intOf]; omega
      · have hz := behind_len hB (by omega)
        have HB := Lib.hid hB
        clear hB
        by_cases h0 : 0 < u
        · have HN := Lib.hid (behind_next HB.out (by omega))
          go_wp2
          go_roundw
          case rel => exact ⟨u / 10, _, false, rfl, by simp, rfl, by omega, .inr ⟨rfl, by omega, HN.out⟩, HS.out.alloc _⟩
          case measure => simp [d3Meas, intOf]; omega
        · obtain rfl : 0 = u := by omega
          obtain rfl : out = decB U := by have := HB.out; unfold Behind at this; rwa [if_pos rfl] at this
          have hfin := HOUT.out
          rw [if_neg (by omega)] at hfin
          clear hcv hdg
          go_wp2
          try rw [hfin]
          go_ret
          exact ⟨rfl, HS.out⟩
set_option maxHeartbeats 1000000 in
set_option maxRecDepth 100000 in
theorem row3_any (v : Value) (l : List Int) (w : World) (hl : Ints w v l) (hr : ∀ x ∈ l, In63 x) (hn : (l.flatMap d3).length ≤ 1000000000000) : Calls Tryd.prog 47 #[v] w (StrQ ⟨(row3 l).toArray⟩ w) := by
  obtain ⟨a, c, rfl⟩ := nums_lenI hl
  have hll := Nums.len hl
  unfold maxLen at hll
  have HL := Lib.hid hl
  have HR := Lib.hid hr
  have HN := Lib.hid hn
  clear hl hr hn
  go_enter Tryd.func47, Tryd.ntmps47
  go_wp2_with fail
  go_loopw [3, 4] (fun so io wr => ∃ (k : Nat) (out : ByteArray), out = ⟨(91 :: (l.take k).flatMap d3).toArray⟩ ∧ so = .string out ∧ io = .int .i64 k ∧ k ≤ l.length ∧ Since w wr) (fun _ io _ => l.length - (intOf io).toNat)
  case atStart => exact ⟨0, _, rfl, rfl, rfl, Nat.zero_le _, Since.refl _⟩
  case round =>
    obtain ⟨k, out, ho, rfl, rfl, hk, hs⟩ := hrel
    have HO := Lib.hid ho
    have HS := Lib.hid hs
    have hos : out.size ≤ 1000000000001 := by
      rw [ho, bs_size, List.length_cons]
      have h1 := flat_take d3 l k
      have := HN.out
      omega
    by_cases hlt : k < l.length
    · obtain ⟨b, off, x, rfl, hb, hx, hc⟩ := nums_at HL.out hlt
      have hcx := (hs.cell (p := ⟨b, off + k, none⟩) hb).trans hc
      have hbl : b < wr.heap.size := Nat.lt_of_lt_of_le hb hs.size
      obtain ⟨z, hz⟩ : ∃ z : ByteArray, ⟨(d3 x).toArray⟩ = z := ⟨_, rfl⟩
      have hxr := HR.out x (List.mem_of_getElem? hx)
      have hd := digits_any x wr hxr
      rw [hz] at hd
      have HD := Lib.hid hd
      have hzz : z.size ≤ 22 := by rw [← hz, bs_size]; exact d3_len x hxr
      have HX := Lib.hid (show out ++ z = ⟨(91 :: (l.take (k + 1)).flatMap d3).toArray⟩ from by rw [ho, ← hz, bs_app, flat_next d3 hx]; rfl)
      clear hd hs ho hz hx hc hb hxr
      go_wp2_with fail
      refine HD.out.mono ?_
      rintro e w2 ⟨rfl, hs2⟩
      have HS2 := Lib.hid (HS.out.trans hs2)
      clear hs2
      go_wp2
      go_roundw
      case rel => exact ⟨k + 1, _, HX.out, rfl, by go_num, by omega, HS2.out⟩
      case measure => simp [intOf]; omega
    · obtain rfl : l.length = k := by omega
      rw [List.take_length] at HO
      have HF := Lib.hid (show out ++ ⟨#[93]⟩ = ⟨(row3 l).toArray⟩ from by rw [HO.out]; apply bytes_ext; rw [bytes_app]; unfold row3; simp)
      clear ho hs
      go_wp2
      try rw [HF.out]
      go_ret
      exact ⟨rfl, HS.out⟩
end Go.Proofs.YtmhojfpidedjeaaDoor
