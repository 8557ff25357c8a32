/- OrderAll: as many of all orders are accepted as are counted. -/
import Derived.Test.YtkpbmbhejpmboaaTry
import Derived.Test.YtkpbmbhejpmboaaIntsOpen
namespace Go.Proofs.Ytkpbmbhejpmboaa
open Go.RowKit
set_option linter.unusedVariables false

/-! ### The instructions, numbered -/
def plN (p : Mach × Nat) : PlV := ⟨p.1, nilv, (p.2 : Int)⟩
def pl (L : List Mach) : List PlV := L.zipIdx.map plN
theorem pl_len (L : List Mach) : (pl L).length = L.length := by simp [pl]
theorem pl_snoc (L : List Mach) (m : Mach) : pl (L ++ [m]) = pl L ++ [plN (m, L.length)] := by simp [pl, List.zipIdx_append]
theorem pl_at (L : List Mach) (j : Nat) : (pl L)[j]? = L[j]?.map fun m => plN (m, j) := by
  unfold pl
  rw [List.getElem?_map, List.getElem?_zipIdx, Option.map_map]
  cases L[j]? <;> simp
theorem pl_mem {L : List Mach} {x : PlV} (h : x ∈ pl L) : ∃ m j, m ∈ L ∧ x = plN (m, j) := by
  obtain ⟨j, hj⟩ := List.getElem?_of_mem h
  rw [pl_at] at hj
  obtain ⟨m, hm, rfl⟩ := Option.map_eq_some_iff.1 hj
  exact ⟨m, j, List.mem_of_getElem? hm, rfl⟩
theorem pl_numbered (L : List Mach) : Numbered (pl L) := fun k => by
  have h := pl_at L k.val
  rw [List.getElem?_eq_getElem k.isLt] at h
  obtain ⟨m, _, h2⟩ := Option.map_eq_some_iff.1 h.symm
  rw [show (pl L).get k = (pl L)[k.val] from rfl, ← h2]; rfl
theorem depL_pl (L : List Mach) : depL (pl L) = depAt (nl L) := by
  funext a b
  unfold depL depAt nl
  rw [pl_at, pl_at, List.getElem?_map, List.getElem?_map]
  cases L[a]? <;> cases L[b]? <;> rfl

/-! ### They may stand in the program -/
theorem op_cases (r : Int) : opOf r = 3 ∨ opOf r = 18 ∨ opOf r = 24 ∨ opOf r = 26 ∨ opOf r = 30 ∨ opOf r = 31 := by
  unfold opOf
  repeat (first | (split; (first | exact .inl rfl | exact .inr (.inl rfl) | exact .inr (.inr (.inl rfl)) | exact .inr (.inr (.inr (.inl rfl))) | exact .inr (.inr (.inr (.inr (.inl rfl)))) | exact .inr (.inr (.inr (.inr (.inr rfl)))))) | exact .inr (.inr (.inr (.inr (.inr rfl)))))
theorem ins_ok (o d a b t : Int) (ho : o = 3 ∨ o = 18 ∨ o = 24 ∨ o = 26 ∨ o = 30 ∨ o = 31) (hd : 4 ≤ d ∧ d ≤ 8) (ha : 4 ≤ a ∧ a ≤ 8) (hb : 4 ≤ b ∧ b ≤ 8) (ht : 0 ≤ t ∧ t ≤ 6) : insE { op := o, d := d, e := 0, a := a, b := b, c := 0, imm := t, args := [] } 16 20 = 0 := by
  have b1 : decide (d < 0) = false := by simp; omega
  have b2 : decide (16 ≤ d) = false := by simp; omega
  have b3 : decide (a < 0) = false := by simp; omega
  have b4 : decide (16 ≤ a) = false := by simp; omega
  have b5 : decide (b < 0) = false := by simp; omega
  have b6 : decide (16 ≤ b) = false := by simp; omega
  have b7 : decide (t < 0) = false := by simp; omega
  have b8 : decide (20 ≤ t) = false := by simp; omega
  have c1 : decide (-32768 ≤ t) = true := by simp; omega
  have c2 : decide (t ≤ 32767) = true := by simp; omega
  have c3 : decide (-128 ≤ t) = true := by simp; omega
  have c4 : decide (t ≤ 127) = true := by simp; omega
  have c5 : decide (0 ≤ t) = true := by simp; omega
  have c6 : decide (t ≤ 255) = true := by simp; omega
  rcases ho with rfl | rfl | rfl | rfl | rfl | rfl <;> simp [insE, shapeB, badReg, regsOf, takes, makes, takes7, makes7, stackB, immB] <;> omega
theorem some_ok (s : List Int) (k : Nat) (hk : k ≤ 6) : ∀ m ∈ someL s k, insE m 16 20 = 0 := fun m hm => by
  unfold someL at hm
  obtain ⟨t, ht, rfl⟩ := List.mem_map.1 hm
  have ht2 := List.mem_range.1 ht
  have h1 := restI_bd (s.getD (3 * t) 0) 5 (by decide)
  have h2 := restI_bd (s.getD (3 * t + 1) 0) 5 (by decide)
  have h3 := restI_bd (s.getD (3 * t + 2) 0) 5 (by decide)
  exact ins_ok _ _ _ _ _ (op_cases _) (by omega) (by omega) (by omega) (by omega)
theorem some_fine (s : List Int) (k : Nat) (hk : k ≤ 6) : ∀ m ∈ someL s k, Fine m ∧ m.args = [] := fun m hm => by
  unfold someL at hm
  obtain ⟨t, ht, rfl⟩ := List.mem_map.1 hm
  have ht2 := List.mem_range.1 ht
  exact ⟨⟨by show (-2147483648 : Int) ≤ (t : Int); omega, by show (t : Int) ≤ 2147483647; omega, by show 0 ≤ 1000; decide⟩, rfl⟩
theorem someL_take (s : List Int) (k j : Nat) : (someL s k).take j = someL s (min j k) := by
  unfold someL
  rw [← List.map_take, List.take_range]
theorem pl_ok {w : World} {L : List Mach} (h : ∀ m ∈ L, Fine m ∧ m.args = []) : ∀ x ∈ pl L, PlOk w x := fun x hx => by
  obtain ⟨m, j, hm, rfl⟩ := pl_mem hx
  refine ⟨?_, (h m hm).1, fun q hq => by cases hq⟩
  show Ints w nilv m.args
  rw [(h m hm).2]
  exact .nil _ _
theorem machs_take {w : World} {a : Option Addr} {n cap : Nat} {ms : List (Mach × Value)} (h : Machs w (.slice a n cap) ms) (j : Nat) (hj : j ≤ n) : Machs w (.slice a j cap) (ms.take j) := by
  rcases h with ⟨b, h1, h2⟩ | ⟨b, off, cap', h1, h2, h3⟩
  · cases h1
    obtain rfl : j = 0 := by omega
    exact .inl ⟨_, rfl, by simp⟩
  · cases h1
    refine .inr ⟨b, off, cap, by rw [List.length_take, Nat.min_eq_left hj], h2, fun i x hx => h3 i x ?_⟩
    rw [List.getElem?_take] at hx
    split at hx
    · exact hx
    · cases hx

theorem gones_zero (n : Nat) : gonesL n 0 = List.replicate n false := by
  unfold gonesL
  apply List.ext_getElem?
  intro t
  by_cases h : t < n <;> simp [h]
def InsSt (w : World) (L : List Mach) (k : Nat) (v : Value) (wr : World) : Prop := PRow w.heap.size wr v ((pl L).take k) ∧ Since w wr

set_option maxHeartbeats 8000000 in
set_option maxRecDepth 100000 in
theorem walk_ordall (sv : Value) (s : List Int) (w : World) (h : Ints w sv s) : Calls Try.prog 9 #[sv] w (TellsS true w) := by
  obtain ⟨sa, sc, rfl⟩ := nums_lenI h
  obtain ⟨sn, hsn⟩ : ∃ n, s.length = n := ⟨_, rfl⟩
  have hpi : (Try.prog.info? 58).map (fun i => (i.zero, i.size, i.bytes)) = some (some PZ, 9, 88) := by kernel_rfl
  have hinf : (Try.prog.info? 4).map (fun i => (i.zero, i.size, i.bytes)) = some (some (.bool false), 1, 1) := by kernel_rfl
  obtain ⟨ti, hti, hz0, hz1, hz2⟩ := info_parts hinf
  have TI := Lib.hid (And.intro hti (And.intro hz0 (And.intro hz1 hz2)))
  have HPI := Lib.hid hpi
  have H := Lib.hid h
  have HSN := Lib.hid hsn
  rw [hsn]
  clear h hsn hpi hinf hti hz0 hz1 hz2
  go_enter Try.func9, Try.ntmps9
  go_wp2_with fail
  refine (awake_any _).mono ?_
  rintro e w1 ⟨rfl, hs1⟩
  have HS1 := Lib.hid hs1
  clear hs1
  go_wp2_with fail
  refine (some_any (.slice sa sn sc) s w1 (by have h := H.out.keep HS1.out; rw [HSN.out] at h; exact h)).mono ?_
  rintro e w2 ⟨v2, k6, rfl, hk6, hown2, hs2⟩
  have hM2 := machs_of_own hown2 (fun x hx => by
    obtain ⟨m, hm, rfl⟩ := List.mem_map.1 hx
    have h1 := some_fine s k6 hk6 m hm
    exact ⟨by show Ints w2 nilv m.args; rw [h1.2]; exact .nil _ _, h1.1⟩)
  obtain ⟨ma, mc, hv2⟩ := hown2.shape
  rw [show (nl (someL s k6)).length = k6 from by simp [nl, someL_len]] at hv2
  subst hv2
  have hcap : k6 ≤ mc ∧ mc ≤ 9223372036854775807 := by
    rcases OwnRow.cells mcells_len hown2 with ⟨h1, h2⟩ | ⟨g, cap, h1, h2, h3, _⟩
    · injection h1 with _ h3 h4
      omega
    · injection h1 with _ h4 h5
      rw [show (nl (someL s k6)).length = k6 from by simp [nl, someL_len]] at h2
      unfold maxLen at h3
      omega
  obtain ⟨hcap1, hcap2⟩ := hcap
  have HS2 := Lib.hid (HS1.out.trans hs2)
  clear hown2 hs2
  rcases (by omega : k6 ≤ 5 ∨ k6 = 6) with h6 | rfl
  · have HML := Lib.hid hM2
    clear hM2
    go_wp2_with fail
    have hlim : k6 ≤ 5 := by omega
    obtain ⟨L, hL⟩ : ∃ L, L = someL s k6 := ⟨_, rfl⟩
    have hLlen : L.length = k6 := by rw [hL, someL_len]
    have hLok : ∀ m ∈ L, insE m 16 20 = 0 := by rw [hL]; exact some_ok s k6 (by omega)
    have hLf : ∀ m ∈ L, Fine m ∧ m.args = [] := by rw [hL]; exact some_fine s k6 (by omega)
    rw [← hL] at HML
    have HLL := Lib.hid hLlen
    have HLO := Lib.hid hLok
    have HLF := Lib.hid hLf
    clear hL hLlen hLok hLf
    go_loopw [5, 6] (fun v i wr => ∃ k : Nat, k ≤ k6 ∧ i = .int .i64 k ∧ InsSt w2 L k v wr) (fun _ i _ => k6 - (intOf i).toNat)
    case atStart => exact ⟨0, Nat.zero_le _, rfl, by rw [List.take_zero]; exact OwnRow.nil _ _ _ _ _, Since.refl _⟩
    case round =>
      obtain ⟨k, hk, rfl, hown, hsr⟩ := hrel
      have hown : PRow w2.heap.size wr _ ((pl L).take k) := hown
      obtain ⟨va, vc, hv⟩ := hown.shape
      have htl : ((pl L).take k).length = k := by rw [List.length_take, pl_len, HLL.out]; omega
      rw [htl] at hv
      subst hv
      have HOWN := Lib.hid hown
      have HSR := Lib.hid hsr
      have HTL := Lib.hid htl
      clear hown hsr htl
      by_cases hlt : k < k6
      · obtain ⟨m, hm⟩ : ∃ m, L[k]? = some m := ⟨_, List.getElem?_eq_getElem (by rw [HLL.out]; exact hlt)⟩
        have hma := (HLF.out m (List.mem_of_getElem? hm)).2
        obtain ⟨B, off, hBa, hB, hat⟩ : ∃ B off, ma = some ⟨B, off, none⟩ ∧ B < w2.heap.size ∧ MachAt w2 B (off + k * 8) m nilv := by
          rcases HML.out with ⟨b, h1, h2⟩ | ⟨b, off, cap', h1, h2, h3⟩
          · have h4 := HLL.out
            have h5 : (nl L).length = 0 := by rw [h2]; rfl
            rw [nl, List.length_map] at h5
            omega
          · injection h1 with h1 _ _
            exact ⟨b, off, h1, h2, h3 k (m, nilv) (by unfold nl; rw [List.getElem?_map, hm]; rfl)⟩
        subst hBa
        have hat2 := hat.keep hB HSR.out
        have hbw : B < wr.heap.size := Nat.lt_of_lt_of_le hB HSR.out.size
        have hst : (pl L).take (k + 1) = (pl L).take k ++ [plN (m, k)] := by
          rw [List.take_add_one, pl_at, hm]; rfl
        have HST := Lib.hid hst
        have HMA := Lib.hid hma
        obtain ⟨c0, c1, c2, c3, c4, c5, c6, c7, _, _⟩ := hat2
        obtain ⟨mo, md, me, mA, mB, mC, mi, mr⟩ := m
        clear hat hst hma hB hm
        go_wp2_with (at_builtin; refine wpList_append_one (w0 := w2) plcells 9 plcells_len (by decide) rfl _ _ 54 rfl 58 PZ 88 Try.underlying54 HPI.out rfl (.slice va k vc) ((pl L).take k) (plN ({ op := mo, d := md, e := me, a := mA, b := mB, c := mC, imm := mi, args := mr }, k)) wr.heap.size 1 58 rfl rfl (OwnRow.keep HOWN.out ((Since.refl _).alloc _)) (heap_last _ _) (by intro u hu; simp only [plcells, plN, List.mem_cons, List.not_mem_nil, or_false] at hu; rcases hu with rfl | rfl | rfl | rfl | rfl | rfl | rfl | rfl | rfl <;> rfl) (by rw [HTL.out]; unfold maxLen; omega) (by rw [HTL.out]; omega) (HSR.out.alloc _) ?_; intro v' w' hown' hs')
        have HO2 := Lib.hid hown'
        have HS' := Lib.hid hs'
        clear hown' hs'
        go_roundw
        case rel => exact ⟨k + 1, by omega, by go_num, by rw [HST.out]; exact HO2.out, HS'.out⟩
        case measure => simp [intOf]; omega
      · obtain rfl : k6 = k := by omega
        have hlt2 : (pl L).take k6 = pl L := List.take_of_length_le (by rw [pl_len, HLL.out]; omega)
        have hreads : Pls wr (.slice va k6 vc) (pl L) := by
          have h := HOWN.out
          rw [hlt2] at h
          exact own_reads h (pl_ok HLF.out)
        have HRD := Lib.hid hreads
        clear hlt2 hreads
        go_wp2_with (refine wpList_make_full _ rfl (.tmp 33) (.tmp 33) 79 rfl _ 4 ti (.bool false) 1 Try.underlying79 TI.out.1 TI.out.2.1 TI.out.2.2.1 .i64 .i64 _ _ k6 rfl rfl rfl rfl (by rw [TI.out.2.2.2]; omega) (by unfold maxLen; omega) (Nat.le_refl _) ?_; intro w3 hown hgrow; have hmb := mbools hown hgrow; have HMB := Lib.hid hmb; clear hown hgrow hmb)
        have hga : GoneAt w3 wr.heap.size k6 0 := by unfold GoneAt; rw [gones_zero]; exact HMB.out.2
        have hty : Calls Try.prog 36 #[.slice va k6 vc, .slice none 0 0, .slice (some ⟨wr.heap.size, 0, none⟩) k6 k6] w3 (NumI (ordersI (depAt (nl L)) k6) w3) := by
          have hlen : (pl L).length = k6 := by rw [pl_len]; exact HLL.out
          have h := try_any (pl L) (.slice va k6 vc) (pl_numbered L) (fun x hx => by obtain ⟨m, j, hm, rfl⟩ := pl_mem hx; exact HLO.out m hm) (fun x hx => by obtain ⟨m, j, hm, rfl⟩ := pl_mem hx; rfl) wr HRD.out (by omega) wr.heap.size (Nat.le_refl _) (k6 + 1) [] (.slice none 0 0) w3 (by rw [hlen]; have := unset_le k6 0; simp only [List.map_nil, bitsOf]; omega) List.nodup_nil HMB.out.1 (.inl ⟨_, rfl, rfl⟩) (fun q hq => by cases hq) (by rw [hlen]; exact hga)
          simp only [List.map_nil, okGo, bitsOf, if_true, depL_pl, hlen] at h
          exact h
        have hor := fun w4 (hs : Since w3 w4) => orders_any (.slice ma k6 mc) (nl L) w4 (HML.out.keep ((HSR.out.trans HMB.out.1).trans hs)) (by unfold nl; rw [List.length_map, HLL.out]; omega)
        rw [show (nl L).length = k6 from by unfold nl; rw [List.length_map]; exact HLL.out] at hor
        obtain ⟨y, hy⟩ : ∃ y, ordersI (depAt (nl L)) k6 = y := ⟨_, rfl⟩
        rw [hy] at hty hor
        have HTY := Lib.hid hty
        have HOR := Lib.hid hor
        have hyy : (y == y) = true := beq_self_eq_true y
        clear hy hty hor hga
        go_wp2_with fail
        refine HTY.out.mono ?_
        rintro e w4 ⟨rfl, hs4⟩
        have HS4 := Lib.hid hs4
        clear hs4
        go_wp2_with fail
        refine (HOR.out _ HS4.out).mono ?_
        rintro e w5 ⟨rfl, hs5⟩
        go_wp2
        go_ret
        exact ⟨rfl, (((HS2.out.trans HSR.out).trans HMB.out.1).trans HS4.out).trans hs5⟩
  · have HML := Lib.hid (show Machs w2 (.slice ma 5 mc) (nl (someL s 5)) from by
      have h := machs_take hM2 5 (by decide)
      rw [show (nl (someL s 6)).take 5 = nl (someL s 5) from by unfold nl; rw [← List.map_take, someL_take]; rfl] at h
      exact h)
    clear hM2
    go_wp2_with fail
    have hlim : 5 ≤ 5 := by omega
    obtain ⟨L, hL⟩ : ∃ L, L = someL s 5 := ⟨_, rfl⟩
    have hLlen : L.length = 5 := by rw [hL, someL_len]
    have hLok : ∀ m ∈ L, insE m 16 20 = 0 := by rw [hL]; exact some_ok s 5 (by omega)
    have hLf : ∀ m ∈ L, Fine m ∧ m.args = [] := by rw [hL]; exact some_fine s 5 (by omega)
    rw [← hL] at HML
    have HLL := Lib.hid hLlen
    have HLO := Lib.hid hLok
    have HLF := Lib.hid hLf
    clear hL hLlen hLok hLf
    go_loopw [5, 6] (fun v i wr => ∃ k : Nat, k ≤ 5 ∧ i = .int .i64 k ∧ InsSt w2 L k v wr) (fun _ i _ => 5 - (intOf i).toNat)
    case atStart => exact ⟨0, Nat.zero_le _, rfl, by rw [List.take_zero]; exact OwnRow.nil _ _ _ _ _, Since.refl _⟩
    case round =>
      obtain ⟨k, hk, rfl, hown, hsr⟩ := hrel
      have hown : PRow w2.heap.size wr _ ((pl L).take k) := hown
      obtain ⟨va, vc, hv⟩ := hown.shape
      have htl : ((pl L).take k).length = k := by rw [List.length_take, pl_len, HLL.out]; omega
      rw [htl] at hv
      subst hv
      have HOWN := Lib.hid hown
      have HSR := Lib.hid hsr
      have HTL := Lib.hid htl
      clear hown hsr htl
      by_cases hlt : k < 5
      · obtain ⟨m, hm⟩ : ∃ m, L[k]? = some m := ⟨_, List.getElem?_eq_getElem (by rw [HLL.out]; exact hlt)⟩
        have hma := (HLF.out m (List.mem_of_getElem? hm)).2
        obtain ⟨B, off, hBa, hB, hat⟩ : ∃ B off, ma = some ⟨B, off, none⟩ ∧ B < w2.heap.size ∧ MachAt w2 B (off + k * 8) m nilv := by
          rcases HML.out with ⟨b, h1, h2⟩ | ⟨b, off, cap', h1, h2, h3⟩
          · have h4 := HLL.out
            have h5 : (nl L).length = 0 := by rw [h2]; rfl
            rw [nl, List.length_map] at h5
            omega
          · injection h1 with h1 _ _
            exact ⟨b, off, h1, h2, h3 k (m, nilv) (by unfold nl; rw [List.getElem?_map, hm]; rfl)⟩
        subst hBa
        have hat2 := hat.keep hB HSR.out
        have hbw : B < wr.heap.size := Nat.lt_of_lt_of_le hB HSR.out.size
        have hst : (pl L).take (k + 1) = (pl L).take k ++ [plN (m, k)] := by
          rw [List.take_add_one, pl_at, hm]; rfl
        have HST := Lib.hid hst
        have HMA := Lib.hid hma
        obtain ⟨c0, c1, c2, c3, c4, c5, c6, c7, _, _⟩ := hat2
        obtain ⟨mo, md, me, mA, mB, mC, mi, mr⟩ := m
        clear hat hst hma hB hm
        go_wp2_with (at_builtin; refine wpList_append_one (w0 := w2) plcells 9 plcells_len (by decide) rfl _ _ 54 rfl 58 PZ 88 Try.underlying54 HPI.out rfl (.slice va k vc) ((pl L).take k) (plN ({ op := mo, d := md, e := me, a := mA, b := mB, c := mC, imm := mi, args := mr }, k)) wr.heap.size 1 58 rfl rfl (OwnRow.keep HOWN.out ((Since.refl _).alloc _)) (heap_last _ _) (by intro u hu; simp only [plcells, plN, List.mem_cons, List.not_mem_nil, or_false] at hu; rcases hu with rfl | rfl | rfl | rfl | rfl | rfl | rfl | rfl | rfl <;> rfl) (by rw [HTL.out]; unfold maxLen; omega) (by rw [HTL.out]; omega) (HSR.out.alloc _) ?_; intro v' w' hown' hs')
        have HO2 := Lib.hid hown'
        have HS' := Lib.hid hs'
        clear hown' hs'
        go_roundw
        case rel => exact ⟨k + 1, by omega, by go_num, by rw [HST.out]; exact HO2.out, HS'.out⟩
        case measure => simp [intOf]; omega
      · obtain rfl : k = 5 := by omega
        have hlt2 : (pl L).take 5 = pl L := List.take_of_length_le (by rw [pl_len, HLL.out]; omega)
        have hreads : Pls wr (.slice va 5 vc) (pl L) := by
          have h := HOWN.out
          rw [hlt2] at h
          exact own_reads h (pl_ok HLF.out)
        have HRD := Lib.hid hreads
        clear hlt2 hreads
        go_wp2_with (refine wpList_make_full _ rfl (.tmp 33) (.tmp 33) 79 rfl _ 4 ti (.bool false) 1 Try.underlying79 TI.out.1 TI.out.2.1 TI.out.2.2.1 .i64 .i64 _ _ 5 rfl rfl rfl rfl (by rw [TI.out.2.2.2]; omega) (by unfold maxLen; omega) (Nat.le_refl _) ?_; intro w3 hown hgrow; have hmb := mbools hown hgrow; have HMB := Lib.hid hmb; clear hown hgrow hmb)
        have hga : GoneAt w3 wr.heap.size 5 0 := by unfold GoneAt; rw [gones_zero]; exact HMB.out.2
        have hty : Calls Try.prog 36 #[.slice va 5 vc, .slice none 0 0, .slice (some ⟨wr.heap.size, 0, none⟩) 5 5] w3 (NumI (ordersI (depAt (nl L)) 5) w3) := by
          have hlen : (pl L).length = 5 := by rw [pl_len]; exact HLL.out
          have h := try_any (pl L) (.slice va 5 vc) (pl_numbered L) (fun x hx => by obtain ⟨m, j, hm, rfl⟩ := pl_mem hx; exact HLO.out m hm) (fun x hx => by obtain ⟨m, j, hm, rfl⟩ := pl_mem hx; rfl) wr HRD.out (by omega) wr.heap.size (Nat.le_refl _) (5 + 1) [] (.slice none 0 0) w3 (by rw [hlen]; have := unset_le 5 0; simp only [List.map_nil, bitsOf]; omega) List.nodup_nil HMB.out.1 (.inl ⟨_, rfl, rfl⟩) (fun q hq => by cases hq) (by rw [hlen]; exact hga)
          simp only [List.map_nil, okGo, bitsOf, if_true, depL_pl, hlen] at h
          exact h
        have hor := fun w4 (hs : Since w3 w4) => orders_any (.slice ma 5 mc) (nl L) w4 (HML.out.keep ((HSR.out.trans HMB.out.1).trans hs)) (by unfold nl; rw [List.length_map, HLL.out]; omega)
        rw [show (nl L).length = 5 from by unfold nl; rw [List.length_map]; exact HLL.out] at hor
        obtain ⟨y, hy⟩ : ∃ y, ordersI (depAt (nl L)) 5 = y := ⟨_, rfl⟩
        rw [hy] at hty hor
        have HTY := Lib.hid hty
        have HOR := Lib.hid hor
        have hyy : (y == y) = true := beq_self_eq_true y
        clear hy hty hor hga
        go_wp2_with fail
        refine HTY.out.mono ?_
        rintro e w4 ⟨rfl, hs4⟩
        have HS4 := Lib.hid hs4
        clear hs4
        go_wp2_with fail
        refine (HOR.out _ HS4.out).mono ?_
        rintro e w5 ⟨rfl, hs5⟩
        go_wp2
        go_ret
        exact ⟨rfl, (((HS2.out.trans HSR.out).trans HMB.out.1).trans HS4.out).trans hs5⟩


set_option maxRecDepth 100000 in
theorem law_ordall {H : Type} {enc : TypeId × Value → H} {W : World} {base : Nat} {held : Bool} {r : Reach} {b0 : Nat} {d : DataW H} {p : List MemPlace} (v0 : Value)
    (k0 : Value.okWide Try.prog W r b0 25 v0) (h0 : DataW.Trod enc Try.prog W base (fun _ => true) held 25 v0 d p) : Calls Try.prog 9 #[v0] W (TellsS true W) := by
  obtain ⟨l, hl, _⟩ := ints_open k0 h0
  exact walk_ordall v0 l W hl
end Go.Proofs.Ytkpbmbhejpmboaa
