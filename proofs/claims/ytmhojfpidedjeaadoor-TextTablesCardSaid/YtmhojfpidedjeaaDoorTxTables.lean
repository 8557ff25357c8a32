/- jacquardlaw25.TextTables tells of any table and any numbers that it is true. -/
import Derived.Test.YtmhojfpidedjeaaDoorTxTable
namespace Go.Proofs.YtmhojfpidedjeaaDoor
open Go.RowKit
set_option linter.unusedVariables false
/-- Two tables in a box; the second one under way. -/
structure TwoT (wa : World) (qx : Nat) (v0 v1 : Value) (l1 : List DTile) (w : World) : Prop where
  low : wa.heap.size ≤ qx
  since : Since wa w
  box : HeapIs w qx #[v0, v1] 35
  own : OwnRow dtcells 2 37 wa.heap.size w v1 l1
section
variable {wa w w' : World} {qx : Nat} {v0 v1 v' : Value} {l1 : List DTile}
theorem TwoT.keep (h : TwoT wa qx v0 v1 l1 w) (s : Since w w') : TwoT wa qx v0 v1 l1 w' := ⟨h.low, h.since.trans s, h.box.keep s, OwnRow.keep h.own s⟩
theorem TwoT.add (h : TwoT wa qx v0 v1 l1 w) {x : DTile} (ho : OwnRow dtcells 2 37 wa.heap.size w' v' (l1 ++ [x])) (t : Turn (fun q => v1.ownBlock = some q) w w') : TwoT wa qx v0 v' (l1 ++ [x]) (w'.setCell ⟨qx, 1, none⟩ v') := by
  have b1 : HeapIs w' qx _ _ := h.box.turn t (own_not h.own h.box (by decide))
  have t2 : Turn (fun r => r = qx) w' (w'.setCell ⟨qx, 1, none⟩ v') := (Turn.refl _ _).setCell (by rfl) _
  have hl := h.low
  refine ⟨hl, ?_, b1.set 1 v', own_turn ho t2 (fun q hq e => own_not ho b1 (by decide) (e ▸ hq))⟩
  exact t2.toSince (t.toSince h.since fun q hq e => by have := (World.ownsRow.lt h.own q e).1; omega) fun q hq e => by omega
end
theorem tok_add {l : List DTile} {x : DTile} (h : ∀ t ∈ l, TileOk t) (hx : TileOk x) : ∀ t ∈ l ++ [x], TileOk t := fun t ht => by
  rcases List.mem_append.1 ht with h1 | h1
  · exact h t h1
  · rw [List.mem_singleton.1 h1]; exact hx
theorem app_list (y L : ByteArray) (l : Bs) (h : L.data.toList = l) : (y ++ L).data.toList = y.data.toList ++ l := by
  rw [ByteArray.data_append, Array.toList_append, h]
def StrIs (l : Bs) (v : Value) (_ : World) : Prop := ∃ z : ByteArray, v = .string z ∧ z.data.toList = l
theorem StrIs.stable (l : Bs) : Stable (StrIs l) := fun v w w' h s => h
theorem tok_rng {t : DTile} (h : TileOk t) : In64 t.pat ∧ In64 t.cost := ⟨⟨by have := h.1; omega, by have := h.1; omega⟩, in64_32 h.2⟩
theorem patB_small {p : Int} (h : 1 ≤ p ∧ p ≤ 37) : (patB p).data.toList.length ≤ 10 := by
  have h1 := pats_le (p - 1).toNat (by omega)
  rw [tabB_at h]; omega
theorem tiles_next {lk : List DTile} {j : Nat} {t : DTile} (h : lk[j]? = some t) (ht : TileOk t) : tilesS (lk.take j) ++ [116, 105, 108, 101, 32] ++ (patB t.pat).data.toList ++ [32] ++ Lib.itoa t.cost ++ [10] = tilesS (lk.take (j + 1)) := by
  have e : tilesS (lk.take (j + 1)) = tilesS (lk.take j) ++ tileS t := by
    unfold tilesS
    rw [List.take_add_one, h, List.flatMap_append]
    simp
  rw [e]
  unfold tileS patS dS
  rw [if_neg (by have := ht.1; omega)]
  simp
theorem rng37 (p : Int) : -37 ≤ p.tmod 37 ∧ p.tmod 37 ≤ 37 := by
  rcases Int.lt_or_le p 0 with h | h
  · have h1 := Int.tmod_nonneg 37 (show 0 ≤ -p by omega)
    have h2 := Int.tmod_lt_of_pos (-p) (show (0 : Int) < 37 by decide)
    rw [Int.neg_tmod] at h1 h2
    omega
  · have h1 := Int.tmod_nonneg 37 h
    have h2 := Int.tmod_lt_of_pos p (show (0 : Int) < 37 by decide)
    omega
theorem i32_left (n : Int) : IntKind.i32.wrap n = RowKit.wrap32 n := by rw [IntKind.wrap_i32]; unfold RowKit.wrap32; omega
theorem in32_w (n : Int) : In32W (RowKit.wrap32 n) := by unfold In32W RowKit.wrap32; omega
set_option maxHeartbeats 16000000 in
set_option maxRecDepth 100000 in
theorem walk_tables (lv nv : Value) (l : List DTile) (ns : List Int) (w : World) (hl : TilesIn w lv l) (hn : Ints w nv ns) (hL : LaidT w) : Calls Tryd.prog 4 #[lv, nv] w fun e w' => e = .returned (.bool true) ∧ Since w w' := by
  obtain ⟨la, lc, el, hlc, hlm⟩ : ∃ a c, lv = .slice a l.length c ∧ l.length ≤ c ∧ c ≤ maxLen := by
    rcases hl with ⟨a, h1, h2⟩ | ⟨b, off, cap, h1, h2, h3, _⟩
    · subst h2; exact ⟨a, 0, h1, Nat.le_refl _, Nat.zero_le _⟩
    · exact ⟨_, cap, h1, h2, h3⟩
  obtain ⟨na, nc, en, hnc, hnm⟩ : ∃ a c, nv = .slice a ns.length c ∧ ns.length ≤ c ∧ c ≤ maxLen := by
    rcases hn with ⟨a, h1, h2⟩ | ⟨b, off, cap, h1, h2, h3, _⟩
    · subst h2; exact ⟨a, 0, h1, Nat.le_refl _, Nat.zero_le _⟩
    · exact ⟨_, cap, h1, h2, h3⟩
  obtain ⟨ln, hln⟩ : ∃ n, l.length = n := ⟨_, rfl⟩
  obtain ⟨nn, hnn⟩ : ∃ n, ns.length = n := ⟨_, rfl⟩
  rw [hln] at el hlc
  rw [hnn] at en hnc
  subst el en
  unfold maxLen at hlm hnm
  obtain ⟨m, hm, hm6⟩ : ∃ m, min nn 60 = m ∧ m ≤ nn ∧ m ≤ 60 := ⟨_, rfl, by omega, by omega⟩
  have hmi : min (nn : Int) 60 = m := by omega
  have hmc : m ≤ nc := by omega
  have HTL0 := Lib.hid hl
  have HNS := Lib.hid (show ∀ W, Since w W → Ints W (.slice na m nc) (ns.take m) from fun W s => Nums.cutTo (hn.keep s) hm6.1)
  have HL0 := Lib.hid hL
  have HLN := Lib.hid hln
  clear hl hn hL hln hnn hm
  go_enter Tryd.func4, Tryd.ntmps4
  go_wp2_with fail
  refine (shown25_any w HL0.out).mono ?_
  rintro e w1 ⟨rfl, hs1⟩
  have HS1 := Lib.hid hs1
  clear hs1
  go_wp2_with fail
  refine (table_any (.slice na m nc) (ns.take m) w1 (HNS.out w1 HS1.out)).mono ?_
  rintro e w2 ⟨v0, l0, rfl, ho0, hl0, hok0, hs2⟩
  obtain ⟨a0, c0, e0⟩ := OwnRow.shape ho0
  obtain ⟨n0, hn0⟩ : ∃ n, l0.length = n := ⟨_, rfl⟩
  rw [hn0] at e0 hl0
  subst e0
  have HO0 := Lib.hid (show TilesIn w2 (.slice a0 n0 c0) l0 from row_of_own (f := dtcells) (fun _ => rfl) ho0 fun x hx => (by have := hok0 x hx; unfold TabOk at this; exact ⟨⟨by omega, by omega⟩, by omega, by omega⟩))
  have HK0 := Lib.hid (show ∀ t ∈ l0, TileOk t from fun x hx => (by have := hok0 x hx; unfold TabOk at this; exact ⟨this.1, by omega, by omega⟩))
  have HN0 := Lib.hid hn0
  have HS2 := Lib.hid (HS1.out.trans hs2)
  clear ho0 hok0 hs2 hn0
  go_upto_region 3 with fail
  obtain ⟨qx, hqx⟩ : ∃ q, w2.heap.size + 1 = q := ⟨_, rfl⟩
  obtain ⟨q2, hq2⟩ : ∃ q, w2.heap.size = q := ⟨_, rfl⟩
  obtain ⟨w3, hw3⟩ : ∃ z, (w2.alloc (.cells #[] 37)).alloc (.cells #[.slice a0 n0 c0, .slice (some ⟨w2.heap.size, 0, none⟩) 0 0] 35) = z := ⟨_, rfl⟩
  have HX3 := Lib.hid (show TwoT w2 qx (.slice a0 n0 c0) (.slice (some ⟨w2.heap.size, 0, none⟩) 0 0) [] w3 from by
    have hb : HeapIs w3 qx #[.slice a0 n0 c0, .slice (some ⟨w2.heap.size, 0, none⟩) 0 0] 35 := by rw [← hw3, ← hqx]; exact heap_two w2 _ _ _
    refine ⟨by omega, by rw [← hw3]; exact ((Since.refl w2).alloc _).alloc _, hb, ?_⟩
    rw [← hw3]
    exact OwnRow.keep (own_new dtcells 2 37 w2 [] 0 (fun _ => rfl) rfl (by decide) #[] rfl) ((Since.refl _).alloc _))
  rw [hw3]
  try rw [hqx]
  rw [hq2] at HX3
  try rw [hq2]
  clear hqx hq2 hw3
  go_wp2_with fail
  go_loopw [7] (fun io wr => ∃ (i : Nat) (v : Value) (tl : List DTile), io = .int .i64 i ∧ i ≤ ln ∧ i ≤ 20 ∧ tl.length = i ∧ (∀ t ∈ tl, TileOk t) ∧ TwoT w2 qx (.slice a0 n0 c0) v tl wr) (fun io _ => ln - (intOf io).toNat)
  case atStart => exact ⟨0, _, [], rfl, Nat.zero_le _, by decide, rfl, fun t ht => (by cases ht), HX3.out⟩
  case round =>
    obtain ⟨i, v, tl, rfl, hi, hi2, htl, hok, hx⟩ := hrel
    obtain ⟨oa, oc, eo⟩ := OwnRow.shape hx.own
    rw [htl] at eo
    subst eo
    have HX := Lib.hid hx
    have HTL := Lib.hid htl
    have HOK := Lib.hid hok
    clear hx htl hok
    by_cases hlt : i < ln
    · by_cases h20 : i < 20
      · obtain ⟨b, off, y, e1, hb, hy, hc, hyr⟩ := RowIn.at (RowIn.keep (fun _ _ _ h _ => h) HTL0.out (HS2.out.trans HX.out.since)) (HLN.out ▸ hlt)
        cases e1
        obtain ⟨p, ct⟩ := y
        obtain ⟨r1, hr1⟩ : ∃ r, p.tmod 37 = r := ⟨_, rfl⟩
        have hr1b : -37 ≤ r1 ∧ r1 ≤ 37 := by rw [← hr1]; exact rng37 p
        obtain ⟨r3, hr3⟩ : ∃ r, (r1 + 37).tmod 37 = r := ⟨_, rfl⟩
        have hr3' : (r1 + 37) % 37 = r3 := by rw [← hr3, Int.tmod_eq_emod_of_nonneg (by omega)]
        have hr3b : 0 ≤ r3 ∧ r3 ≤ 36 := by omega
        obtain ⟨c32, hc32⟩ : ∃ c, IntKind.i32.wrap ct = c := ⟨_, rfl⟩
        have hc32' : RowKit.wrap32 ct = c32 := by rw [← hc32]; exact (i32_left ct).symm
        have HC32 := Lib.hid (show In32W c32 from by rw [← hc32']; exact in32_w ct)
        have hcb : -2147483648 ≤ c32 ∧ c32 ≤ 2147483647 := HC32.out
        have HOKX := Lib.hid (show TileOk ⟨1 + r3, c32⟩ from ⟨⟨by show 1 ≤ 1 + r3; omega, by show 1 + r3 ≤ 37; omega⟩, HC32.out⟩)
        have HBL := Lib.hid hb
        have HC0 := Lib.hid (show wr.cell? ⟨b, off + i * 2, none⟩ = some (.int .i64 p) from hc 0 (by decide))
        have HC1 := Lib.hid (show wr.cell? ⟨b, off + i * 2 + 1, none⟩ = some (.int .i64 ct) from hc 1 (by decide))
        clear hb hy hc hyr
        go_upto_region 6 with fail
        try rw [show decide ((i : Int) < 20) = true from decide_eq_true (by omega)]
        refine wp_region_since_tail 20 rfl (by decide +kernel) (by decide +kernel) (by decide +kernel) (by decide)
          [Is (.pointer (some ⟨qx, 1, none⟩)), Is (.slice oa i oc), Is (.slice (some ⟨b, off, none⟩) ln lc), Is (.int .i64 i), Is (.pointer (some ⟨b, off + i * 2, none⟩)), Is (.pointer (some ⟨b, off + i * 2, none⟩)), Is (.int .i64 p), Is (.int .i64 r1), Is (.int .i64 (r1 + 37)), Is (.int .i64 r3), Is (.int .i64 (1 + r3)), Is (.slice (some ⟨b, off, none⟩) ln lc), Is (.int .i64 i), Is (.pointer (some ⟨b, off + i * 2, none⟩)), Is (.pointer (some ⟨b, off + i * 2 + 1, none⟩)), Is (.int .i64 ct), Is (.int .i32 c32), Is (.int .i64 c32), Is (.agg #[.int .i64 (1 + r3), .int .i64 c32]), NewRow #[.int .i64 (1 + r3), .int .i64 c32] 37 1]
          (by repeat (first | exact trivial | refine ⟨Is.stable _, ?_⟩ | refine ⟨IsNums.stable _ _, ?_⟩ | refine ⟨IsRows.stable _ _, ?_⟩ | refine ⟨NewRow.stable _ _ _, ?_⟩)) ⟨?_, ?_, ?_, ?_, ?_, ?_, ?_, ?_, ?_, ?_, ?_, ?_, ?_, ?_, ?_, ?_, ?_, ?_, ?_, ?_, trivial⟩ ?_
        all_goals
          intro vs w7 hs hk
          try intro _
          simp only [List.take, List.drop, putAll, Act.put, Knows, KnowsAll, nthF, Is, List.setIfInBounds_toArray, List.set_cons_zero, List.set_cons_succ, Nat.reduceAdd] at hk ⊢
          try simp only [hk]
        · go_wp2
          exact ⟨_, rfl, rfl, Since.refl _⟩
        · have hb := HX.out.box.keep hs
          have z9 := hb.cell 1
          have z8 := hb.lt
          clear hb
          go_wp2
          exact ⟨_, rfl, rfl, Since.refl _⟩
        · go_wp2
          exact ⟨_, rfl, rfl, Since.refl _⟩
        · go_wp2
          exact ⟨_, rfl, rfl, Since.refl _⟩
        · go_wp2
          exact ⟨_, rfl, rfl, Since.refl _⟩
        · go_wp2
          exact ⟨_, rfl, rfl, Since.refl _⟩
        · have z9 : w7.cell? ⟨b, off + i * 2, none⟩ = _ := (hs.cell (p := ⟨b, off + i * 2, none⟩) HBL.out).trans HC0.out
          have z8 := Nat.lt_of_lt_of_le HBL.out hs.size
          go_wp2
          exact ⟨_, rfl, rfl, Since.refl _⟩
        · go_wp2
          exact ⟨_, rfl, rfl, Since.refl _⟩
        · go_wp2
          exact ⟨_, rfl, rfl, Since.refl _⟩
        · go_wp2
          exact ⟨_, rfl, rfl, Since.refl _⟩
        · go_wp2
          exact ⟨_, rfl, rfl, Since.refl _⟩
        · go_wp2
          exact ⟨_, rfl, rfl, Since.refl _⟩
        · go_wp2
          exact ⟨_, rfl, rfl, Since.refl _⟩
        · go_wp2
          exact ⟨_, rfl, rfl, Since.refl _⟩
        · go_wp2
          exact ⟨_, rfl, rfl, Since.refl _⟩
        · have z9 : w7.cell? ⟨b, off + i * 2 + 1, none⟩ = _ := (hs.cell (p := ⟨b, off + i * 2 + 1, none⟩) HBL.out).trans HC1.out
          have z8 := Nat.lt_of_lt_of_le HBL.out hs.size
          go_wp2
          exact ⟨_, rfl, rfl, Since.refl _⟩
        · go_wp2
          exact ⟨_, rfl, rfl, Since.refl _⟩
        · go_wp2
          exact ⟨_, rfl, rfl, Since.refl _⟩
        · go_wp2
          exact ⟨_, rfl, rfl, Since.refl _⟩
        · go_wp2
          exact ⟨_, rfl, ⟨_, rfl, HeapIs.new _ _ _⟩, (Since.refl _).alloc _⟩
        · obtain ⟨gq, hgq, hgb⟩ := (show NewRow _ _ _ _ _ from hk.2.2.2.2.2.2.2.2.2.2.2.2.2.2.2.2.2.2.2.1)
          simp only [hgq]
          have HGB := Lib.hid hgb
          have HXW := Lib.hid (HX.out.keep hs)
          clear hs hk hgq hgb
          go_wp2_with (at_builtin; refine wpList_append_one2 dtcells 2 (fun _ => rfl) (by decide) rfl _ _ 32 rfl 37 (.agg #[.int .i64 0, .int .i64 0]) 16 Tryd.underlying32 (by kernel_rfl) rfl (.slice oa i oc) tl ⟨1 + r3, c32⟩ _ 1 _ rfl rfl HXW.out.own HGB.out (fun u hu => by simp only [dtcells, List.mem_cons, List.not_mem_nil, or_false] at hu; rcases hu with rfl | rfl <;> rfl) (by rw [HTL.out]; unfold maxLen; omega) (by rw [HTL.out]; omega) HXW.out.since.size ?_; intro v9 w9 ho ht hn; obtain ⟨va, vc, hv⟩ := OwnRow.shape ho; rw [List.length_append, HTL.out, List.length_singleton] at hv; subst hv; have b9 := HXW.out.box.turn ht (own_not HXW.out.own HXW.out.box (by decide)); have s0 := b9.cell 1; have s1 := b9.frozen 1; have s2 := b9.lt; have HX9 := Lib.hid (HXW.out.add ho ht); clear b9 ho ht hn)
          go_roundw
          case rel => exact ⟨i + 1, _, tl ++ [⟨1 + r3, c32⟩], by go_num, by omega, by omega, by rw [List.length_append, HTL.out]; rfl, tok_add HOK.out HOKX.out, HX9.out⟩
          case measure => simp [intOf]; omega
      · have hie : i = 20 := by omega
        have HSW := Lib.hid (HS2.out.trans HX.out.since)
        have HT1 := Lib.hid (show TilesIn wr (.slice oa i oc) tl from row_of_own (f := dtcells) (fun _ => rfl) HX.out.own fun x hx => tok_rng (HOK.out x hx))
        obtain ⟨wx, hwx⟩ : ∃ z, z = wr := ⟨_, rfl⟩
        subst hwx
        go_wp2_with fail
        go_loopw [8] (fun ko wk => ∃ k : Nat, ko = .int .i64 k ∧ k ≤ 2 ∧ Since wx wk) (fun ko _ => 2 - (intOf ko).toNat)
        case atStart => exact ⟨0, rfl, by decide, Since.refl _⟩
        case round =>
          obtain ⟨k, rfl, hk, hsk⟩ := hrel
          have HSK := Lib.hid hsk
          clear hsk
          by_cases hk2 : k < 2
          · obtain ⟨ta, tn, tc, lk, hcell, htin, htok, hlen, hle⟩ : ∃ ta tn tc lk, wr.cell? ⟨qx, k, none⟩ = some (.slice ta tn tc) ∧ TilesIn wr (.slice ta tn tc) lk ∧ (∀ t ∈ lk, TileOk t) ∧ lk.length = tn ∧ tn ≤ 74 := by
              rcases (show k = 0 ∨ k = 1 by omega) with rfl | rfl
              · exact ⟨a0, n0, c0, l0, (HX.out.box.keep HSK.out).cell 0, RowIn.keep (fun _ _ _ h _ => h) HO0.out (HX.out.since.trans HSK.out), HK0.out, HN0.out, hl0⟩
              · exact ⟨oa, i, oc, tl, (HX.out.box.keep HSK.out).cell 1, RowIn.keep (fun _ _ _ h _ => h) HT1.out HSK.out, HOK.out, HTL.out, by omega⟩
            have HCELL := Lib.hid hcell
            have HTIN := Lib.hid htin
            have HTOK := Lib.hid htok
            have HLEN := Lib.hid hlen
            have HQ := Lib.hid (HX.out.box.keep HSK.out).lt
            have HSWK := Lib.hid (HSW.out.trans HSK.out)
            have HTSL := Lib.hid (show (tilesS lk).length ≤ 2516 from tilesS_le lk 74 (fun t ht => in64_32 (htok t ht).2) (by omega))
            clear hcell htin htok hlen
            obtain ⟨wk, hwk⟩ : ∃ z, z = wr := ⟨_, rfl⟩
            subst hwk
            go_wp2_with fail
            go_loopw [9, 10] (fun so io wj => ∃ (j : Nat) (y : ByteArray), so = .string y ∧ io = .int .i64 j ∧ j ≤ tn ∧ y.data.toList = tilesS (lk.take j) ∧ Since wk wj) (fun _ io _ => tn - (intOf io).toNat)
            case atStart => exact ⟨0, _, rfl, rfl, Nat.zero_le _, rfl, Since.refl _⟩
            case round =>
              obtain ⟨j, y, rfl, rfl, hj, hy, hsj⟩ := hrel
              have hyb : y.size ≤ 2516 := by
                rw [← bytes_len, hy]
                exact tilesS_le (lk.take j) 74 (fun t ht => in64_32 (HTOK.out t (List.mem_of_mem_take ht)).2) (by rw [List.length_take]; omega)
              have HCL := Lib.hid ((hsj.cell (p := ⟨qx, k, none⟩) HQ.out).trans HCELL.out)
              have HQL := Lib.hid (Nat.lt_of_lt_of_le HQ.out hsj.size)
              have HSJ := Lib.hid hsj
              have HYD := Lib.hid hy
              have HL := Lib.hid (HL0.out.keep (HSWK.out.trans hsj))
              have z0 := HCL.out
              have z1 := HQL.out
              clear hy hsj
              by_cases hlt : j < tn
              · obtain ⟨b, off, t, e1, hb, ht, hc, _⟩ := RowIn.at (RowIn.keep (fun _ _ _ h _ => h) HTIN.out HSJ.out) (HLEN.out ▸ hlt)
                cases e1
                have hto := HTOK.out t (List.mem_of_getElem? ht)
                obtain ⟨pt, ct⟩ := t
                have HNX := Lib.hid (tiles_next ht hto)
                have HPT := Lib.hid (show In64 pt from ⟨by have := hto.1; dsimp only at this; omega, by have := hto.1; dsimp only at this; omega⟩)
                have HCT := Lib.hid (show -2147483648 ≤ ct ∧ ct ≤ 2147483647 from hto.2)
                have hct : -2147483648 ≤ ct ∧ ct ≤ 2147483647 := hto.2
                have hps : (patB pt).size ≤ 10 := by rw [← bytes_len]; exact patB_small hto.1
                have hpl : (patB pt).data.toList.length ≤ 10 := patB_small hto.1
                have hil : (Lib.itoa ct).length ≤ 21 := by have := dS_len ct (in64_32 hto.2); unfold dS at this; simp only [List.length_cons] at this; omega
                have his : (⟨(Lib.itoa ct).toArray⟩ : ByteArray).size ≤ 21 := by rw [bs_size]; exact hil
                have hyl : y.data.toList.length ≤ 2516 := by rw [bytes_len]; exact hyb
                have HBL := Lib.hid hb
                have HC0 := Lib.hid (show wr.cell? ⟨b, off + j * 2, none⟩ = some (.int .i64 pt) from hc 0 (by decide))
                have HC1 := Lib.hid (show wr.cell? ⟨b, off + j * 2 + 1, none⟩ = some (.int .i64 ct) from hc 1 (by decide))
                clear hb ht hc hto
                go_upto_region 14 with fail
                rw [show decide ((k : Int) < 2) = true from decide_eq_true (by omega)]
                clear z0 z1
                refine wp_region_since_tail 23 rfl (by decide +kernel) (by decide +kernel) (by decide +kernel) (by decide)
                  [Is (.string y), StrIs (y.data.toList ++ [116, 105, 108, 101, 32]), Is (.int .i64 k), Is (.pointer (some ⟨qx, k, none⟩)), Is (.slice (some ⟨b, off, none⟩) tn tc), Is (.int .i64 j), Is (.pointer (some ⟨b, off + j * 2, none⟩)), Is (.pointer (some ⟨b, off + j * 2, none⟩)), Is (.int .i64 pt), Is (.string (patB pt)), StrIs (y.data.toList ++ [116, 105, 108, 101, 32] ++ (patB pt).data.toList), StrIs (y.data.toList ++ [116, 105, 108, 101, 32] ++ (patB pt).data.toList ++ [32]), Is (.int .i64 k), Is (.pointer (some ⟨qx, k, none⟩)), Is (.slice (some ⟨b, off, none⟩) tn tc), Is (.int .i64 j), Is (.pointer (some ⟨b, off + j * 2, none⟩)), Is (.pointer (some ⟨b, off + j * 2 + 1, none⟩)), Is (.int .i64 ct), Is (.int .i32 ct), Is (.string ⟨(Lib.itoa ct).toArray⟩), StrIs (y.data.toList ++ [116, 105, 108, 101, 32] ++ (patB pt).data.toList ++ [32] ++ Lib.itoa ct), StrIs (y.data.toList ++ [116, 105, 108, 101, 32] ++ (patB pt).data.toList ++ [32] ++ Lib.itoa ct ++ [10])]
                  (by repeat (first | exact trivial | refine ⟨Is.stable _, ?_⟩ | refine ⟨IsNums.stable _ _, ?_⟩ | refine ⟨IsRows.stable _ _, ?_⟩ | refine ⟨StrIs.stable _, ?_⟩)) ⟨?_, ?_, ?_, ?_, ?_, ?_, ?_, ?_, ?_, ?_, ?_, ?_, ?_, ?_, ?_, ?_, ?_, ?_, ?_, ?_, ?_, ?_, ?_, trivial⟩ ?_
                all_goals
                  intro vs w7 hs hk
                  try intro _
                  simp only [List.take, List.drop, putAll, Act.put, Knows, KnowsAll, nthF, Is, List.setIfInBounds_toArray, List.set_cons_zero, List.set_cons_succ, Nat.reduceAdd] at hk ⊢
                  try simp only [hk]
                · go_wp2
                  exact ⟨_, rfl, rfl, Since.refl _⟩
                · clear hk
                  go_wp2
                  exact ⟨_, rfl, ⟨_, rfl, app_list _ _ [116, 105, 108, 101, 32] (by kernel_rfl)⟩, Since.refl _⟩
                · go_wp2
                  exact ⟨_, rfl, rfl, Since.refl _⟩
                · go_wp2
                  exact ⟨_, rfl, rfl, Since.refl _⟩
                · have z9 := (hs.cell (p := ⟨qx, k, none⟩) HQL.out).trans HCL.out
                  have z8 := Nat.lt_of_lt_of_le HQL.out hs.size
                  go_wp2
                  exact ⟨_, rfl, rfl, Since.refl _⟩
                · go_wp2
                  exact ⟨_, rfl, rfl, Since.refl _⟩
                · go_wp2
                  exact ⟨_, rfl, rfl, Since.refl _⟩
                · go_wp2
                  exact ⟨_, rfl, rfl, Since.refl _⟩
                · have z9 : w7.cell? ⟨b, off + j * 2, none⟩ = _ := (hs.cell (p := ⟨b, off + j * 2, none⟩) HBL.out).trans HC0.out
                  have z8 := Nat.lt_of_lt_of_le HBL.out hs.size
                  go_wp2
                  exact ⟨_, rfl, rfl, Since.refl _⟩
                · go_wp2_with fail
                  refine (tname_any pt w7 HPT.out (HL.out.keep hs).tab).mono ?_
                  rintro e wN ⟨rfl, hsN⟩
                  go_wp2
                  exact ⟨_, rfl, rfl, hsN⟩
                · obtain ⟨z, hv, hz⟩ := hk.1
                  have hk2 := hk.2.1
                  simp only [hv]
                  have HZ := Lib.hid hz
                  have hzs : z.size ≤ 4000 := by rw [← bytes_len, hz]; simp only [List.length_append, List.length_cons, List.length_nil]; omega
                  clear hk hk2 hv hz
                  go_wp2
                  exact ⟨_, rfl, ⟨_, rfl, (app_list _ _ (patB pt).data.toList rfl).trans (by rw [HZ.out]; simp)⟩, Since.refl _⟩
                · obtain ⟨z, hv, hz⟩ := hk.1
                  simp only [hv]
                  have HZ := Lib.hid hz
                  have hzs : z.size ≤ 4000 := by rw [← bytes_len, hz]; simp only [List.length_append, List.length_cons, List.length_nil]; omega
                  clear hk hv hz
                  go_wp2
                  exact ⟨_, rfl, ⟨_, rfl, (app_list _ _ [32] (by kernel_rfl)).trans (by rw [HZ.out]; simp)⟩, Since.refl _⟩
                · go_wp2
                  exact ⟨_, rfl, rfl, Since.refl _⟩
                · go_wp2
                  exact ⟨_, rfl, rfl, Since.refl _⟩
                · have z9 := (hs.cell (p := ⟨qx, k, none⟩) HQL.out).trans HCL.out
                  have z8 := Nat.lt_of_lt_of_le HQL.out hs.size
                  go_wp2
                  exact ⟨_, rfl, rfl, Since.refl _⟩
                · go_wp2
                  exact ⟨_, rfl, rfl, Since.refl _⟩
                · go_wp2
                  exact ⟨_, rfl, rfl, Since.refl _⟩
                · go_wp2
                  exact ⟨_, rfl, rfl, Since.refl _⟩
                · have z9 : w7.cell? ⟨b, off + j * 2 + 1, none⟩ = _ := (hs.cell (p := ⟨b, off + j * 2 + 1, none⟩) HBL.out).trans HC1.out
                  have z8 := Nat.lt_of_lt_of_le HBL.out hs.size
                  go_wp2
                  exact ⟨_, rfl, rfl, Since.refl _⟩
                · go_wp2
                  exact ⟨_, rfl, rfl, Since.refl _⟩
                · go_wp2_with fail
                  refine (text_any ct w7 HCT.out.1 HCT.out.2 (HL.out.keep hs).s).mono ?_
                  rintro e wN ⟨rfl, hsN⟩
                  go_wp2
                  exact ⟨_, rfl, rfl, hsN⟩
                · obtain ⟨z, hv, hz⟩ := hk.1
                  have hk2 := hk.2.1
                  simp only [hv]
                  have HZ := Lib.hid hz
                  have hzs : z.size ≤ 4000 := by rw [← bytes_len, hz]; simp only [List.length_append, List.length_cons, List.length_nil]; omega
                  clear hk hk2 hv hz
                  go_wp2
                  exact ⟨_, rfl, ⟨_, rfl, (app_list _ _ (Lib.itoa ct) rfl).trans (by rw [HZ.out]; simp)⟩, Since.refl _⟩
                · obtain ⟨z, hv, hz⟩ := hk.1
                  simp only [hv]
                  have HZ := Lib.hid hz
                  have hzs : z.size ≤ 4000 := by rw [← bytes_len, hz]; simp only [List.length_append, List.length_cons, List.length_nil]; omega
                  clear hk hv hz
                  go_wp2
                  exact ⟨_, rfl, ⟨_, rfl, (app_list _ _ [10] (by kernel_rfl)).trans (by rw [HZ.out]; simp)⟩, Since.refl _⟩
                · obtain ⟨z, hv, hz⟩ := (show StrIs _ (vs 22) w7 from hk.2.2.2.2.2.2.2.2.2.2.2.2.2.2.2.2.2.2.2.2.2.2.1)
                  simp only [hv]
                  have HZ := Lib.hid (show z.data.toList = tilesS (lk.take (j + 1)) from by rw [hz, HYD.out]; exact HNX.out)
                  have HSN := Lib.hid (HSJ.out.trans hs)
                  clear hk hv hz hs
                  go_wp2
                  go_roundw
                  case rel => exact ⟨j + 1, by omega, by omega, HZ.out, HSN.out⟩
                  case measure => simp [intOf]; omega
              · obtain rfl : j = tn := by omega
                obtain ⟨z, hz⟩ : ∃ z : ByteArray, ⟨(tilesS lk).toArray⟩ = z := ⟨_, rfl⟩
                obtain rfl : z = y := by
                  rw [← hz]
                  apply ByteArray.ext
                  apply Array.ext'
                  rw [HYD.out, List.take_of_length_le (by rw [HLEN.out]; exact Nat.le_refl _)]
                have HZD := Lib.hid (show z.data.toList = tilesS lk from by rw [← hz])
                have HTT := Lib.hid (fun (W : World) (s : Since wk W) => (show Calls Tryd.prog 11 #[.slice ta j tc] W (StrQ z W) from by rw [← hz]; exact text_tiles _ lk W (RowIn.keep (fun _ _ _ h _ => h) HTIN.out s) (HL0.out.keep (HSWK.out.trans s)) (by have := HTSL.out; omega)))
                clear hlt hj hz
                go_wp2_with fail
                refine (HTT.out wr HSJ.out).mono ?_
                rintro e wa ⟨rfl, hsa⟩
                have HSA := Lib.hid (HSJ.out.trans hsa)
                clear hsa z0 z1
                go_wp2_with fail
                refine (ptiles_any z wa (by omega) (HL0.out.keep (HSWK.out.trans HSA.out))).mono ?_
                rintro e wb ⟨v4, l4, line4, er4, rfl, ht4, hd4, hsb⟩
                rw [HZD.out, tables_law lk HTOK.out] at hd4
                obtain rfl : line4 = 0 := congrArg TRes.line hd4
                obtain rfl : er4 = 0 := congrArg TRes.e hd4
                obtain rfl : l4 = lk := congrArg TRes.l hd4
                obtain ⟨a4, c4, e4, _⟩ := RowIn.shape ht4
                rw [HLEN.out] at e4
                subst e4
                have HT4 := Lib.hid ht4
                have HSB := Lib.hid (HSA.out.trans hsb)
                have z0 := (HSB.out.cell (p := ⟨qx, k, none⟩) HQ.out).trans HCELL.out
                have z1 := Nat.lt_of_lt_of_le HQ.out HSB.out.size
                clear ht4 hd4 hsb
                go_wp2_with fail
                refine (HTT.out wb HSB.out).mono ?_
                rintro e wc ⟨rfl, hsc⟩
                have HSC := Lib.hid (HSB.out.trans hsc)
                have HSBC := Lib.hid hsc
                have y0 := (HSC.out.cell (p := ⟨qx, k, none⟩) HQ.out).trans HCELL.out
                have y1 := Nat.lt_of_lt_of_le HQ.out HSC.out.size
                clear hsc z0 z1
                go_wp2_with fail
                refine (tiles_same _ _ l4 wc (RowIn.keep (fun _ _ _ h _ => h) HT4.out HSBC.out) (RowIn.keep (fun _ _ _ h _ => h) HTIN.out HSC.out)).mono ?_
                rintro e wd ⟨rfl, hsd⟩
                have HSD := Lib.hid (HSK.out.trans (HSC.out.trans hsd))
                clear hsd y0 y1
                go_wp2
                go_roundw
                case rel => exact ⟨k + 1, by go_num, by omega, HSD.out⟩
                case measure => simp [intOf]; omega
          · obtain rfl : k = 2 := by omega
            go_wp2
            go_ret
            exact ⟨rfl, HSW.out.trans HSK.out⟩
    · obtain rfl : i = ln := by omega
      clear hlt
      have HSW := Lib.hid (HS2.out.trans HX.out.since)
      have HT1 := Lib.hid (show TilesIn wr (.slice oa i oc) tl from row_of_own (f := dtcells) (fun _ => rfl) HX.out.own fun x hx => tok_rng (HOK.out x hx))
      obtain ⟨wx, hwx⟩ : ∃ z, z = wr := ⟨_, rfl⟩
      subst hwx
      go_wp2_with fail
      go_loopw [8] (fun ko wk => ∃ k : Nat, ko = .int .i64 k ∧ k ≤ 2 ∧ Since wx wk) (fun ko _ => 2 - (intOf ko).toNat)
      case atStart => exact ⟨0, rfl, by decide, Since.refl _⟩
      case round =>
        obtain ⟨k, rfl, hk, hsk⟩ := hrel
        have HSK := Lib.hid hsk
        clear hsk
        by_cases hk2 : k < 2
        · obtain ⟨ta, tn, tc, lk, hcell, htin, htok, hlen, hle⟩ : ∃ ta tn tc lk, wr.cell? ⟨qx, k, none⟩ = some (.slice ta tn tc) ∧ TilesIn wr (.slice ta tn tc) lk ∧ (∀ t ∈ lk, TileOk t) ∧ lk.length = tn ∧ tn ≤ 74 := by
            rcases (show k = 0 ∨ k = 1 by omega) with rfl | rfl
            · exact ⟨a0, n0, c0, l0, (HX.out.box.keep HSK.out).cell 0, RowIn.keep (fun _ _ _ h _ => h) HO0.out (HX.out.since.trans HSK.out), HK0.out, HN0.out, hl0⟩
            · exact ⟨oa, i, oc, tl, (HX.out.box.keep HSK.out).cell 1, RowIn.keep (fun _ _ _ h _ => h) HT1.out HSK.out, HOK.out, HTL.out, by omega⟩
          have HCELL := Lib.hid hcell
          have HTIN := Lib.hid htin
          have HTOK := Lib.hid htok
          have HLEN := Lib.hid hlen
          have HQ := Lib.hid (HX.out.box.keep HSK.out).lt
          have HSWK := Lib.hid (HSW.out.trans HSK.out)
          have HTSL := Lib.hid (show (tilesS lk).length ≤ 2516 from tilesS_le lk 74 (fun t ht => in64_32 (htok t ht).2) (by omega))
          clear hcell htin htok hlen
          obtain ⟨wk, hwk⟩ : ∃ z, z = wr := ⟨_, rfl⟩
          subst hwk
          go_wp2_with fail
          go_loopw [9, 10] (fun so io wj => ∃ (j : Nat) (y : ByteArray), so = .string y ∧ io = .int .i64 j ∧ j ≤ tn ∧ y.data.toList = tilesS (lk.take j) ∧ Since wk wj) (fun _ io _ => tn - (intOf io).toNat)
          case atStart => exact ⟨0, _, rfl, rfl, Nat.zero_le _, rfl, Since.refl _⟩
          case round =>
            obtain ⟨j, y, rfl, rfl, hj, hy, hsj⟩ := hrel
            have hyb : y.size ≤ 2516 := by
              rw [← bytes_len, hy]
              exact tilesS_le (lk.take j) 74 (fun t ht => in64_32 (HTOK.out t (List.mem_of_mem_take ht)).2) (by rw [List.length_take]; omega)
            have HCL := Lib.hid ((hsj.cell (p := ⟨qx, k, none⟩) HQ.out).trans HCELL.out)
            have HQL := Lib.hid (Nat.lt_of_lt_of_le HQ.out hsj.size)
            have HSJ := Lib.hid hsj
            have HYD := Lib.hid hy
            have HL := Lib.hid (HL0.out.keep (HSWK.out.trans hsj))
            have z0 := HCL.out
            have z1 := HQL.out
            clear hy hsj
            by_cases hlt : j < tn
            · obtain ⟨b, off, t, e1, hb, ht, hc, _⟩ := RowIn.at (RowIn.keep (fun _ _ _ h _ => h) HTIN.out HSJ.out) (HLEN.out ▸ hlt)
              cases e1
              have hto := HTOK.out t (List.mem_of_getElem? ht)
              obtain ⟨pt, ct⟩ := t
              have HNX := Lib.hid (tiles_next ht hto)
              have HPT := Lib.hid (show In64 pt from ⟨by have := hto.1; dsimp only at this; omega, by have := hto.1; dsimp only at this; omega⟩)
              have HCT := Lib.hid (show -2147483648 ≤ ct ∧ ct ≤ 2147483647 from hto.2)
              have hct : -2147483648 ≤ ct ∧ ct ≤ 2147483647 := hto.2
              have hps : (patB pt).size ≤ 10 := by rw [← bytes_len]; exact patB_small hto.1
              have hpl : (patB pt).data.toList.length ≤ 10 := patB_small hto.1
              have hil : (Lib.itoa ct).length ≤ 21 := by have := dS_len ct (in64_32 hto.2); unfold dS at this; simp only [List.length_cons] at this; omega
              have his : (⟨(Lib.itoa ct).toArray⟩ : ByteArray).size ≤ 21 := by rw [bs_size]; exact hil
              have hyl : y.data.toList.length ≤ 2516 := by rw [bytes_len]; exact hyb
              have HBL := Lib.hid hb
              have HC0 := Lib.hid (show wr.cell? ⟨b, off + j * 2, none⟩ = some (.int .i64 pt) from hc 0 (by decide))
              have HC1 := Lib.hid (show wr.cell? ⟨b, off + j * 2 + 1, none⟩ = some (.int .i64 ct) from hc 1 (by decide))
              clear hb ht hc hto
              go_upto_region 14 with fail
              rw [show decide ((k : Int) < 2) = true from decide_eq_true (by omega)]
              clear z0 z1
              refine wp_region_since_tail 23 rfl (by decide +kernel) (by decide +kernel) (by decide +kernel) (by decide)
                [Is (.string y), StrIs (y.data.toList ++ [116, 105, 108, 101, 32]), Is (.int .i64 k), Is (.pointer (some ⟨qx, k, none⟩)), Is (.slice (some ⟨b, off, none⟩) tn tc), Is (.int .i64 j), Is (.pointer (some ⟨b, off + j * 2, none⟩)), Is (.pointer (some ⟨b, off + j * 2, none⟩)), Is (.int .i64 pt), Is (.string (patB pt)), StrIs (y.data.toList ++ [116, 105, 108, 101, 32] ++ (patB pt).data.toList), StrIs (y.data.toList ++ [116, 105, 108, 101, 32] ++ (patB pt).data.toList ++ [32]), Is (.int .i64 k), Is (.pointer (some ⟨qx, k, none⟩)), Is (.slice (some ⟨b, off, none⟩) tn tc), Is (.int .i64 j), Is (.pointer (some ⟨b, off + j * 2, none⟩)), Is (.pointer (some ⟨b, off + j * 2 + 1, none⟩)), Is (.int .i64 ct), Is (.int .i32 ct), Is (.string ⟨(Lib.itoa ct).toArray⟩), StrIs (y.data.toList ++ [116, 105, 108, 101, 32] ++ (patB pt).data.toList ++ [32] ++ Lib.itoa ct), StrIs (y.data.toList ++ [116, 105, 108, 101, 32] ++ (patB pt).data.toList ++ [32] ++ Lib.itoa ct ++ [10])]
                (by repeat (first | exact trivial | refine ⟨Is.stable _, ?_⟩ | refine ⟨IsNums.stable _ _, ?_⟩ | refine ⟨IsRows.stable _ _, ?_⟩ | refine ⟨StrIs.stable _, ?_⟩)) ⟨?_, ?_, ?_, ?_, ?_, ?_, ?_, ?_, ?_, ?_, ?_, ?_, ?_, ?_, ?_, ?_, ?_, ?_, ?_, ?_, ?_, ?_, ?_, trivial⟩ ?_
              all_goals
                intro vs w7 hs hk
                try intro _
                simp only [List.take, List.drop, putAll, Act.put, Knows, KnowsAll, nthF, Is, List.setIfInBounds_toArray, List.set_cons_zero, List.set_cons_succ, Nat.reduceAdd] at hk ⊢
                try simp only [hk]
              · go_wp2
                exact ⟨_, rfl, rfl, Since.refl _⟩
              · clear hk
                go_wp2
                exact ⟨_, rfl, ⟨_, rfl, app_list _ _ [116, 105, 108, 101, 32] (by kernel_rfl)⟩, Since.refl _⟩
              · go_wp2
                exact ⟨_, rfl, rfl, Since.refl _⟩
              · go_wp2
                exact ⟨_, rfl, rfl, Since.refl _⟩
              · have z9 := (hs.cell (p := ⟨qx, k, none⟩) HQL.out).trans HCL.out
                have z8 := Nat.lt_of_lt_of_le HQL.out hs.size
                go_wp2
                exact ⟨_, rfl, rfl, Since.refl _⟩
              · go_wp2
                exact ⟨_, rfl, rfl, Since.refl _⟩
              · go_wp2
                exact ⟨_, rfl, rfl, Since.refl _⟩
              · go_wp2
                exact ⟨_, rfl, rfl, Since.refl _⟩
              · have z9 : w7.cell? ⟨b, off + j * 2, none⟩ = _ := (hs.cell (p := ⟨b, off + j * 2, none⟩) HBL.out).trans HC0.out
                have z8 := Nat.lt_of_lt_of_le HBL.out hs.size
                go_wp2
                exact ⟨_, rfl, rfl, Since.refl _⟩
              · go_wp2_with fail
                refine (tname_any pt w7 HPT.out (HL.out.keep hs).tab).mono ?_
                rintro e wN ⟨rfl, hsN⟩
                go_wp2
                exact ⟨_, rfl, rfl, hsN⟩
              · obtain ⟨z, hv, hz⟩ := hk.1
                have hk2 := hk.2.1
                simp only [hv]
                have HZ := Lib.hid hz
                have hzs : z.size ≤ 4000 := by rw [← bytes_len, hz]; simp only [List.length_append, List.length_cons, List.length_nil]; omega
                clear hk hk2 hv hz
                go_wp2
                exact ⟨_, rfl, ⟨_, rfl, (app_list _ _ (patB pt).data.toList rfl).trans (by rw [HZ.out]; simp)⟩, Since.refl _⟩
              · obtain ⟨z, hv, hz⟩ := hk.1
                simp only [hv]
                have HZ := Lib.hid hz
                have hzs : z.size ≤ 4000 := by rw [← bytes_len, hz]; simp only [List.length_append, List.length_cons, List.length_nil]; omega
                clear hk hv hz
                go_wp2
                exact ⟨_, rfl, ⟨_, rfl, (app_list _ _ [32] (by kernel_rfl)).trans (by rw [HZ.out]; simp)⟩, Since.refl _⟩
              · go_wp2
                exact ⟨_, rfl, rfl, Since.refl _⟩
              · go_wp2
                exact ⟨_, rfl, rfl, Since.refl _⟩
              · have z9 := (hs.cell (p := ⟨qx, k, none⟩) HQL.out).trans HCL.out
                have z8 := Nat.lt_of_lt_of_le HQL.out hs.size
                go_wp2
                exact ⟨_, rfl, rfl, Since.refl _⟩
              · go_wp2
                exact ⟨_, rfl, rfl, Since.refl _⟩
              · go_wp2
                exact ⟨_, rfl, rfl, Since.refl _⟩
              · go_wp2
                exact ⟨_, rfl, rfl, Since.refl _⟩
              · have z9 : w7.cell? ⟨b, off + j * 2 + 1, none⟩ = _ := (hs.cell (p := ⟨b, off + j * 2 + 1, none⟩) HBL.out).trans HC1.out
                have z8 := Nat.lt_of_lt_of_le HBL.out hs.size
                go_wp2
                exact ⟨_, rfl, rfl, Since.refl _⟩
              · go_wp2
                exact ⟨_, rfl, rfl, Since.refl _⟩
              · go_wp2_with fail
                refine (text_any ct w7 HCT.out.1 HCT.out.2 (HL.out.keep hs).s).mono ?_
                rintro e wN ⟨rfl, hsN⟩
                go_wp2
                exact ⟨_, rfl, rfl, hsN⟩
              · obtain ⟨z, hv, hz⟩ := hk.1
                have hk2 := hk.2.1
                simp only [hv]
                have HZ := Lib.hid hz
                have hzs : z.size ≤ 4000 := by rw [← bytes_len, hz]; simp only [List.length_append, List.length_cons, List.length_nil]; omega
                clear hk hk2 hv hz
                go_wp2
                exact ⟨_, rfl, ⟨_, rfl, (app_list _ _ (Lib.itoa ct) rfl).trans (by rw [HZ.out]; simp)⟩, Since.refl _⟩
              · obtain ⟨z, hv, hz⟩ := hk.1
                simp only [hv]
                have HZ := Lib.hid hz
                have hzs : z.size ≤ 4000 := by rw [← bytes_len, hz]; simp only [List.length_append, List.length_cons, List.length_nil]; omega
                clear hk hv hz
                go_wp2
                exact ⟨_, rfl, ⟨_, rfl, (app_list _ _ [10] (by kernel_rfl)).trans (by rw [HZ.out]; simp)⟩, Since.refl _⟩
              · obtain ⟨z, hv, hz⟩ := (show StrIs _ (vs 22) w7 from hk.2.2.2.2.2.2.2.2.2.2.2.2.2.2.2.2.2.2.2.2.2.2.1)
                simp only [hv]
                have HZ := Lib.hid (show z.data.toList = tilesS (lk.take (j + 1)) from by rw [hz, HYD.out]; exact HNX.out)
                have HSN := Lib.hid (HSJ.out.trans hs)
                clear hk hv hz hs
                go_wp2
                go_roundw
                case rel => exact ⟨j + 1, by omega, by omega, HZ.out, HSN.out⟩
                case measure => simp [intOf]; omega
            · obtain rfl : j = tn := by omega
              obtain ⟨z, hz⟩ : ∃ z : ByteArray, ⟨(tilesS lk).toArray⟩ = z := ⟨_, rfl⟩
              obtain rfl : z = y := by
                rw [← hz]
                apply ByteArray.ext
                apply Array.ext'
                rw [HYD.out, List.take_of_length_le (by rw [HLEN.out]; exact Nat.le_refl _)]
              have HZD := Lib.hid (show z.data.toList = tilesS lk from by rw [← hz])
              have HTT := Lib.hid (fun (W : World) (s : Since wk W) => (show Calls Tryd.prog 11 #[.slice ta j tc] W (StrQ z W) from by rw [← hz]; exact text_tiles _ lk W (RowIn.keep (fun _ _ _ h _ => h) HTIN.out s) (HL0.out.keep (HSWK.out.trans s)) (by have := HTSL.out; omega)))
              clear hlt hj hz
              go_wp2_with fail
              refine (HTT.out wr HSJ.out).mono ?_
              rintro e wa ⟨rfl, hsa⟩
              have HSA := Lib.hid (HSJ.out.trans hsa)
              clear hsa z0 z1
              go_wp2_with fail
              refine (ptiles_any z wa (by omega) (HL0.out.keep (HSWK.out.trans HSA.out))).mono ?_
              rintro e wb ⟨v4, l4, line4, er4, rfl, ht4, hd4, hsb⟩
              rw [HZD.out, tables_law lk HTOK.out] at hd4
              obtain rfl : line4 = 0 := congrArg TRes.line hd4
              obtain rfl : er4 = 0 := congrArg TRes.e hd4
              obtain rfl : l4 = lk := congrArg TRes.l hd4
              obtain ⟨a4, c4, e4, _⟩ := RowIn.shape ht4
              rw [HLEN.out] at e4
              subst e4
              have HT4 := Lib.hid ht4
              have HSB := Lib.hid (HSA.out.trans hsb)
              have z0 := (HSB.out.cell (p := ⟨qx, k, none⟩) HQ.out).trans HCELL.out
              have z1 := Nat.lt_of_lt_of_le HQ.out HSB.out.size
              clear ht4 hd4 hsb
              go_wp2_with fail
              refine (HTT.out wb HSB.out).mono ?_
              rintro e wc ⟨rfl, hsc⟩
              have HSC := Lib.hid (HSB.out.trans hsc)
              have HSBC := Lib.hid hsc
              have y0 := (HSC.out.cell (p := ⟨qx, k, none⟩) HQ.out).trans HCELL.out
              have y1 := Nat.lt_of_lt_of_le HQ.out HSC.out.size
              clear hsc z0 z1
              go_wp2_with fail
              refine (tiles_same _ _ l4 wc (RowIn.keep (fun _ _ _ h _ => h) HT4.out HSBC.out) (RowIn.keep (fun _ _ _ h _ => h) HTIN.out HSC.out)).mono ?_
              rintro e wd ⟨rfl, hsd⟩
              have HSD := Lib.hid (HSK.out.trans (HSC.out.trans hsd))
              clear hsd y0 y1
              go_wp2
              go_roundw
              case rel => exact ⟨k + 1, by go_num, by omega, HSD.out⟩
              case measure => simp [intOf]; omega
        · obtain rfl : k = 2 := by omega
          go_wp2
          go_ret
          exact ⟨rfl, HSW.out.trans HSK.out⟩
end Go.Proofs.YtmhojfpidedjeaaDoor
