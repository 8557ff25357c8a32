/- jacquardlaw25.TextWrong tells of each wrong line that it is true. -/
import Derived.Test.YtmhojfpidedjeaaDoorDz14
namespace Go.Proofs.YtmhojfpidedjeaaDoor
open Go.RowKit
set_option linter.unusedVariables false
def sB (i : Nat) : ByteArray := ⟨(baseS ++ List.replicate i 10).toArray⟩
theorem bs_push (a : Bs) (x : ByteArray) : (⟨a.toArray⟩ : ByteArray) ++ x = ⟨(a ++ x.data.toList).toArray⟩ := by
  apply ByteArray.ext
  rw [ByteArray.data_append]
  apply Array.ext'
  simp
theorem sB_next (i : Nat) : sB i ++ ⟨#[10]⟩ = sB (i + 1) := by
  unfold sB
  rw [bs_push, List.replicate_succ', List.append_assoc]
theorem sB_size (i : Nat) : (sB i).size = 30 + i := by
  unfold sB
  rw [bs_size, List.length_append, List.length_replicate]; rfl
theorem wrong_size : ∀ k, k < 24 → (wrongL.getD k ByteArray.empty).size ≤ 20 := by decide
theorem table_cell (w : World) (l : List Value) (T : TypeId) (k : Nat) (q : Nat) (h : HeapIs w q l.toArray T) : w.cell? ⟨q, k, none⟩ = l[k]? := by rw [h.cell]; simp
def texA : Array Value := (wrongL.map Value.string).toArray
def numA : Array Value := (wantL.map (Value.int .i64)).toArray
theorem wpList_build_asW {P : Program} {ops : Array Oper} {rest : List Oper} {o : Oper} {a : Act} {w : World} {Q : Exit → Act → World → Prop} (hg : o.guard = none) (t : TypeId) (parts : Array (Nat × Operand)) (ho : o.op = .build t parts) (cs : Array Value)
    (hf : P.built t (parts.map fun (i, x) => (i, a.eval x)).toList = some cs) (h : wpList P ops Q rest (a.put o.dst (.agg cs)) w) : wpList P ops Q (o :: rest) a w :=
  wpList_build hg t parts ho (by rw [hf]; rfl) (by rw [hf]; exact h)
theorem since_setRowW {w0 w : World} (s : Since w0 w) {g : Nat} (hg : w0.heap.size ≤ g) (cs : Array Value) : Since w0 (w.setRow g cs) :=
  Below.trans s ⟨rfl, rfl, rfl, by simp [World.setRow], fun i hi => setRow_other w g i cs (by omega)⟩
set_option maxHeartbeats 8000000 in
set_option maxRecDepth 100000 in
theorem walk_wrong (a n : Int) (ha : 0 ≤ a ∧ a < 256) (hn : 0 ≤ n ∧ n < 256) (w : World) (hL : LaidT w) : Calls Tryd.prog 3 #[.int .u8 a, .int .u8 n] w fun e w' => e = .returned (.bool true) ∧ Since w w' := by
  obtain ⟨k, hk, hk24⟩ : ∃ k : Nat, a.tmod 24 = k ∧ k < 24 := ⟨(a.tmod 24).toNat, by have := Int.tmod_nonneg 24 ha.1; omega, by have := Int.tmod_lt_of_pos a (show (0 : Int) < 24 by decide); omega⟩
  obtain ⟨m, hm, hm10⟩ : ∃ m : Nat, n.tmod 10 = m ∧ m < 10 := ⟨(n.tmod 10).toNat, by have := Int.tmod_nonneg 10 hn.1; omega, by have := Int.tmod_lt_of_pos n (show (0 : Int) < 10 by decide); omega⟩
  have HL := Lib.hid hL
  clear hL
  go_enter Tryd.func3, Tryd.ntmps3
  go_wp2_with fail
  refine (shown25_any w HL.out).mono ?_
  rintro e w1 ⟨rfl, hs1⟩
  have HS1 := Lib.hid hs1
  clear hs1
  go_upto_region 4 with (first
    | (refine wpList_build_asW rfl 23 _ rfl texA (by kernel_rfl) ?_)
    | (refine wpList_build_asW rfl 25 _ rfl numA (by kernel_rfl) ?_)
    | (refine wpList_store_row rfl 23 _ _ rfl w1.heap.size texA rfl rfl 23 _ (heap_last w1 _) (by kernel_rfl) (by kernel_rfl) (by kernel_rfl) ?_; generalize hW : (World.alloc w1 _).setRow w1.heap.size texA = W; have HSW := Lib.hid (show Since w1 W from by rw [← hW]; exact since_setRowW ((Since.refl w1).alloc _) (Nat.le_refl _) _); have HBW := Lib.hid (show HeapIs W w1.heap.size texA 23 from by rw [← hW]; exact put_block (HeapIs.new w1 _ _) _); clear hW)
    | (refine wpList_store_row rfl 25 _ _ rfl W.heap.size numA rfl rfl 25 _ (heap_last W _) (by kernel_rfl) (by kernel_rfl) (by kernel_rfl) ?_; generalize hW : (World.alloc W _).setRow W.heap.size numA = w2; have HSV := Lib.hid (show Since W w2 from by rw [← hW]; exact since_setRowW ((Since.refl W).alloc _) (Nat.le_refl _) _); have HBV := Lib.hid (show HeapIs w2 W.heap.size numA 25 from by rw [← hW]; exact put_block (HeapIs.new W _ _) _); clear hW))
  obtain ⟨q, hq⟩ : ∃ q, w1.heap.size = q := ⟨_, rfl⟩
  obtain ⟨q0, hq0⟩ : ∃ q, W.heap.size = q := ⟨_, rfl⟩
  have HS2 := Lib.hid (HS1.out.trans (HSW.out.trans HSV.out))
  have HB1 := Lib.hid (show HeapIs w2 q texA 23 from by rw [← hq]; exact HBW.out.keep HSV.out)
  have HB2 := Lib.hid (show HeapIs w2 q0 numA 25 from by rw [← hq0]; exact HBV.out)
  try rw [hq]
  try rw [hq0]
  clear hq hq0 HSW HSV HBW HBV
  go_wp2_with fail
  go_loopw [9, 10] (fun so io wr => ∃ (i : Nat), so = .string (sB i) ∧ io = .int .i64 i ∧ i ≤ m ∧ w2 = wr) (fun _ io _ => m - (intOf io).toNat)
  case atStart => exact ⟨0, rfl, rfl, Nat.zero_le _, rfl⟩
  case round =>
    obtain ⟨i, rfl, rfl, hi, rfl⟩ := hrel
    by_cases hlt : i < m
    · have hsz : (sB i).size ≤ 100 := by rw [sB_size]; omega
      obtain ⟨y, hy⟩ : ∃ y, sB i = y := ⟨_, rfl⟩
      have HY := Lib.hid (show y ++ ⟨#[10]⟩ = sB (i + 1) from by rw [← hy]; exact sB_next i)
      rw [hy] at hsz ⊢
      clear hy
      go_wp2
      go_roundw
      case rel => exact ⟨i + 1, by rw [HY.out], by go_num, by omega, trivial⟩
      case measure => simp [intOf]; omega
    · obtain rfl : i = m := by omega
      clear hlt hi
      have hsz : (sB i).size ≤ 40 := by rw [sB_size]; omega
      obtain ⟨y, hy⟩ : ∃ y, sB i = y := ⟨_, rfl⟩
      obtain ⟨x, hx⟩ : ∃ x, wrongL.getD k ByteArray.empty = x := ⟨_, rfl⟩
      have hxs : x.size ≤ 20 := by rw [← hx]; exact wrong_size k hk24
      have hyd : y.data.toList = baseS ++ List.replicate i 10 := by rw [← hy]; rfl
      have z0 : w2.cell? ⟨q, k, none⟩ = some (.string x) := by
        rw [table_cell w2 _ _ k q HB1.out, List.getElem?_map, List.getElem?_eq_getElem (show k < wrongL.length from hk24), ← hx, List.getD_eq_getElem?_getD, List.getElem?_eq_getElem (show k < wrongL.length from hk24)]; rfl
      have z1 := HB1.out.lt
      rw [hy] at hsz ⊢
      have HLW := Lib.hid (wrong_law hk24 hm10)
      have HLG := Lib.hid (good_law hm10)
      rw [hx] at HLW
      have e1 := fun (L : ByteArray) (hL : L.data.toList = retS) => show (y ++ x ++ L : ByteArray).data.toList = baseS ++ List.replicate i 10 ++ x.data.toList ++ retS from by
        rw [ByteArray.data_append, ByteArray.data_append, Array.toList_append, Array.toList_append, hyd, hL]
      have e2 := fun (L : ByteArray) (hL : L.data.toList = goodS) => show (y ++ L : ByteArray).data.toList = baseS ++ List.replicate i 10 ++ goodS from by
        rw [ByteArray.data_append, Array.toList_append, hyd, hL]
      have hs3 : (y ++ x : ByteArray).size ≤ 60 := by rw [ByteArray.size_append]; omega
      have HE1 := Lib.hid e1
      have HE2 := Lib.hid e2
      have HYD := Lib.hid hyd
      have HX := Lib.hid hx
      clear hy hyd hx e1 e2
      go_wp2_with fail
      refine (parse_any _ w2 (by simp only [ByteArray.size_append]; exact Nat.le_trans (Nat.add_le_add (Nat.add_le_add hsz hxs) (Nat.le_refl _)) (by decide)) (HL.out.keep HS2.out)).mono ?_
      rintro e u1 ⟨f1, line1, er1, rfl, hf1, hd1, hs1⟩
      rw [HE1.out _ (by kernel_rfl)] at hd1
      obtain ⟨p1, b1, v1⟩ := f1
      obtain ⟨a1, c1, e1, _⟩ := RowIn.shape hf1
      obtain ⟨n1, hn1⟩ : ∃ n, b1.length = n := ⟨_, rfl⟩
      replace e1 : v1 = .slice a1 n1 c1 := by rw [← hn1]; exact e1
      subst e1
      have hl1 : line1 = _ := congrArg PRes.line hd1
      have hr1 : er1 = _ := congrArg PRes.e hd1
      have hp1 : p1 = _ := congrArg (fun r => r.f.params) hd1
      have hq1 : n1 = (parseS (baseS ++ List.replicate i 10 ++ x.data.toList ++ retS)).f.blocks.length := by
        have h : (b1.map FBlk.d).length = _ := congrArg (fun r => r.f.blocks.length) hd1
        rw [List.length_map] at h
        rw [← hn1]; exact h
      rw [HLW.out.2.1] at hl1
      rw [HLW.out.1] at hr1
      rw [HLW.out.2.2] at hq1
      subst hl1 hr1 hq1
      clear hp1
      have HS12 := Lib.hid (HS2.out.trans hs1)
      have HU1 := Lib.hid hs1
      clear hd1 hs1 hf1 hn1
      unfold fv
      dsimp only
      obtain ⟨e0, he0⟩ : ∃ z, wantL.getD k 0 = z := ⟨_, rfl⟩
      have HE0 := Lib.hid he0
      rw [he0]
      clear he0
      go_upto_region 11 with fail
      obtain ⟨q1, hq1⟩ : ∃ q, u1.heap.size = q := ⟨_, rfl⟩
      obtain ⟨w4, hw4⟩ : ∃ w4, u1.alloc (.cells #[.int .i64 p1, .slice a1 0 c1] 28) = w4 := ⟨_, rfl⟩
      have HS4' := Lib.hid (show Since w w4 from by rw [← hw4]; exact HS12.out.trans ((Since.refl u1).alloc _))
      have HB4 := Lib.hid (show HeapIs w4 q1 #[.int .i64 p1, .slice a1 0 c1] 28 from by rw [← hw4, ← hq1]; exact HeapIs.new u1 _ _)
      have HT4 := Lib.hid (show Since w2 w4 from by rw [← hw4]; exact HU1.out.trans ((Since.refl u1).alloc _))
      rw [hw4]
      try rw [hq1]
      clear hw4 hq1 z0 z1
      go_wp2_with fail
      refine (parse_any _ w4 (by simp only [ByteArray.size_append]; exact Nat.le_trans (Nat.add_le_add hsz (Nat.le_refl _)) (by decide)) (HL.out.keep HS4'.out)).mono ?_
      rintro e u2 ⟨f2, line2, er2, rfl, hf2, hd2, hs2⟩
      rw [HE2.out _ (by kernel_rfl)] at hd2
      obtain ⟨p2, b2, v2⟩ := f2
      obtain ⟨a2, c2, e2, _⟩ := RowIn.shape hf2
      obtain ⟨n2, hn2⟩ : ∃ n, b2.length = n := ⟨_, rfl⟩
      replace e2 : v2 = .slice a2 n2 c2 := by rw [← hn2]; exact e2
      subst e2
      have hl2 : line2 = _ := congrArg PRes.line hd2
      have hr2 : er2 = _ := congrArg PRes.e hd2
      have hp2 : p2 = _ := congrArg (fun r => r.f.params) hd2
      have hq2 : n2 = (parseS (baseS ++ List.replicate i 10 ++ goodS)).f.blocks.length := by
        have h : (b2.map FBlk.d).length = _ := congrArg (fun r => r.f.blocks.length) hd2
        rw [List.length_map] at h
        rw [← hn2]; exact h
      rw [HLG.out.1.1] at hr2
      rw [HLG.out.1.2.1] at hq2
      rw [HLG.out.1.2.2] at hp2
      subst hr2 hq2 hp2
      clear hl2
      have HS6 := Lib.hid (HS4'.out.trans hs2)
      have HU2 := Lib.hid hs2
      clear hd2 hs2 hf2 hn2
      unfold fv
      dsimp only
      go_upto_region 12 with fail
      obtain ⟨q2, hq2⟩ : ∃ q, u2.heap.size = q := ⟨_, rfl⟩
      obtain ⟨w6, hw6⟩ : ∃ w6, u2.alloc (.cells #[.int .i64 2, .slice a2 2 c2] 28) = w6 := ⟨_, rfl⟩
      have HS7 := Lib.hid (show Since w w6 from by rw [← hw6]; exact HS6.out.trans ((Since.refl u2).alloc _))
      have HB6 := Lib.hid (show HeapIs w6 q2 #[.int .i64 2, .slice a2 2 c2] 28 from by rw [← hw6, ← hq2]; exact HeapIs.new u2 _ _)
      have HT6 := Lib.hid (show Since w4 w6 from by rw [← hw6]; exact HU2.out.trans ((Since.refl u2).alloc _))
      rw [hw6]
      try rw [hq2]
      clear hw6 hq2
      go_wp2_with fail
      refine (parse_any (y) w6 (Nat.le_trans hsz (by decide)) (HL.out.keep HS7.out)).mono ?_
      rintro e u3 ⟨f3, line3, er3, rfl, hf3, hd3, hs3⟩
      obtain ⟨p3, b3, v3⟩ := f3
      obtain ⟨a3, c3, e3, _⟩ := RowIn.shape hf3
      obtain ⟨n3, hn3⟩ : ∃ n, b3.length = n := ⟨_, rfl⟩
      replace e3 : v3 = .slice a3 n3 c3 := by rw [← hn3]; exact e3
      subst e3
      have hl3 : line3 = _ := congrArg PRes.line hd3
      have hr3 : er3 = _ := congrArg PRes.e hd3
      have hp3 : p3 = (parseS (y).data.toList).f.params := congrArg (fun r => r.f.params) hd3
      have hq3 : n3 = (parseS (y).data.toList).f.blocks.length := by
        have h : (b3.map FBlk.d).length = _ := congrArg (fun r => r.f.blocks.length) hd3
        rw [List.length_map] at h
        rw [← hn3]; exact h
      rw [HYD.out, HLG.out.2.2] at hl3
      rw [HYD.out, HLG.out.2.1] at hr3
      subst hl3 hr3
      clear hp3 hq3
      have HS8 := Lib.hid (HS7.out.trans hs3)
      have HU3 := Lib.hid hs3
      clear hd3 hs3 hf3 hn3
      unfold fv
      dsimp only
      go_upto_region 13 with fail
      obtain ⟨w8, hw8⟩ : ∃ w8, u3.alloc (.cells #[.int .i64 p3, .slice a3 n3 c3] 28) = w8 := ⟨_, rfl⟩
      have HS9 := Lib.hid (show Since w w8 from by rw [← hw8]; exact HS8.out.trans ((Since.refl u3).alloc _))
      have HT8 := Lib.hid (show Since w6 w8 from by rw [← hw8]; exact HU3.out.trans ((Since.refl u3).alloc _))
      rw [hw8]
      clear hw8
      have hT := (HB2.out.keep HT4.out).keep (HT6.out.trans HT8.out)
      have z0 : w8.cell? ⟨q0, k, none⟩ = some (.int .i64 e0) := by
        rw [table_cell w8 _ _ k q0 hT, List.getElem?_map, List.getElem?_eq_getElem (show k < wantL.length from hk24), ← HE0.out, List.getD_eq_getElem?_getD, List.getElem?_eq_getElem (show k < wantL.length from hk24)]; rfl
      have z1 := hT.lt
      have g1 := HB4.out.keep (HT6.out.trans HT8.out)
      have g2 := HB6.out.keep HT8.out
      have z2 := g1.cell 1
      have z3 := g1.lt
      have z4 := g2.cell 0
      have z5 := g2.cell 1
      have z6 := g2.lt
      clear hT g1 g2
      go_wp2
      go_ret
      exact ⟨rfl, HS9.out⟩
end Go.Proofs.YtmhojfpidedjeaaDoor
