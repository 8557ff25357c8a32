/- order.Check. -/
import Derived.Test.YtkpbmbhejpmboaaBlocks
import Derived.Test.YtkpbmbhejpmboaaRegion4
namespace Go.Proofs.Ytkpbmbhejpmboaa
open Go.RowKit
set_option linter.unusedVariables false

/-- The first block that is wrong, from block j on. -/
def checkGo : List BlkV → List BlkV → Nat → Option (Nat × Nat)
  | p :: ps, q :: qs, j => if (blocksE p q).2 then checkGo ps qs (j + 1) else some (j, (blocksE p q).1)
  | _, _, _ => none
def headB (p q : PrgV) : Bool := p.params == q.params && (p.k == q.k && (p.slots == q.slots && decide (p.blocks.length = q.blocks.length)))
def chkOut : Option (Nat × Nat) → Int × Nat × Nat
  | some (j, i) => (50, j, i)
  | none => (0, 0, 0)
def checkE (p q : PrgV) : Int × Nat × Nat :=
  if rightB p && rightB q then if headB p q then chkOut (checkGo p.blocks q.blocks 0) else (50, 0, 0) else (1, 0, 0)
def CkAt (ps qs : List BlkV) (k : Nat) : Prop := checkGo ps qs 0 = checkGo (ps.drop k) (qs.drop k) k
theorem CkAt.start (ps qs : List BlkV) : CkAt ps qs 0 := rfl
theorem CkAt.next {ps qs : List BlkV} {k : Nat} {p q : BlkV} (h : CkAt ps qs k) (hp : ps[k]? = some p) (hq : qs[k]? = some q) (ho : (blocksE p q).2 = true) : CkAt ps qs (k + 1) := by
  unfold CkAt at *
  rw [h, List.drop_eq_getElem_cons (List.getElem?_eq_some_iff.1 hp).1, (List.getElem?_eq_some_iff.1 hp).2, List.drop_eq_getElem_cons (List.getElem?_eq_some_iff.1 hq).1, (List.getElem?_eq_some_iff.1 hq).2]
  show (if (blocksE p q).2 then _ else _) = _
  rw [if_pos ho]
theorem CkAt.bad {ps qs : List BlkV} {k : Nat} {p q : BlkV} (h : CkAt ps qs k) (hp : ps[k]? = some p) (hq : qs[k]? = some q) (ho : (blocksE p q).2 = false) : checkGo ps qs 0 = some (k, (blocksE p q).1) := by
  unfold CkAt at h
  rw [h, List.drop_eq_getElem_cons (List.getElem?_eq_some_iff.1 hp).1, (List.getElem?_eq_some_iff.1 hp).2, List.drop_eq_getElem_cons (List.getElem?_eq_some_iff.1 hq).1, (List.getElem?_eq_some_iff.1 hq).2]
  show (if (blocksE p q).2 then _ else _) = _
  rw [ho]; rfl
theorem CkAt.done {ps qs : List BlkV} (h : CkAt ps qs ps.length) : checkGo ps qs 0 = none := by
  unfold CkAt at h
  rw [h, List.drop_length]; rfl

/-- What the loop over the blocks has in memory. -/
def CSt (w : World) (P Q : Array Value) (wr : World) : Prop :=
  wr.heap[w.heap.size]? = some (.cells P 24 (0, 0)) ∧ wr.heap[w.heap.size + 1]? = some (.cells Q 24 (0, 0)) ∧ Since w wr
theorem CSt.keep {w wr w2 : World} {P Q : Array Value} (h : CSt w P Q wr) (s : Since wr w2) : CSt w P Q w2 :=
  ⟨(s.block _ (lt_at h.1)).trans h.1, (s.block _ (lt_at h.2.1)).trans h.2.1, h.2.2.trans s⟩

set_option maxHeartbeats 4000000 in
set_option maxRecDepth 100000 in
theorem check_any (p q : PrgV) (w : World) (hp : PrgOk w p) (hq : PrgOk w q) : Calls Try.prog 31 #[pv p, pv q] w (ThreeS (checkE p q).1 ((checkE p q).2.1 : Nat) ((checkE p q).2.2 : Nat) w) := by
  have hr1 := fun w2 (s : Since w w2) => right_any p w2 (hp.keep s)
  have hr2 := fun w2 (s : Since w w2) => right_any q w2 (hq.keep s)
  unfold checkE
  obtain ⟨R1, hR1⟩ : ∃ x, rightB p = x := ⟨_, rfl⟩
  obtain ⟨R2, hR2⟩ : ∃ x, rightB q = x := ⟨_, rfl⟩
  rw [hR1] at hr1 ⊢
  rw [hR2] at hr2 ⊢
  clear hR1 hR2
  obtain ⟨pp, pk, ps, pl, pbv⟩ := p
  obtain ⟨qp, qk, qs, ql, qbv⟩ := q
  obtain ⟨hp1, hp2⟩ := hp
  obtain ⟨hq1, hq2⟩ := hq
  dsimp only at hp1 hp2 hq1 hq2
  obtain ⟨pa, pc, rfl, hpm⟩ := hp1.shape
  obtain ⟨qa, qc, rfl, hqm⟩ := hq1.shape
  obtain ⟨pn, hpn⟩ : ∃ x, pl.length = x := ⟨_, rfl⟩
  obtain ⟨qn, hqn⟩ : ∃ x, ql.length = x := ⟨_, rfl⟩
  have HP1 := Lib.hid hp1
  have HQ1 := Lib.hid hq1
  have HPN := Lib.hid hpn
  have HQN := Lib.hid hqn
  unfold pv at hr1 hr2
  dsimp only at hr1 hr2
  rw [hpn] at hr1 hp2
  rw [hqn] at hr2 hq2
  have HR1 := Lib.hid hr1
  have HR2 := Lib.hid hr2
  unfold pv headB
  dsimp only
  rw [hpn, hqn]
  clear hp1 hq1 hpn hqn hpm hqm hr1 hr2
  obtain ⟨E, hE⟩ : ∃ E, (if (R1 && R2) = true then if (pp == qp && (pk == qk && (ps == qs && decide (pn = qn)))) = true then chkOut (checkGo pl ql 0) else (50, 0, 0) else (1, 0, 0)) = E := ⟨_, rfl⟩
  rw [hE]
  have HE := Lib.hid hE
  clear hE
  cases R1
  · have HF := Lib.hid (show E = (1, 0, 0) from by rw [← HE.out]; rfl)
    go_enter Try.func31, Try.ntmps31
    go_wp2_with fail
    refine (HR1.out _ (((Since.refl _).alloc _).alloc _)).mono ?_
    rintro e w1 ⟨rfl, hs1⟩
    go_wp2
    go_ret3
    exact ⟨by rw [HF.out]; rfl, (((Since.refl _).alloc _).alloc _).trans hs1⟩
  cases R2
  · have HF := Lib.hid (show E = (1, 0, 0) from by rw [← HE.out]; rfl)
    go_enter Try.func31, Try.ntmps31
    go_wp2_with fail
    refine (HR1.out _ (((Since.refl _).alloc _).alloc _)).mono ?_
    rintro e w1 ⟨rfl, hs1⟩
    have hcq := fun i => hs1.cell (p := ⟨w.heap.size + 1, i, none⟩) (by simp)
    have hz1 := hs1.size
    simp only [World.size_alloc] at hz1
    have HS1 := Lib.hid ((((Since.refl w).alloc _).alloc _).trans hs1)
    clear hs1
    go_wp2_with fail
    refine (HR2.out _ HS1.out).mono ?_
    rintro e w2 ⟨rfl, hs2⟩
    go_wp2
    go_ret3
    exact ⟨by rw [HF.out]; rfl, HS1.out.trans hs2⟩
  -- both are right
  cases e0 : (pp == qp)
  · have HF := Lib.hid (show E = (50, 0, 0) from by rw [← HE.out, e0]; rfl)
    have n0 : (pp != qp) = true := by rw [bne, e0]; rfl
    clear e0
    go_enter Try.func31, Try.ntmps31
    go_wp2_with fail
    refine (HR1.out _ (((Since.refl _).alloc _).alloc _)).mono ?_
    rintro e w1 ⟨rfl, hs1⟩
    have hcp := fun i => hs1.cell (p := ⟨w.heap.size, i, none⟩) (by simp; omega)
    have hcq := fun i => hs1.cell (p := ⟨w.heap.size + 1, i, none⟩) (by simp)
    have hz1 := hs1.size
    simp only [World.size_alloc] at hz1
    have HS1 := Lib.hid hs1
    clear hs1
    go_wp2_with fail
    refine (HR2.out _ ((((Since.refl w).alloc _).alloc _).trans HS1.out)).mono ?_
    rintro e w2 ⟨rfl, hs2⟩
    have hcp2 := fun i => (hs2.cell (p := ⟨w.heap.size, i, none⟩) (by show w.heap.size < w1.heap.size; omega)).trans (hcp i)
    have hcq2 := fun i => (hs2.cell (p := ⟨w.heap.size + 1, i, none⟩) (by show w.heap.size + 1 < w1.heap.size; omega)).trans (hcq i)
    have hz2 : w.heap.size + 1 < w2.heap.size := by have := hs2.size; omega
    have HS2 := Lib.hid (HS1.out.trans hs2)
    clear hs2 hcp hcq hz1
    go_wp2
    go_ret3
    exact ⟨by rw [HF.out]; rfl, (((Since.refl w).alloc _).alloc _).trans HS2.out⟩
  cases e1 : (pk == qk)
  · have HF := Lib.hid (show E = (50, 0, 0) from by rw [← HE.out, e0, e1]; rfl)
    have n0 : (pp != qp) = false := by rw [bne, e0]; rfl
    have n1 : (pk != qk) = true := by rw [bne, e1]; rfl
    clear e0 e1
    go_enter Try.func31, Try.ntmps31
    go_wp2_with fail
    refine (HR1.out _ (((Since.refl _).alloc _).alloc _)).mono ?_
    rintro e w1 ⟨rfl, hs1⟩
    have hcp := fun i => hs1.cell (p := ⟨w.heap.size, i, none⟩) (by simp; omega)
    have hcq := fun i => hs1.cell (p := ⟨w.heap.size + 1, i, none⟩) (by simp)
    have hz1 := hs1.size
    simp only [World.size_alloc] at hz1
    have HS1 := Lib.hid hs1
    clear hs1
    go_wp2_with fail
    refine (HR2.out _ ((((Since.refl w).alloc _).alloc _).trans HS1.out)).mono ?_
    rintro e w2 ⟨rfl, hs2⟩
    have hcp2 := fun i => (hs2.cell (p := ⟨w.heap.size, i, none⟩) (by show w.heap.size < w1.heap.size; omega)).trans (hcp i)
    have hcq2 := fun i => (hs2.cell (p := ⟨w.heap.size + 1, i, none⟩) (by show w.heap.size + 1 < w1.heap.size; omega)).trans (hcq i)
    have hz2 : w.heap.size + 1 < w2.heap.size := by have := hs2.size; omega
    have HS2 := Lib.hid (HS1.out.trans hs2)
    clear hs2 hcp hcq hz1
    go_wp2
    go_ret3
    exact ⟨by rw [HF.out]; rfl, (((Since.refl w).alloc _).alloc _).trans HS2.out⟩
  cases e2 : (ps == qs)
  · have HF := Lib.hid (show E = (50, 0, 0) from by rw [← HE.out, e0, e1, e2]; rfl)
    have n0 : (pp != qp) = false := by rw [bne, e0]; rfl
    have n1 : (pk != qk) = false := by rw [bne, e1]; rfl
    have n2 : (ps != qs) = true := by rw [bne, e2]; rfl
    clear e0 e1 e2
    go_enter Try.func31, Try.ntmps31
    go_wp2_with fail
    refine (HR1.out _ (((Since.refl _).alloc _).alloc _)).mono ?_
    rintro e w1 ⟨rfl, hs1⟩
    have hcp := fun i => hs1.cell (p := ⟨w.heap.size, i, none⟩) (by simp; omega)
    have hcq := fun i => hs1.cell (p := ⟨w.heap.size + 1, i, none⟩) (by simp)
    have hz1 := hs1.size
    simp only [World.size_alloc] at hz1
    have HS1 := Lib.hid hs1
    clear hs1
    go_wp2_with fail
    refine (HR2.out _ ((((Since.refl w).alloc _).alloc _).trans HS1.out)).mono ?_
    rintro e w2 ⟨rfl, hs2⟩
    have hcp2 := fun i => (hs2.cell (p := ⟨w.heap.size, i, none⟩) (by show w.heap.size < w1.heap.size; omega)).trans (hcp i)
    have hcq2 := fun i => (hs2.cell (p := ⟨w.heap.size + 1, i, none⟩) (by show w.heap.size + 1 < w1.heap.size; omega)).trans (hcq i)
    have hz2 : w.heap.size + 1 < w2.heap.size := by have := hs2.size; omega
    have HS2 := Lib.hid (HS1.out.trans hs2)
    clear hs2 hcp hcq hz1
    go_wp2
    go_ret3
    exact ⟨by rw [HF.out]; rfl, (((Since.refl w).alloc _).alloc _).trans HS2.out⟩
  by_cases hl : pn = qn
  · subst hl
    have nl : ((pn : Int) != (pn : Int)) = false := by simp
    have HF1 := Lib.hid (show E = chkOut (checkGo pl ql 0) from by rw [← HE.out, e0, e1, e2, decide_eq_true rfl]; rfl)
    have n0 : (pp != qp) = false := by rw [bne, e0]; rfl
    have n1 : (pk != qk) = false := by rw [bne, e1]; rfl
    have n2 : (ps != qs) = false := by rw [bne, e2]; rfl
    clear e0 e1 e2
    go_enter Try.func31, Try.ntmps31
    go_wp2_with fail
    refine (HR1.out _ (((Since.refl _).alloc _).alloc _)).mono ?_
    rintro e w1 ⟨rfl, hs1⟩
    have hcp := fun i => hs1.cell (p := ⟨w.heap.size, i, none⟩) (by simp; omega)
    have hcq := fun i => hs1.cell (p := ⟨w.heap.size + 1, i, none⟩) (by simp)
    have hz1 := hs1.size
    simp only [World.size_alloc] at hz1
    have HS1 := Lib.hid hs1
    clear hs1
    go_wp2_with fail
    refine (HR2.out _ ((((Since.refl w).alloc _).alloc _).trans HS1.out)).mono ?_
    rintro e w2 ⟨rfl, hs2⟩
    have hcp2 := fun i => (hs2.cell (p := ⟨w.heap.size, i, none⟩) (by show w.heap.size < w1.heap.size; omega)).trans (hcp i)
    have hcq2 := fun i => (hs2.cell (p := ⟨w.heap.size + 1, i, none⟩) (by show w.heap.size + 1 < w1.heap.size; omega)).trans (hcq i)
    have hz2 : w.heap.size + 1 < w2.heap.size := by have := hs2.size; omega
    have HS2 := Lib.hid (HS1.out.trans hs2)
    clear hs2 hcp hcq hz1
    have hsb : CSt w #[.int .i64 pp, .int .i64 pk, .int .i64 ps, .slice pa pn pc] #[.int .i64 qp, .int .i64 qk, .int .i64 qs, .slice qa pn qc] w2 := ⟨(HS2.out.block _ (by simp; omega)).trans ((((Since.refl _).alloc _).block _ (by simp)).trans (heap_last _ _)), (HS2.out.block _ (by simp)).trans (by have h := heap_last (w.alloc (.cells #[.int .i64 pp, .int .i64 pk, .int .i64 ps, .slice pa pn pc] 24)) (.cells #[.int .i64 qp, .int .i64 qk, .int .i64 qs, .slice qa pn qc] 24); rw [World.size_alloc] at h; exact h), (((Since.refl w).alloc _).alloc _).trans HS2.out⟩
    have HSB := Lib.hid hsb
    clear hsb HR1 HR2
    go_wp2_with fail
    clear hcp2 hcq2 hz2 HS1 HS2
    go_loopw [49] (fun i wr => ∃ k : Nat, k ≤ pn ∧ i = .int .i64 k ∧ CSt w #[.int .i64 pp, .int .i64 pk, .int .i64 ps, .slice pa pn pc] #[.int .i64 qp, .int .i64 qk, .int .i64 qs, .slice qa pn qc] wr ∧ CkAt pl ql k) (fun i _ => pn - (intOf i).toNat)
    case atStart => exact ⟨0, Nat.zero_le _, rfl, HSB.out, CkAt.start _ _⟩
    case round =>
      clear HSB
      obtain ⟨k, hk, rfl, hst, hgo⟩ := hrel
      have HST := Lib.hid hst
      have HGO := Lib.hid hgo
      clear hst hgo
      by_cases hlt : k < pn
      · obtain ⟨B, off, x, rfl, hB, hx, hcx, hokx⟩ := RowIn.at HP1.out (by rw [HPN.out]; exact hlt)
        obtain ⟨B2, off2, y, rfl, hB2, hy, hcy, hoky⟩ := RowIn.at HQ1.out (by rw [HQN.out]; exact hlt)
        have hbl := fun w3 (s : Since w w3) => blocks_any x y w3 (BlkOk.keep _ _ _ hokx s) (BlkOk.keep _ _ _ hoky s)
        obtain ⟨bp, hbp⟩ : ∃ z, (blocksE x y).1 = z := ⟨_, rfl⟩
        obtain ⟨bo, hbo⟩ : ∃ z, (blocksE x y).2 = z := ⟨_, rfl⟩
        have hnext : bo = true → CkAt pl ql (k + 1) := fun e => HGO.out.next hx hy (by rw [hbo, e])
        have hbad : bo = false → checkGo pl ql 0 = some (k, bp) := fun e => by rw [← hbp]; exact HGO.out.bad hx hy (by rw [hbo, e])
        rw [hbp, hbo] at hbl
        obtain ⟨xi, xv, ⟨xo, xa, xb, xt, xtv, xm⟩⟩ := x
        obtain ⟨yi, yv, ⟨yo, ya, yb, yt, ytv, ym⟩⟩ := y
        obtain ⟨x1, x2, hxv, _⟩ := hokx.1.shape
        obtain ⟨y1, y2, hyv, _⟩ := hoky.1.shape
        obtain ⟨x3, x4, hxt⟩ := nums_lenI hokx.2.1
        obtain ⟨y3, y4, hyt⟩ := nums_lenI hoky.2.1
        dsimp only at hxv hyv hxt hyt
        subst hxv
        subst hyv
        subst hxt
        subst hyt
        unfold bkv at hbl
        dsimp only at hbl
        obtain ⟨xn, hxn⟩ : ∃ z, xi.length = z := ⟨_, rfl⟩
        obtain ⟨yn, hyn⟩ : ∃ z, yi.length = z := ⟨_, rfl⟩
        obtain ⟨xtn, hxtn⟩ : ∃ z, xt.length = z := ⟨_, rfl⟩
        obtain ⟨ytn, hytn⟩ : ∃ z, yt.length = z := ⟨_, rfl⟩
        have hcx2 : ∀ t v, (blcells { ins := xi, insv := .slice x1 xn x2, fin := { op := xo, a := xa, b := xb, to := xt, tov := .slice x3 xtn x4, imm := xm } })[t]? = some v → w.cell? ⟨B, off + k * 6 + t, none⟩ = some v := fun t v ht => (hcx t (by have := (List.getElem?_eq_some_iff.1 ht).1; exact this)).trans (by rw [hxn, hxtn]; exact ht)
        have hcy2 : ∀ t v, (blcells { ins := yi, insv := .slice y1 yn y2, fin := { op := yo, a := ya, b := yb, to := yt, tov := .slice y3 ytn y4, imm := ym } })[t]? = some v → w.cell? ⟨B2, off2 + k * 6 + t, none⟩ = some v := fun t v ht => (hcy t (by have := (List.getElem?_eq_some_iff.1 ht).1; exact this)).trans (by rw [hyn, hytn]; exact ht)
        rw [hxn, hyn, hxtn, hytn] at hbl
        have HBL := Lib.hid hbl
        have HNX := Lib.hid hnext
        have HBD := Lib.hid hbad
        have HCX := Lib.hid (fun w3 (s : Since w w3) t v (ht : _ = some v) => (s.cell (p := ⟨B, off + k * 6 + t, none⟩) hB).trans (hcx2 t v ht))
        have HCY := Lib.hid (fun w3 (s : Since w w3) t v (ht : _ = some v) => (s.cell (p := ⟨B2, off2 + k * 6 + t, none⟩) hB2).trans (hcy2 t v ht))
        clear hbl hnext hbad hcx hcy hcx2 hcy2 hxn hyn hxtn hytn hokx hoky hbp hbo hx hy
        go_wp2_with fail
        refine wp_region_since_tail 15 rfl (by decide +kernel) (by decide +kernel) (by decide +kernel) (by decide)
          [Is (.pointer (some ⟨w.heap.size, 3, none⟩)), Is (.slice (some ⟨B, off, none⟩) pn pc), Is (.int .i64 k), Is (.pointer (some ⟨B, off + k * 6, none⟩)), Is (.agg #[.slice x1 xn x2, .int .i64 xo, .int .i64 xa, .int .i64 xb, .slice x3 xtn x4, .int .i32 xm]), Is (.pointer (some ⟨w.heap.size + 1, 3, none⟩)), Is (.slice (some ⟨B2, off2, none⟩) pn qc), Is (.int .i64 k), Is (.pointer (some ⟨B2, off2 + k * 6, none⟩)), Is (.agg #[.slice y1 yn y2, .int .i64 yo, .int .i64 ya, .int .i64 yb, .slice y3 ytn y4, .int .i32 ym]), Is (.tuple #[.int .i64 (bp : Int), .bool bo]), Is (.tuple #[.int .i64 (bp : Int), .bool bo]), Is (.int .i64 (bp : Int)), Is (.bool bo), Is (.int .i64 (bp : Int))]
          (by repeat (first | exact trivial | refine ⟨Is.stable _, ?_⟩ | refine ⟨Any.stable, ?_⟩ | refine ⟨IsNums.stable _ _, ?_⟩)) ⟨?_, ?_, ?_, ?_, ?_, ?_, ?_, ?_, ?_, ?_, ?_, ?_, ?_, ?_, ?_, trivial⟩ ?_
        rotate_right
        · intro vs w4 hs hk
          simp only [List.take, List.drop, putAll, Act.put, KnowsAll, nthF, Is, List.setIfInBounds_toArray, List.set_cons_zero, List.set_cons_succ, Nat.reduceAdd] at hk ⊢
          try simp only [hk]
          have HST4 := Lib.hid (HST.out.keep hs)
          clear hs
          cases bo
          · go_wp2
            go_ret3
            exact ⟨by rw [HF1.out, HBD.out (by trivial)]; rfl, HST4.out.2.2⟩
          · go_wp2
            go_roundw
            case rel => exact ⟨k + 1, by omega, by go_num, HST4.out, HNX.out (by trivial)⟩
            case measure => simp [intOf]; omega
        all_goals
          intro vs w4 hs hk _
          simp only [List.take, putAll, Act.put, Knows, nthF, Is, List.setIfInBounds_toArray, List.set_cons_zero, List.set_cons_succ, Nat.reduceAdd] at hk ⊢
          try simp only [hk]
        · go_wp2
          exact ⟨_, rfl, rfl, Since.refl _⟩
        · have hc := cells_at ((hs.block _ (lt_at HST.out.1)).trans HST.out.1)
          have hl := lt_at ((hs.block _ (lt_at HST.out.1)).trans HST.out.1)
          go_wp2
          exact ⟨_, rfl, rfl, Since.refl _⟩
        · go_wp2
          exact ⟨_, rfl, rfl, Since.refl _⟩
        · go_wp2
          exact ⟨_, rfl, rfl, Since.refl _⟩
        · have c0 := HCX.out w4 (HST.out.2.2.trans hs) 0 _ rfl
          have c1 := HCX.out w4 (HST.out.2.2.trans hs) 1 _ rfl
          have c2 := HCX.out w4 (HST.out.2.2.trans hs) 2 _ rfl
          have c3 := HCX.out w4 (HST.out.2.2.trans hs) 3 _ rfl
          have c4 := HCX.out w4 (HST.out.2.2.trans hs) 4 _ rfl
          have c5 := HCX.out w4 (HST.out.2.2.trans hs) 5 _ rfl
          have hl : B < w4.heap.size := Nat.lt_of_lt_of_le hB (HST.out.2.2.trans hs).size
          rw [Nat.add_zero] at c0
          go_wp2
          exact ⟨_, rfl, rfl, Since.refl _⟩
        · go_wp2
          exact ⟨_, rfl, rfl, Since.refl _⟩
        · have hc := cells_at ((hs.block _ (lt_at HST.out.2.1)).trans HST.out.2.1)
          have hl := lt_at ((hs.block _ (lt_at HST.out.2.1)).trans HST.out.2.1)
          go_wp2
          exact ⟨_, rfl, rfl, Since.refl _⟩
        · go_wp2
          exact ⟨_, rfl, rfl, Since.refl _⟩
        · go_wp2
          exact ⟨_, rfl, rfl, Since.refl _⟩
        · have c0 := HCY.out w4 (HST.out.2.2.trans hs) 0 _ rfl
          have c1 := HCY.out w4 (HST.out.2.2.trans hs) 1 _ rfl
          have c2 := HCY.out w4 (HST.out.2.2.trans hs) 2 _ rfl
          have c3 := HCY.out w4 (HST.out.2.2.trans hs) 3 _ rfl
          have c4 := HCY.out w4 (HST.out.2.2.trans hs) 4 _ rfl
          have c5 := HCY.out w4 (HST.out.2.2.trans hs) 5 _ rfl
          have hl : B2 < w4.heap.size := Nat.lt_of_lt_of_le hB2 (HST.out.2.2.trans hs).size
          rw [Nat.add_zero] at c0
          go_wp2
          exact ⟨_, rfl, rfl, Since.refl _⟩
        · have HC := Lib.hid (HBL.out w4 (HST.out.2.2.trans hs))
          clear hs
          go_wp2_with fail
          refine HC.out.mono ?_
          rintro e w5 ⟨rfl, hs5⟩
          go_wp2
          exact ⟨_, rfl, rfl, hs5⟩
        · go_wp2
          exact ⟨_, rfl, rfl, Since.refl _⟩
        · go_wp2
          exact ⟨_, rfl, rfl, Since.refl _⟩
        · go_wp2
          exact ⟨_, rfl, rfl, Since.refl _⟩
        · go_wp2
          exact ⟨_, rfl, rfl, Since.refl _⟩
      · obtain rfl : pn = k := by omega
        have HF := Lib.hid (show checkGo pl ql 0 = none from CkAt.done (by rw [HPN.out]; exact HGO.out))
        go_wp2
        go_ret3
        exact ⟨by rw [HF1.out, HF.out]; rfl, HST.out.2.2⟩
  · have nl : ((pn : Int) != (qn : Int)) = true := by simp; omega
    have HF := Lib.hid (show E = (50, 0, 0) from by rw [← HE.out, e0, e1, e2, decide_eq_false hl]; rfl)
    have n0 : (pp != qp) = false := by rw [bne, e0]; rfl
    have n1 : (pk != qk) = false := by rw [bne, e1]; rfl
    have n2 : (ps != qs) = false := by rw [bne, e2]; rfl
    clear e0 e1 e2 hl
    go_enter Try.func31, Try.ntmps31
    go_wp2_with fail
    refine (HR1.out _ (((Since.refl _).alloc _).alloc _)).mono ?_
    rintro e w1 ⟨rfl, hs1⟩
    have hcp := fun i => hs1.cell (p := ⟨w.heap.size, i, none⟩) (by simp; omega)
    have hcq := fun i => hs1.cell (p := ⟨w.heap.size + 1, i, none⟩) (by simp)
    have hz1 := hs1.size
    simp only [World.size_alloc] at hz1
    have HS1 := Lib.hid hs1
    clear hs1
    go_wp2_with fail
    refine (HR2.out _ ((((Since.refl w).alloc _).alloc _).trans HS1.out)).mono ?_
    rintro e w2 ⟨rfl, hs2⟩
    have hcp2 := fun i => (hs2.cell (p := ⟨w.heap.size, i, none⟩) (by show w.heap.size < w1.heap.size; omega)).trans (hcp i)
    have hcq2 := fun i => (hs2.cell (p := ⟨w.heap.size + 1, i, none⟩) (by show w.heap.size + 1 < w1.heap.size; omega)).trans (hcq i)
    have hz2 : w.heap.size + 1 < w2.heap.size := by have := hs2.size; omega
    have HS2 := Lib.hid (HS1.out.trans hs2)
    clear hs2 hcp hcq hz1
    go_wp2
    go_ret3
    exact ⟨by rw [HF.out]; rfl, (((Since.refl w).alloc _).alloc _).trans HS2.out⟩
end Go.Proofs.Ytkpbmbhejpmboaa
