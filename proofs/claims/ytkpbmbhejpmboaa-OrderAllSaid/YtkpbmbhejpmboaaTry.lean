/- jacquardlaw17.try. -/
import Derived.Test.YtkpbmbhejpmboaaTryWalk
import Derived.Test.YtkpbmbhejpmboaaRegion11
namespace Go.Proofs.Ytkpbmbhejpmboaa
open Go.RowKit
set_option linter.unusedVariables false

abbrev PRow := OwnRow plcells 9 58
def IsPRow (w0 : World) (xs : List PlV) (v : Value) (w : World) : Prop := PRow w0.heap.size w v xs
theorem IsPRow.stable (w0 : World) (xs : List PlV) : Stable (IsPRow w0 xs) := fun v w w' h s => OwnRow.keep h s
def IsPBlk (w0 : World) (cs : Array Value) (v : Value) (w : World) : Prop := ∃ b, v = .slice (some ⟨b, 0, none⟩) 1 1 ∧ w0.heap.size ≤ b ∧ w.heap[b]? = some (.cells cs 58 (0, 0))
theorem IsPBlk.stable (w0 : World) (cs : Array Value) : Stable (IsPBlk w0 cs) := fun v w w' ⟨b, h1, h2, h3⟩ s => ⟨b, h1, h2, (s.block b (lt_at h3)).trans h3⟩
theorem flat_split {α : Type} (f : α → List Value) (sz : Nat) (hf : ∀ x, (f x).length = sz) (hsz : 0 < sz) (l : List α) (j : Nat) (u : Value) (h : (l.flatMap f)[j]? = some u) : ∃ k t y, j = k * sz + t ∧ l[k]? = some y ∧ t < sz ∧ (f y)[t]? = some u := by
  have hlt := (List.getElem?_eq_some_iff.1 h).1
  rw [flat_len f sz hf] at hlt
  have hk : j / sz < l.length := Nat.div_lt_of_lt_mul (by rw [Nat.mul_comm]; exact hlt)
  have hy : l[j / sz]? = some l[j / sz] := List.getElem?_eq_getElem hk
  have ht := Nat.mod_lt j hsz
  have e : j = j / sz * sz + j % sz := by rw [Nat.mul_comm]; exact (Nat.div_add_mod j sz).symm
  refine ⟨j / sz, j % sz, _, e, hy, ht, ?_⟩
  rw [← flat_at f sz hf l _ _ _ hy ht, ← e]; exact h
theorem own_reads {w0 w : World} {v : Value} {l : List PlV} (h : PRow w0.heap.size w v l) (hp : ∀ x ∈ l, PlOk w x) : Pls w v l := by
  rcases OwnRow.cells plcells_len h with ⟨h1, h2⟩ | ⟨g, cap, h1, h2, h3, _, h4, h5⟩
  · exact .inl ⟨none, h1, h2⟩
  · exact .inr ⟨g, 0, cap, h1, h2, h3, h4, fun j x hj => ⟨fun t ht => by rw [show 0 + j * 9 + t = j * 9 + t from by omega]; exact h5 j t x hj ht, hp x (List.mem_of_getElem? hj)⟩⟩
def IsNilRow (w0 : World) (v : Value) (w : World) : Prop := ∃ b, v = .slice (some ⟨b, 0, none⟩) 0 0 ∧ w0.heap.size ≤ b ∧ w.heap[b]? = some (.cells #[] 58 (0, 0))
theorem IsNilRow.stable (w0 : World) : Stable (IsNilRow w0) := fun v w w' ⟨b, h1, h2, h3⟩ s => ⟨b, h1, h2, (s.block b (lt_at h3)).trans h3⟩
theorem nil_new {w0 w : World} (h : w0.heap.size ≤ w.heap.size) : IsNilRow w0 (.slice (some ⟨w.heap.size, 0, none⟩) 0 0) (w.alloc (.cells #[] 58)) := ⟨_, rfl, h, heap_last _ _⟩
theorem blk_new {w0 w : World} (h : w0.heap.size ≤ w.heap.size) (cs : Array Value) : IsPBlk w0 cs (.slice (some ⟨w.heap.size, 0, none⟩) 1 1) (w.alloc (.cells cs 58)) := ⟨_, rfl, h, heap_last _ _⟩
theorem nil_owns {w0 w : World} {v : Value} (h : IsNilRow w0 v w) : PRow w0.heap.size w v [] := by
  obtain ⟨b, rfl, h2, h3⟩ := h
  exact ⟨by simp, .inr ⟨b, 0, #[], rfl, h2, h3, by simp, by unfold maxLen; omega, by simp, by simp⟩⟩
theorem setRow_same {w : World} {g : Nat} {cur : Array Value} {t : TypeId} (h : w.heap[g]? = some (.cells cur t (0, 0))) : Since w (w.setRow g cur) := by
  refine ⟨rfl, rfl, rfl, by simp [World.setRow], fun k hk => ?_⟩
  by_cases e : k = g
  · subst e
    rw [h]
    simp [World.setRow, Array.getElem?_modify, h]
  · have e2 : ¬ g = k := fun e3 => e e3.symm
    simp [World.setRow, Array.getElem?_modify, e2]
/-- append([]Placed{}, s...): nothing that was there turns. -/
theorem run_append_nil {P : Program} {w0 w : World} {t ty : TypeId} {i : TypeInfo} {z : Value} {bytes : Nat} (ht : P.underlying t = some (.slice 58)) (hi : P.info? 58 = some i) (hz0 : i.zero = some z) (hz1 : i.size = 9) (hz2 : i.bytes = bytes) (hz : z.cells.size = 9) (hby : bytes ≤ 1000)
    {v : Value} (hv : IsNilRow w0 v w) (hle : w0.heap.size ≤ w.heap.size) (a : Addr) (l : List PlV) (c : Nat) (hnews : ∀ (j : Nat) (u : Value), (l.flatMap plcells)[j]? = some u → w.cell? (a.add j) = some u) (h1 : ∀ u ∈ l.flatMap plcells, u.oneCell' = true) (hlen : l.length ≤ 100000) :
    ∃ v' w', (Builtin.append_ #[t, t] ty #[v, .slice (some a) l.length c]).run P w = .ok v' w' ∧ PRow w0.heap.size w' v' l ∧ Since w w' := by
  have hl9 : (l.flatMap plcells).length = l.length * 9 := flat_len plcells 9 plcells_len l
  have hbb : (0 + l.length) * bytes ≤ 140737488355328 := by
    have := Nat.mul_le_mul (show 0 + l.length ≤ 100000 by omega) hby
    omega
  obtain ⟨v', w', hr, h2, _, _⟩ := run_append_own w w0.heap.size t ty 58 i z 9 bytes ht hi hz0 hz1 hz2 hz (by decide) v 0 [] (nil_owns hv) a l.length c (l.flatMap plcells) hl9 hnews h1 (by unfold maxLen; omega) hbb hle
  refine ⟨v', w', hr, by simpa [OwnRow] using h2, ?_⟩
  obtain ⟨b, rfl, hb, hh⟩ := hv
  by_cases hm : l.length = 0
  · obtain rfl : l = [] := List.length_eq_zero_iff.1 hm
    have hr2 := run_append_room (P := P) w t ty 58 i ht hi b 0 0 #[] hh a 0 c [] (by simp) (fun j u h => by cases h) (fun u h => by cases h) (by omega) (by simp)
    rw [show ([] : List PlV).length = 0 from rfl] at hr
    rw [hr] at hr2
    cases hr2
    have e : (List.take (0 * i.size) (#[] : Array Value).toList ++ [] ++ List.drop (0 * i.size + ([] : List Value).length) (#[] : Array Value).toList).toArray = #[] := by simp
    rw [e]
    exact setRow_same hh
  · have hr2 := run_append_grow (P := P) w t ty 58 i z ht hi hz0 ⟨b, 0, none⟩ 0 0 [] (by simp) (fun j u h => by cases h) a l.length c (l.flatMap plcells) (by rw [hz1]; exact hl9) hnews (by omega) (by omega) (growslice_fits (by omega) (by rw [hz2]; exact hbb))
    rw [hr] at hr2
    cases hr2
    exact (Since.refl w).drew.alloc _
theorem wpList_append_pls {P : Program} {w0 w : World} {ops : Array Oper} {rest : List Oper} {o : Oper} {a : Act} {Q : Exit → Act → World → Prop} (hgd : o.guard = none) (s x : Operand) (t : TypeId)
    (ho : o.op = .call { callee := .builtin .append, args := #[s, x], argTypes := #[t, t] })
    (z : Value) (bytes : Nat) (ht : P.underlying t = some (.slice 58)) (hinfo : (P.info? 58).map (fun i => (i.zero, i.size, i.bytes)) = some (some z, 9, bytes)) (hz : z.cells.size = 9) (hby : bytes ≤ 1000)
    (v xv : Value) (l : List PlV) (hs : a.eval s = v) (hx : a.eval x = xv) (hown : IsNilRow w0 v w) (hl : Pls w xv l) (hlen : l.length ≤ 100000) (hav : ∀ x ∈ l, x.av.oneCell' = true) (hle : w0.heap.size ≤ w.heap.size)
    (h : ∀ v' w', PRow w0.heap.size w' v' l → Since w w' → wpList P ops Q rest (a.put o.dst v') w') : wpList P ops Q (o :: rest) a w := by
  obtain ⟨i, hi, hz0, hz1, hz2⟩ := info_parts hinfo
  have key : ∀ (ad : Addr) (c : Nat), a.eval x = .slice (some ad) l.length c → (∀ (j : Nat) (u : Value), (l.flatMap plcells)[j]? = some u → w.cell? (ad.add j) = some u) → (∀ u ∈ l.flatMap plcells, u.oneCell' = true) → wpList P ops Q (o :: rest) a w := fun ad c hx2 hnews h1 => by
    refine wpList_plain hgd fun _ hK => ?_
    obtain ⟨v', w', hr, h2, h3⟩ := run_append_nil (P := P) (t := t) (ty := o.type) ht hi hz0 hz1 hz2 hz hby hown hle ad l c hnews h1 hlen
    unfold Oper.wp execOp
    simp only [ho, resolve, invoke, builtin, Sem.run_bind, Sem.run_pure, Result.andThen_ok, List.map_toArray, List.map_cons, List.map_nil, hs, hx2, hr]
    exact hK _ _ (h v' w' h2 h3)
  rcases hl with ⟨ad, hv, rfl⟩ | ⟨b, off, cap, hv, hcap, hmax, hb, hcell⟩
  · cases ad with
    | none => exact wpList_append_own_none hgd s x t ho w0.heap.size 58 i 9 ht hi v _ _ hs (nil_owns hown) (hx.trans hv) (h v w (nil_owns hown) (Since.refl w))
    | some ad => exact key ad 0 (hx.trans hv) (fun j u hu => by cases hu) (fun u hu => by cases hu)
  · refine key ⟨b, off, none⟩ cap (hx.trans hv) ?_ ?_
    · intro j u hu
      obtain ⟨k, t2, y, hj, hy, ht2, hu2⟩ := flat_split plcells 9 plcells_len (by decide) l j u hu
      have := (hcell k y hy).1 t2 ht2
      rw [hu2] at this
      unfold Addr.add
      split
      · rename_i h0
        subst h0
        rw [show off + k * 9 + t2 = off from by omega] at this
        exact this
      · show w.cell? ⟨b, off + j, none⟩ = some u
        rw [hj, ← Nat.add_assoc]; exact this
    · intro u hu
      obtain ⟨y, hy, hu2⟩ := List.mem_flatMap.1 hu
      have := hav y hy
      simp only [plcells, List.mem_cons, List.not_mem_nil, or_false] at hu2
      rcases hu2 with rfl | rfl | rfl | rfl | rfl | rfl | rfl | rfl | rfl <;> first | rfl | exact this

def tterm (ok : Bool) (d : Nat → Nat → Bool) (n g t : Nat) : Int := if ok then term (bhs d n) n g t else 0
theorem psum_none (k : Nat) (d : Nat → Nat → Bool) (n g : Nat) : psum (tterm false d n g) k = 0 := by
  induction k with
  | zero => rfl
  | succ k ih => show psum (tterm false d n g) k + tterm false d n g k = 0; rw [ih]; rfl
theorem psum_ok (k : Nat) (d : Nat → Nat → Bool) (n g : Nat) : psum (tterm true d n g) k = psum (term (bhs d n) n g) k := psum_congr k fun i _ => rfl

theorem nodup_val {n : Nat} : ∀ {s : List (Fin n)}, s.Nodup → (s.map Fin.val).Nodup
  | [], _ => List.nodup_nil
  | i :: r, h => by
    have h2 := List.nodup_cons.1 h
    rw [List.map_cons]
    refine List.nodup_cons.2 ⟨fun e => ?_, nodup_val h2.2⟩
    obtain ⟨j, hj, he⟩ := List.mem_map.1 e
    exact h2.1 (Fin.ext he ▸ hj)
theorem own_emptyP {w0 w : World} (h : w0.heap.size ≤ w.heap.size) : IsPRow w0 [] (.slice (some ⟨w.heap.size, 0, none⟩) 0 0) (w.alloc (.cells #[] 58)) :=
  ⟨by simp, .inr ⟨w.heap.size, 0, #[], rfl, h, heap_last _ _, by simp, by unfold maxLen; omega, by simp, by simp⟩⟩
theorem tterm_bound (ok : Bool) (d : Nat → Nat → Bool) (n g i : Nat) (hn : n ≤ 12) : 0 ≤ tterm ok d n g i ∧ tterm ok d n g i ≤ 23298085122481 := by
  unfold tterm; split
  · exact term_bound _ n g i hn
  · omega
theorem nodup_snoc {n : Nat} : ∀ {s : List (Fin n)} {k : Fin n}, s.Nodup → k ∉ s → (s ++ [k]).Nodup
  | [], k, _, _ => by simp
  | i :: r, k, h, hk => by
    have h2 := List.nodup_cons.1 h
    rw [List.cons_append]
    refine List.nodup_cons.2 ⟨fun e => ?_, nodup_snoc h2.2 fun e => hk (List.mem_cons_of_mem _ e)⟩
    rcases List.mem_append.1 e with e | e
    · exact h2.1 e
    · exact hk (by rw [← List.mem_singleton.1 e]; exact List.mem_cons_self)
theorem own_low {w0 w : World} {xs : List PlV} {v : Value} (h : IsPRow w0 xs v w) : ∀ q, v.ownBlock = some q → w0.heap.size ≤ q := by
  intro r hr
  obtain ⟨_, ⟨hv, _⟩ | ⟨g, cap, cur, hv, hg, _⟩⟩ := h
  · subst hv; cases hr
  · subst hv; cases hr; exact hg
theorem pls_set {w : World} {v : Value} {S : List PlV} {gb k : Nat} {y : Value} (h : Pls w v S) (hne : ∀ q, v.ownBlock = some q → q ≠ gb) (hp : ∀ x ∈ S, PlOk (w.setCell ⟨gb, k, none⟩ y) x) : Pls (w.setCell ⟨gb, k, none⟩ y) v S := by
  rcases h with h | ⟨b, off, cap, h1, h2, h3, h4, h5⟩
  · exact .inl h
  · have hb : b ≠ gb := hne b (by rw [h1]; rfl)
    refine .inr ⟨b, off, cap, h1, h2, h3, by simp [World.setCell]; exact h4, fun j x hj => ⟨fun t ht => ?_, hp x (List.mem_of_getElem? hj)⟩⟩
    rw [← (h5 j x hj).1 t ht]
    unfold World.cell?
    rw [setCell_other hb]
def PZ : Value := .agg #[.int .i64 0, .int .i64 0, .int .i64 0, .int .i64 0, .int .i64 0, .int .i64 0, .int .i32 0, .slice none 0 0, .int .i64 0]
set_option maxHeartbeats 8000000 in
set_option maxRecDepth 100000 in
theorem try_any (l : List PlV) (lv : Value) (hnum : Numbered l) (hok : ∀ x ∈ l, insE x.m 16 20 = 0) (hav : ∀ x ∈ l, x.av.oneCell' = true) (w0 : World) (h0 : Pls w0 lv l) (hn : l.length ≤ 5) (gb : Nat) (hgb : w0.heap.size ≤ gb) :
    ∀ (f : Nat) (s : List (Fin l.length)) (bv : Value) (w : World), unset l.length (bitsOf (s.map Fin.val) 0) < f → s.Nodup → Since w0 w → Pls w bv (s.map l.get) → (∀ q, bv.ownBlock = some q → q ≠ gb) → GoneAt w gb l.length (bitsOf (s.map Fin.val) 0) →
    Calls Try.prog 36 #[lv, bv, .slice (some ⟨gb, 0, none⟩) l.length l.length] w (NumI (if okGo (depL l) (s.map Fin.val) 0 then cnt (bhs (depL l) l.length) l.length (bitsOf (s.map Fin.val) 0) else 0) w) := by
  intro f
  induction f with
  | zero => intro s bv w h; omega
  | succ f ih =>
    intro s bv w hf hnd hs0 hbr hbg hga
    obtain ⟨la, lc, hlv, hlm⟩ := h0.shape
    obtain ⟨ba, bc, hbv, hbm⟩ := hbr.shape
    subst hlv
    subst hbv
    have hun := unset_bits l.length (s.map Fin.val) 0 (fun t ht => by obtain ⟨k, _, rfl⟩ := List.mem_map.1 ht; exact ⟨k.isLt, by simp⟩) (nodup_val hnd)
    rw [unset_zero, List.length_map] at hun
    have hg := bits_lt l.length (s.map Fin.val) 0 (fun t ht => by obtain ⟨k, _, rfl⟩ := List.mem_map.1 ht; exact k.isLt) (Nat.pow_pos (by decide))
    have hmem := fun t => bits_mem (s.map Fin.val) 0 t
    obtain ⟨g, hgg⟩ : ∃ g, bitsOf (s.map Fin.val) 0 = g := ⟨_, rfl⟩
    obtain ⟨ok, hokg⟩ : ∃ b, okGo (depL l) (s.map Fin.val) 0 = b := ⟨_, rfl⟩
    obtain ⟨S, hS⟩ : ∃ S, s.map l.get = S := ⟨_, rfl⟩
    obtain ⟨n, hnn⟩ : ∃ n, l.length = n := ⟨_, rfl⟩
    obtain ⟨bn, hbn⟩ : ∃ n, S.length = n := ⟨_, rfl⟩
    have hsb : s.length = bn := by rw [← hbn, ← hS, List.length_map]
    rw [hgg] at hun hg hmem hga hf ⊢
    rw [hokg]
    rw [hS] at hbr hbm hbg ⊢
    rw [hbn] at hbr hbm hbg ⊢
    rw [hsb] at hun
    rw [hnn] at hlm hun hg hga hf hn ⊢
    have HBG := Lib.hid hbg
    have H0 := Lib.hid h0
    have HBR := Lib.hid hbr
    have HGA := Lib.hid hga
    have HS0 := Lib.hid hs0
    have IH := Lib.hid ih
    have HNUM := Lib.hid hnum
    have HOK := Lib.hid hok
    have HAV := Lib.hid hav
    have HND := Lib.hid hnd
    have HGG := Lib.hid hgg
    have HOKG := Lib.hid hokg
    have HS := Lib.hid hS
    have HNN := Lib.hid hnn
    have HBN := Lib.hid hbn
    have HSB := Lib.hid hsb
    have HMEM := Lib.hid hmem
    have HG := Lib.hid hg
    have HUN := Lib.hid hun
    have hbn5 : bn ≤ n := by omega
    unfold maxLen at hlm hbm
    clear hbg h0 hbr hga hs0 ih hnum hok hav hnd hgg hokg hS hnn hbn hsb hmem hg
    obtain ⟨R, hR⟩ : ∃ R, (if ok = true then cnt (bhs (depL l) n) n g else 0) = R := ⟨_, rfl⟩
    rw [hR]
    have HR := Lib.hid hR
    clear hR
    by_cases hfull : bn = n
    · subst hfull
      have hq : ((bn : Int) == (bn : Int)) = true := by simp
      have hu0 : unset bn g = 0 := by omega
      have HC1 := Lib.hid (show cnt (bhs (depL l) bn) bn g = 1 from by rw [(unset_full bn g HG.out).1 hu0]; exact cnt_full _ _)
      have hp1 := program_any l (.slice la bn lc) w (RowIn.keep PlOk.keep (by have h := H0.out; rw [HNN.out] at h; exact h) HS0.out) (by have := HNN.out; omega)
      have HP1 := Lib.hid hp1
      clear hun hf hu0 hp1
      go_enter Try.func36, Try.ntmps36
      go_wp2_with fail
      refine HP1.out.mono ?_
      rintro e w1 ⟨x1, rfl, hk1, hs1⟩
      have HK1 := Lib.hid hk1
      have HS1 := Lib.hid hs1
      clear hk1 hs1
      obtain ⟨xa, xc, hx1, _⟩ := HK1.out.1.shape
      have hx1 : x1 = .slice xa 1 xc := hx1
      subst hx1
      have hp2 := program_any S (.slice ba bn bc) w1 (RowIn.keep PlOk.keep (by have h := HBR.out; rw [← HBN.out] at h ⊢; exact h) HS1.out) (by have := HBN.out; omega)
      have HP2 := Lib.hid hp2
      clear hp2
      unfold pv prgR
      dsimp only
      go_wp2_with fail
      refine HP2.out.mono ?_
      rintro e w2 ⟨x2, rfl, hk2, hs2⟩
      obtain ⟨ya, yc, hx2, _⟩ := hk2.1.shape
      have hx2 : x2 = .slice ya 1 yc := hx2
      subst hx2
      have hck := check_any _ _ w2 (HK1.out.keep hs2) hk2
      have hlf := leaf_ok HNUM.out (by have := HNN.out; omega) HOK.out s (by rw [HSB.out, HNN.out]) HND.out (.slice la bn lc) (.slice ba bn bc) (.slice xa 1 xc) (.slice ya 1 yc)
      rw [HOKG.out, HS.out] at hlf
      obtain ⟨E, hE⟩ : ∃ E, checkE (prgR l (.slice la bn lc) (.slice xa 1 xc)) (prgR S (.slice ba bn bc) (.slice ya 1 yc)) = E := ⟨_, rfl⟩
      rw [hE] at hck hlf
      obtain ⟨E1, E2, E3⟩ := E
      dsimp only at hck hlf
      have HCK := Lib.hid hck
      have HS2 := Lib.hid (HS1.out.trans hs2)
      clear hk2 hs2 hck hE
      unfold pv prgR at HCK ⊢
      dsimp only at HCK ⊢
      cases ok
      · obtain rfl : E1 = 50 := hlf
        go_wp2_with fail
        refine HCK.out.mono ?_
        rintro e w3 ⟨rfl, hs3⟩
        go_wp2
        go_ret
        exact ⟨by rw [← HR.out]; rfl, HS2.out.trans hs3⟩
      · obtain rfl : E1 = 0 := hlf
        go_wp2_with fail
        refine HCK.out.mono ?_
        rintro e w3 ⟨rfl, hs3⟩
        go_wp2
        go_ret
        exact ⟨by rw [show R = 1 from by rw [← HR.out, HC1.out]; rfl]; rfl, HS2.out.trans hs3⟩
    · have hq : ((bn : Int) == (n : Int)) = false := by simp; omega
      have hpi : (Try.prog.info? 58).map (fun i => (i.zero, i.size, i.bytes)) = some (some PZ, 9, 88) := by kernel_rfl
      have HPI := Lib.hid hpi
      have hun1 : unset n g ≠ 0 := by omega
      have HF := Lib.hid hf
      clear hun hf hpi
      go_enter Try.func36, Try.ntmps36
      go_wp2
      go_loopw [10, 11] (fun sm i wr => ∃ k : Nat, k ≤ n ∧ i = .int .i64 k ∧ sm = .int .i64 (psum (tterm ok (depL l) n g) k) ∧ Since w wr) (fun _ i _ => n - (intOf i).toNat)
      case atStart => exact ⟨0, Nat.zero_le _, rfl, rfl, Since.refl _⟩
      case round =>
        obtain ⟨k, hk, rfl, rfl, hsr⟩ := hrel
        have HSR := Lib.hid hsr
        clear hsr
        by_cases hlt : k < n
        · have hck := (HGA.out.keep HSR.out).cell hlt
          have hps : psum (tterm ok (depL l) n g) (k + 1) = psum (tterm ok (depL l) n g) k + tterm ok (depL l) n g k := rfl
          have hbd := psum_bound (t := tterm ok (depL l) n g) (B := 23298085122481) k (fun i _ => tterm_bound ok (depL l) n g i (by omega))
          have hte := term_eq (depL l) n g k (by omega) hlt HG.out
          have hb1 : 0 ≤ psum (tterm ok (depL l) n g) k := hbd.1
          have hb2 : psum (tterm ok (depL l) n g) k ≤ 300000000000000 := by
            have := hbd.2
            have : (k : Int) * 23298085122481 ≤ 12 * 23298085122481 := Int.mul_le_mul_of_nonneg_right (by omega) (by omega)
            omega
          have HPS := Lib.hid hps
          have HTE := Lib.hid hte
          clear hps hbd hte
          cases hbit : g.testBit k with
          | true =>
            have hz : tterm ok (depL l) n g k = 0 := by unfold tterm; rw [HTE.out, hbit]; cases ok <;> rfl
            have HZ := Lib.hid hz
            rw [hbit] at hck
            clear hbit hz
            generalize psum (tterm ok (depL l) n g) k = sm at *
            go_wp2
            go_roundw
            case rel => exact ⟨k + 1, by omega, by go_num, by rw [HPS.out, HZ.out, Int.add_zero], HSR.out⟩
            case measure => simp [intOf]; omega
          | false =>
            have hkl : k < l.length := by have := HNN.out; omega
            obtain ⟨s2, hs2⟩ : ∃ s2, s2 = s ++ [(⟨k, hkl⟩ : Fin l.length)] := ⟨_, rfl⟩
            have hv2 : s2.map Fin.val = s.map Fin.val ++ [k] := by rw [hs2, List.map_append]; rfl
            have hb2' : bitsOf (s2.map Fin.val) 0 = g ||| 2 ^ k := by rw [hv2, bitsOf_snoc, HGG.out]
            have ho2 : okGo (depL l) (s2.map Fin.val) 0 = (ok && readyB (depL l) g k k) := by rw [hv2, okGo_snoc, HOKG.out, HGG.out]
            have hnd2 : s2.Nodup := by
              rw [hs2]
              refine nodup_snoc HND.out fun h => ?_
              have h1 := HMEM.out k
              rw [hbit] at h1
              have h2 : k ∈ s.map Fin.val := List.mem_map.2 ⟨_, h, rfl⟩
              rw [decide_eq_true h2, Bool.or_true] at h1
              cases h1
            obtain ⟨X, hX⟩ : ∃ X, X = l.get ⟨k, hkl⟩ := ⟨_, rfl⟩
            have hm2 : s2.map l.get = S ++ [X] := by rw [hs2, List.map_append, HS.out, hX]; rfl
            have hu := unset_or n g k hlt hbit
            have hcv : (if (ok && readyB (depL l) g k k) = true then cnt (bhs (depL l) n) n (g ||| 2 ^ k) else 0) = tterm ok (depL l) n g k := by
              unfold tterm
              rw [HTE.out, hbit]
              cases ok <;> cases readyB (depL l) g k k <;> rfl
            have hcall : ∀ (bv2 : Value) (w2 : World), Since w0 w2 → Pls w2 bv2 (S ++ [X]) → (∀ q, bv2.ownBlock = some q → q ≠ gb) → GoneAt w2 gb n (g ||| 2 ^ k) → Calls Try.prog 36 #[.slice la n lc, bv2, .slice (some ⟨gb, 0, none⟩) n n] w2 (NumI (tterm ok (depL l) n g k) w2) := fun bv2 w2 g1 g2 g4 g3 => by
              have h := IH.out s2 bv2 w2 (by rw [hb2', HNN.out]; have := HF.out; omega) hnd2 g1 (by rw [hm2]; exact g2) g4 (by rw [hb2', HNN.out]; exact g3)
              rw [ho2, hb2', HNN.out, hcv] at h
              exact h
            have hga := HGA.out.keep HSR.out
            have hfz := hga.open k
            have hset := hga.set k hlt
            have hback := fun w2 s => gone_back (w2 := w2) hga hlt hbit s
            rw [hbit] at hck
            have hbc := tterm_bound ok (depL l) n g k (by omega : n ≤ 12)
            have hgl := hga.lt
            have hset0 := set_since (HS0.out.trans HSR.out) hgb (.bool true) (a := ⟨gb, k, none⟩)
            obtain ⟨B, off, x, hla, hB, hx, hcx, hokx⟩ := RowIn.at H0.out hkl
            obtain rfl : X = x := by rw [List.getElem?_eq_getElem hkl] at hx; rw [hX]; exact Option.some.inj hx
            subst hla
            have HCALL := Lib.hid hcall
            have HSET := Lib.hid hset
            have HBACK := Lib.hid hback
            have HSET0 := Lib.hid hset0
            have HOKX := Lib.hid hokx
            have hpok : ∀ y ∈ S ++ [X], PlOk w0 y := fun y hy => by
              rcases List.mem_append.1 hy with h | h
              · rw [← HS.out] at h
                obtain ⟨j, _, rfl⟩ := List.mem_map.1 h
                obtain ⟨_, _, z, _, _, h3, _, h5⟩ := RowIn.at H0.out j.isLt
                rw [List.getElem?_eq_getElem j.isLt] at h3
                obtain rfl := Option.some.inj h3
                exact h5
              · obtain rfl := List.mem_singleton.1 h
                exact hokx
            have hsav : ∀ y ∈ S ++ [X], y.av.oneCell' = true := fun y hy => by
              obtain ⟨a1, a2, h⟩ := nums_lenI (hpok y hy).1
              rw [h]; rfl
            have HPOK := Lib.hid hpok
            have HSAV := Lib.hid (fun y hy => hsav y (List.mem_append_left _ hy))
            have HXAV := Lib.hid (show ∀ u ∈ plcells X, u.oneCell' = true from fun u hu => by
              have := hsav X (List.mem_append_right _ (List.mem_singleton.2 rfl))
              simp only [plcells, List.mem_cons, List.not_mem_nil, or_false] at hu
              rcases hu with rfl | rfl | rfl | rfl | rfl | rfl | rfl | rfl | rfl <;> first | rfl | exact this)
            have HSL := Lib.hid (show S.length ≤ 5 from by have := HBN.out; omega)
            obtain ⟨⟨xo, xd, xe, xa, xb, xc, xi, xr⟩, xv, xs⟩ := X
            obtain ⟨xva, xvc, hxv⟩ := nums_lenI hokx.1
            dsimp only at hxv
            subst hxv
            obtain ⟨xl, hxl⟩ : ∃ q, xr.length = q := ⟨_, rfl⟩
            have hQ : ∀ w2 (g : Since w0 w2) t v, (#[.int .i64 xo, .int .i64 xd, .int .i64 xe, .int .i64 xa, .int .i64 xb, .int .i64 xc, .int .i32 xi, .slice xva xl xvc, .int .i64 xs] : Array Value)[t]? = some v → w2.cell? ⟨B, off + k * 9 + t, none⟩ = some v := fun w2 g t v ht => (g.cell (p := ⟨B, off + k * 9 + t, none⟩) hB).trans ((hcx t (by have := (Array.getElem?_eq_some_iff.1 ht).1; exact this)).trans (by rw [← ht, ← hxl, ← List.getElem?_toArray]; rfl))
            have HQ := Lib.hid hQ
            have HXP := Lib.hid (show (plcells { m := { op := xo, d := xd, e := xe, a := xa, b := xb, c := xc, imm := xi, args := xr }, av := .slice xva xr.length xvc, src := xs }).toArray = #[.int .i64 xo, .int .i64 xd, .int .i64 xe, .int .i64 xa, .int .i64 xb, .int .i64 xc, .int .i32 xi, .slice xva xl xvc, .int .i64 xs] from by rw [hxl]; rfl)
            obtain ⟨XX, hXX⟩ : ∃ XX : PlV, XX = { m := { op := xo, d := xd, e := xe, a := xa, b := xb, c := xc, imm := xi, args := xr }, av := .slice xva xr.length xvc, src := xs } := ⟨_, rfl⟩
            rw [← hXX] at HCALL HPOK HXAV HXP
            obtain ⟨c, hc⟩ : ∃ c, tterm ok (depL l) n g k = c := ⟨_, rfl⟩
            rw [hc] at hbc HPS HCALL
            obtain ⟨hbc0, hbc1⟩ := hbc
            generalize psum (tterm ok (depL l) n g) k = sm at *
            clear hs2 hv2 hb2' ho2 hnd2 hX hm2 hu hcv hcall hga hset hback hset0 hx hcx hokx hpok hsav hxl hQ hXX hc hbit hkl
            go_wp2_with fail
            obtain ⟨WA, hWA⟩ : ∃ WA, WA = wr.setCell ⟨gb, k, none⟩ (.bool true) := ⟨_, rfl⟩
            rw [← hWA] at HSET HBACK HSET0 ⊢
            have hbrA : Pls WA (.slice ba bn bc) S := by rw [hWA]; exact pls_set (RowIn.keep PlOk.keep HBR.out HSR.out) HBG.out (fun y hy => by rw [← hWA]; exact PlOk.keep _ _ y (HPOK.out y (List.mem_append_left _ hy)) HSET0.out)
            have HBRA := Lib.hid hbrA
            have HSW := HSET0
            clear hWA
            refine wp_region_windows3 [true, true, false, true, false, true, true, true, true, false, false, true] [false, false, false, false, false, false, false, false, false, false, true, false, false, false, false] [false, false, false, false, false, false, false, false, false, false, false, false, false, false, true] 14 (.int .i64 sm)
              rfl (by decide +kernel) (by decide +kernel) (by decide +kernel) rfl
              [Is (.int .i64 sm), Is (.slice (some ⟨B, off, none⟩) n lc), IsNilRow WA, Is (.slice ba bn bc), IsPRow WA S, Is (.slice (some ⟨B, off, none⟩) n lc), Is (.int .i64 k), Is (.pointer (some ⟨B, off + k * 9, none⟩)), Is (.agg #[.int .i64 xo, .int .i64 xd, .int .i64 xe, .int .i64 xa, .int .i64 xb, .int .i64 xc, .int .i32 xi, .slice xva xl xvc, .int .i64 xs]), IsPBlk WA #[.int .i64 xo, .int .i64 xd, .int .i64 xe, .int .i64 xa, .int .i64 xb, .int .i64 xc, .int .i32 xi, .slice xva xl xvc, .int .i64 xs], IsPRow WA (S ++ [XX]), Is (.slice (some ⟨gb, 0, none⟩) n n), Is (.int .i64 c), Is (.int .i64 (sm + c)), Is (.int .i64 (sm + c))]
              ⟨Is.stable _, Is.stable _, IsNilRow.stable _, Is.stable _, IsPRow.stable _ _, Is.stable _, Is.stable _, Is.stable _, Is.stable _, IsPBlk.stable _ _, IsPRow.stable _ _, Is.stable _, Is.stable _, Is.stable _, Is.stable _, trivial⟩ ⟨Is.fixed _, Is.fixed _, Is.fixed _, Is.fixed _, Is.fixed _, Is.fixed _, Is.fixed _, Is.fixed _, trivial⟩ (by simp) rfl (by decide) (by decide +kernel) ⟨?_, ?_, ?_, ?_, ?_, ?_, ?_, ?_, ?_, ?_, ?_, ?_, ?_, ?_, ?_, trivial⟩ ?_
            rotate_right
            · intro vs w1 hs hk
              simp only [putAll, Act.put, KnowsFin, nthF, Is, List.setIfInBounds_toArray, List.set_cons_zero, List.set_cons_succ, Nat.reduceAdd] at hk ⊢
              have hk14 := hk.1
              rw [hk14]
              have hgk := HSET.out.keep hs
              have hfz2 := hgk.open k
              have hck2 := hgk.cell hlt
              have HSB := Lib.hid (HBACK.out w1 hs)
              clear hgk hk hk14 hs hck hfz
              go_wp2
              go_roundw
              case rel => exact ⟨k + 1, by omega, by go_num, by rw [HPS.out], HSR.out.trans HSB.out⟩
              case measure => simp [intOf]; omega
            all_goals
              intro vs w1 hs hov hk
              simp only [putAll, Act.put, KnowsD, nthF, Is, List.setIfInBounds_toArray, List.set_cons_zero, List.set_cons_succ, Nat.reduceAdd] at hk ⊢
              try simp only [hk]
            · have h14 := hov (by decide)
              clear hov
              rw [h14]
              clear h14
              go_wp2
              exact ⟨_, rfl, rfl, Since.refl _⟩
            · clear hov
              go_wp2
              exact ⟨_, rfl, rfl, Since.refl _⟩
            · clear hov
              go_wp2
              exact ⟨_, rfl, nil_new hs.size, (Since.refl _).alloc _⟩
            · clear hov
              go_wp2
              exact ⟨_, rfl, rfl, Since.refl _⟩
            · clear hov
              have K := Lib.hid hk; clear hk
              have hbr := RowIn.keep PlOk.keep HBRA.out hs
              go_wp2_with (at_builtin; refine wpList_append_pls (w0 := WA) rfl _ _ 54 rfl PZ 88 Try.underlying54 HPI.out rfl (by decide) _ _ S rfl rfl K.out.1 hbr (by have := HSL.out; omega) HSAV.out hs.size ?_; intro v' w' hown hs2)
              exact ⟨_, rfl, hown, hs2⟩
            · clear hov
              go_wp2
              exact ⟨_, rfl, rfl, Since.refl _⟩
            · clear hov
              go_wp2
              exact ⟨_, rfl, rfl, Since.refl _⟩
            · clear hov
              go_wp2
              exact ⟨_, rfl, rfl, Since.refl _⟩
            · clear hov
              have q0 : w1.cell? ⟨B, off + k * 9, none⟩ = some (.int .i64 xo) := HQ.out w1 (HSW.out.trans hs) 0 _ rfl
              have q1 : w1.cell? ⟨B, off + k * 9 + 1, none⟩ = some (.int .i64 xd) := HQ.out w1 (HSW.out.trans hs) 1 _ rfl
              have q2 : w1.cell? ⟨B, off + k * 9 + 2, none⟩ = some (.int .i64 xe) := HQ.out w1 (HSW.out.trans hs) 2 _ rfl
              have q3 : w1.cell? ⟨B, off + k * 9 + 3, none⟩ = some (.int .i64 xa) := HQ.out w1 (HSW.out.trans hs) 3 _ rfl
              have q4 : w1.cell? ⟨B, off + k * 9 + 4, none⟩ = some (.int .i64 xb) := HQ.out w1 (HSW.out.trans hs) 4 _ rfl
              have q5 : w1.cell? ⟨B, off + k * 9 + 5, none⟩ = some (.int .i64 xc) := HQ.out w1 (HSW.out.trans hs) 5 _ rfl
              have q6 : w1.cell? ⟨B, off + k * 9 + 6, none⟩ = some (.int .i32 xi) := HQ.out w1 (HSW.out.trans hs) 6 _ rfl
              have q7 : w1.cell? ⟨B, off + k * 9 + 7, none⟩ = some (.slice xva xl xvc) := HQ.out w1 (HSW.out.trans hs) 7 _ rfl
              have q8 : w1.cell? ⟨B, off + k * 9 + 8, none⟩ = some (.int .i64 xs) := HQ.out w1 (HSW.out.trans hs) 8 _ rfl
              have hbw : B < w1.heap.size := Nat.lt_of_lt_of_le hB (HSW.out.trans hs).size
              go_wp2
              exact ⟨_, rfl, rfl, Since.refl _⟩
            · clear hov
              go_wp2
              exact ⟨_, rfl, blk_new hs.size _, (Since.refl _).alloc _⟩
            · clear hov
              obtain ⟨hk1, ⟨ob, ho1, ho2, ho3⟩, hk3⟩ := hk
              rw [ho1]
              have K := Lib.hid hk1; clear hk1
              have K3 := Lib.hid ho3; clear ho3
              clear hk3 ho1
              go_wp2_with (at_builtin; refine wpList_append_one (w0 := WA) plcells 9 plcells_len (by decide) rfl _ _ 54 rfl 58 PZ 88 Try.underlying54 HPI.out rfl _ S XX ob 1 58 rfl rfl K.out (by rw [HXP.out]; exact K3.out) HXAV.out (by unfold maxLen; have := HSL.out; omega) (by have := HSL.out; omega) hs ?_; intro v' w' hown hs2)
              exact ⟨_, rfl, hown, hs2⟩
            · clear hov
              go_wp2
              exact ⟨_, rfl, rfl, Since.refl _⟩
            · clear hov
              have hx := own_reads (w0 := WA) hk.2.1 (fun x hx => (PlOk.keep _ _ x (HPOK.out x hx) (HSW.out.trans hs)))
              have HC := Lib.hid (HCALL.out (vs 10) w1 (HSW.out.trans hs) hx (fun q hq => by have h1 := own_low hk.2.1 q hq; have h2 := HSET.out.lt; omega) (HSET.out.keep hs))
              clear hx hk
              generalize vs 10 = bv at *
              go_wp2_with fail
              refine HC.out.mono ?_
              rintro e w5 ⟨rfl, hs5⟩
              go_wp2
              exact ⟨_, rfl, rfl, hs5⟩
            · clear hov
              go_wp2
              exact ⟨_, rfl, rfl, Since.refl _⟩
            · clear hov
              go_wp2
              exact ⟨_, rfl, rfl, Since.refl _⟩
        · obtain rfl : n = k := by omega
          have hfin : psum (tterm ok (depL l) n g) n = if ok then cnt (bhs (depL l) n) n g else 0 := by
            cases ok
            · exact psum_none n _ _ _
            · rw [psum_ok]
              exact (rcount (depL l) n g (by omega) HG.out (by
                cases hb : someB g n
                · exact absurd ((unset_full n g HG.out).2 ((someB_full g n HG.out).1 hb)) hun1
                · rfl)).symm
          have HFIN := Lib.hid hfin
          go_wp2
          go_ret
          exact ⟨by rw [HFIN.out, HR.out]; rfl, HSR.out⟩
end Go.Proofs.Ytkpbmbhejpmboaa
