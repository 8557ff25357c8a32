/- Laws of runs over a map of integer keys whose entries are written out: an update of a new block, and a look-up; over any program. -/
import Derived.Test.YtkmkfhbekikleaaDoorRows
import Derived.WalkKit
namespace Go.Proofs.YtkmkfhbekikleaaDoor
open Go.RowKit

theorem alloc_set (w : World) (o o' : Obj) : ({ w.alloc o with heap := (w.alloc o).heap.setIfInBounds w.heap.size o' } : World) = w.alloc o' := by
  have : (w.heap.push o).setIfInBounds w.heap.size o' = w.heap.push o' := by
    apply Array.ext'
    simp [Array.toList_setIfInBounds, Array.toList_push]
  simp only [World.alloc]
  rw [this]

/-- The keys of a list of entries are numbers other than n. -/
def fresh (n : Int) : List MapEntry → Bool
  | [] => true
  | e :: r => match e.key with
    | .int .i64 m => !(n == m) && fresh n r
    | _ => false

/-- What a look-up of one number among the entries gives. -/
def look (n : Int) : List MapEntry → Option Value
  | [] => none
  | e :: r => match e.key with
    | .int .i64 m => if n == m then some e.val else look n r
    | _ => none

theorem fresh_nil (n : Int) : fresh n [] = true := Eq.trans (Eq.refl _) (Eq.refl true)
theorem fresh_cons (n m : Int) (v : Value) (b : Nat) (r : List MapEntry) : fresh n ({ key := .int .i64 m, val := v, born := b } :: r) = (!(n == m) && fresh n r) := Eq.trans (Eq.refl _) (Eq.refl _)
theorem look_nil (n : Int) : look n [] = none := Eq.trans (Eq.refl _) (Eq.refl _)
theorem look_cons (n m : Int) (v : Value) (b : Nat) (r : List MapEntry) : look n ({ key := .int .i64 m, val := v, born := b } :: r) = if n == m then some v else look n r := Eq.trans (Eq.refl _) (Eq.refl _)

theorem findNow_fresh (n : Int) : ∀ (l : List MapEntry) (i : Nat), fresh n l = true → Instr.findNow (.int .i64) (.int .i64 n) l i = some none
  | [], _, _ => rfl
  | e :: r, i, h => by
    unfold fresh at h
    split at h
    · rename_i m hm
      simp at h
      have hb : (n == m) = false := by simpa using h.1
      simp [Instr.findNow, hm, Instr.sameNow, hb, findNow_fresh n r _ h.2]
    · cases h

theorem findNow_look (n : Int) (v : Value) : ∀ (l : List MapEntry) (i : Nat), look n l = some v → ∃ j, Instr.findNow (.int .i64) (.int .i64 n) l i = some (some (j, v))
  | [], _, h => by cases h
  | e :: r, i, h => by
    unfold look at h
    split at h
    · rename_i m hm
      by_cases hb : n = m
      · subst hb; simp at h; exact ⟨i, by simp [Instr.findNow, hm, Instr.sameNow, h]⟩
      · rw [if_neg (by simpa using hb)] at h
        obtain ⟨j, hj⟩ := findNow_look n v r (i+1) h
        have hb' : (n == m) = false := by simpa using hb
        exact ⟨j, by simp [Instr.findNow, hm, Instr.sameNow, hb', hj]⟩
    · cases h

theorem run_mapUpdate_new {P : Program} {t K E : TypeId} (ht : P.underlying t = some (.map K E)) (hK : P.underlying K = some (.int .i64)) (w : World) (es : List MapEntry) (b c : Nat) (n : Int) (v : Value) (hs : b = w.heap.size) (hf : fresh n es = true) :
    (Instr.mapUpdate t (.map (some b)) (.int .i64 n) v).run P (w.alloc (.map es.toArray c)) = .ok () (w.alloc (.map (es ++ [({ key := .int .i64 n, val := v, born := c } : MapEntry)]).toArray (c+1))) := by
  subst hs
  have hb := (MapKept.heap_alloc w (.map es.toArray c)).1
  have hkey : MapKept.IsKey (.int .i64) (.int .i64 n) := rfl
  have hf' : Instr.findNow (.int .i64) (.int .i64 n) es.toArray.toList 0 = some none := findNow_fresh n es 0 hf
  simp only [Instr.mapUpdate, Sem.run_bind, run_underlying ht, Result.andThen, MapKept.run_getObj_map hb, MapKept.run_checkKey hK hkey, MapKept.run_findKey hK hf', MapKept.run_setObj_map _ hb]
  rw [alloc_set]; simp

theorem run_lookup_hit {P : Program} {t K E : TypeId} (ht : P.underlying t = some (.map K E)) (hK : P.underlying K = some (.int .i64)) (w : World) (es : List MapEntry) (b c : Nat) (n : Int) (v : Value) (hs : b = w.heap.size) (hf : look n es = some v) :
    (Instr.lookup t (.map (some b)) (.int .i64 n) false).run P (w.alloc (.map es.toArray c)) = .ok v (w.alloc (.map es.toArray c)) := by
  subst hs
  have hb := (MapKept.heap_alloc w (.map es.toArray c)).1
  have hkey : MapKept.IsKey (.int .i64) (.int .i64 n) := rfl
  obtain ⟨j, hj⟩ := findNow_look n v es.toArray.toList 0 hf
  simp [Instr.lookup, run_underlying ht, MapKept.run_getObj_map hb, MapKept.run_checkKey hK hkey, MapKept.run_findKey hK hj, Result.andThen]

theorem run_lookup_miss {P : Program} {t K E : TypeId} (ht : P.underlying t = some (.map K E)) (hK : P.underlying K = some (.int .i64)) (z : Value) (hz : ∀ w : World, (zeroValue E).run P w = .ok z w) (w : World) (es : List MapEntry) (b c : Nat) (n : Int) (hs : b = w.heap.size) (hf : fresh n es = true) :
    (Instr.lookup t (.map (some b)) (.int .i64 n) false).run P (w.alloc (.map es.toArray c)) = .ok z (w.alloc (.map es.toArray c)) := by
  subst hs
  have hb := (MapKept.heap_alloc w (.map es.toArray c)).1
  have hkey : MapKept.IsKey (.int .i64) (.int .i64 n) := rfl
  have hf' : Instr.findNow (.int .i64) (.int .i64 n) es.toArray.toList 0 = some none := findNow_fresh n es 0 hf
  simp [Instr.lookup, run_underlying ht, MapKept.run_getObj_map hb, MapKept.run_checkKey hK hkey, MapKept.run_findKey hK hf', hz, Result.andThen]

end Go.Proofs.YtkmkfhbekikleaaDoor
