/- The program's tile: the walk. The program's ParseTiles: the walk. -/
import Derived.Test.YtmhojfpidedjeaaGreatDoorRz27
import Derived.Test.YtmhojfpidedjeaaGreatDoorRz28
import Derived.Test.YtmhojfpidedjeaaGreatDoorRz29
namespace Go.Proofs.YtmhojfpidedjeaaGreatDoor
open Go.RowKit
set_option linter.unusedVariables false
theorem NumRow.stableT {S : Nat→Prop} {base:Nat} (x:Int) (hS:∀ q,S q→q<base):StableT S (NumRow base x):=fun v w w' ⟨g,cap,h1,h2,h3,h4⟩ t=>⟨g,cap,h1,h2,Nat.lt_of_lt_of_le h3 t.size,(t.cell (p:=⟨g,0,none⟩) h3 (fun hs=>by have:=hS g hs;omega)).trans h4⟩
theorem PaM.bare {T : TypeId} {w0 w w':World} {pb:Nat} {tl tl':List Value} {params pl e params' pl' e':Int} (h:PaM T w0 pb tl params pl e (.slice none 0 0) [] w) {R : Nat→Prop} (t:Turn R w w') (hR:∀ q,R q→w0.heap.size≤q) (hb:HeapIs w' pb (.int .i64 params'::.slice none 0 0::.int .i64 pl'::.int .i64 e'::tl').toArray T):PaM T w0 pb tl' params' pl' e' (.slice none 0 0) [] w':=
 ⟨hb,OwnRow.nil _ _ _ _ _,fun i b h=>(by simp at h),fun b h=>(by simp at h),t.toSince h.old fun q hq hr=>(by have:=hR q hr;omega),h.new,h.kind⟩
def TileRow (base:Nat) (l:List DTile) (v:Value) (w:World):Prop:=OwnRow dtcells 2 79 base w v l
theorem TileRow.stable (base:Nat) (l:List DTile):Stable (TileRow base l):=fun v w w' h s=>OwnRow.keep h s
structure TlPh (w0:World) (pb:Nat) (tv:Value) (tl:List DTile) (E:Int) (p:Nat) (w:World):Prop where
 pa:TPa w0 pb tv 0 0 (([0,E,E]:List Int).getD p 0) (.slice none 0 0) [] w
 row:p<2→OwnRow dtcells 2 79 w0.heap.size w tv tl
def TileAns (r:Except Int (List DTile)) (e:Int) (tl:List DTile):Prop:=match r with
 | .error n=>e=n∧n≠0
 | .ok t=>e=0∧tl=t
def TileQ (w0:World) (pb:Nat) (tv:Value) (tl:List DTile) (l:List ByteArray) (w:World) (x:Ending) (w':World):Prop:=
 x=.returned (.tuple #[])∧∃ tv' tl' e',TPa w0 pb tv' 0 0 e' (.slice none 0 0) [] w'∧OwnRow dtcells 2 79 w0.heap.size w' tv' tl'∧Turn (fun q=>q=pb∨tv.ownBlock=some q) w w'∧TileAns (tileSt tl l) e' tl'
set_option maxHeartbeats 1000000 in
set_option maxRecDepth 100000 in
theorem patterns_any (w : World) (htab : Lib.TabIs Tryz.prog w "strings.asciiSpace" .u8 Lib.asciiSpaceTab) : Calls Tryz.prog 94 #[] w fun e w' => e = .returned (.int .i64 37) ∧ Since w w' := by
 have HF:=Lib.hid (fields_tiles w htab)
 clear htab
 go_enter Tryz.func94,Tryz.ntmps94
 go_wp2_with fail
 refine HF.out.mono ?_
 rintro e w1 ⟨rfl,hst,hs⟩
 have HS:=Lib.hid hs
 clear hst hs
 go_wp2
 go_ret
 exact⟨rfl,HS.out⟩
section
variable {w0:World} {pb:Nat}
set_option maxHeartbeats 8000000 in
set_option maxRecDepth 100000 in
theorem tile_any (w : World) (tv : Value) (tl : List DTile) (h : TPa w0 pb tv 0 0 0 (.slice none 0 0) [] w) (ho : OwnRow dtcells 2 79 w0.heap.size w tv tl) (hL : LaidT w0) (hk : tl.length ≤ 400000) (v : Value) (f : ByteArray) (r : List ByteArray) (hl : StrsIn w v (f :: r)) (hsv : ∀ q, v.ownBlock = some q → ∃ cs, HeapIs w q cs 9) (hn : r.length ≤ 400000) : Calls Tryz.prog 54 #[.pointer (some ⟨pb, 0, none⟩), v] w (TileQ w0 pb tv tl (f :: r) w) := by
  obtain ⟨a, vc, e1, _⟩ := RowIn.shape hl
  obtain ⟨n, hnn⟩ : ∃ n, (f :: r).length = n := ⟨_, rfl⟩
  rw [hnn] at e1
  subst e1
  obtain ⟨vb, vo, x, ha, hvb, hx, hc0, hfs⟩ := StrsIn.at hl (k := 0) (by simp)
  obtain rfl : f = x := by simpa using hx
  subst ha
  rw [Nat.add_zero] at hc0
  have hn1 : 0 < n := by rw [← hnn]; simp
  have hvt : ∃ cs, HeapIs w vb cs 9 := hsv vb rfl
  have hvp : vb ≠ pb := fun e => by obtain ⟨cs, hcs⟩ := hvt; exact heap_ne h.box hcs (by decide) e.symm
  have hvr : ¬ tv.ownBlock = some vb := fun e => by obtain ⟨cs, hcs⟩ := hvt; exact own_not ho hcs (by decide) e
  have hpr : ¬ tv.ownBlock = some pb := own_not ho h.box (by decide)
  have HL := Lib.hid hl
  have HH := Lib.hid h
  have HO := Lib.hid ho
  have HLT0 := Lib.hid hL
  have HNN := Lib.hid hnn
  have HVR := Lib.hid hvr
  have HPR := Lib.hid hpr
  clear h ho hl hsv hnn hx hvt hvr hpr hL hfs
  have HE : Hid (∀ (m : Int) w', tileSt tl (f :: r) = .error m → m ≠ 0 → TPa w0 pb tv 0 0 m (.slice none 0 0) [] w' → Turn (fun q => q = pb) w w' → TileQ w0 pb tv tl (f :: r) w (.returned (.tuple #[])) w') := Lib.hid (fun m w' h1 h2 h3 h4 => ⟨rfl, tv, tl, m, h3, own_turn HO.out h4 (fun q hq e => by subst e; exact HPR.out hq), h4.mono (fun q _ hq => .inl hq), by rw [h1]; exact ⟨rfl, h2⟩⟩)
  go_enter Tryz.func54, Tryz.ntmps54
  by_cases hf : f = wTile
  · have hqf := is_tile hf
    have HF := Lib.hid hf
    clear hf
    by_cases h3 : n = 3
    · subst h3
      obtain ⟨p, c, hr⟩ : ∃ p c, r = [p, c] := by
        match r, HNN.out with
        | [p, c], _ => exact ⟨p, c, rfl⟩
      subst hr
      have HST := Lib.hid (show tileSt tl [f, p, c] = if 0 < patF p then (if isNum c then .ok (tl ++ [⟨patF p, numW c⟩]) else .error 71) else .error 72 from by
        show (if f = wTile then _ else _) = _
        rw [if_pos HF.out]; exact if_pos rfl)
      obtain ⟨b1, o1, x1, e1, _, h1, cp, hps⟩ := StrsIn.at HL.out (k := 1) (by simp)
      cases e1
      obtain rfl : p = x1 := by simpa using h1
      obtain ⟨b2, o2, x2, e2, _, h2, cc, hcs⟩ := StrsIn.at HL.out (k := 2) (by simp)
      cases e2
      obtain rfl : c = x2 := by simpa using h2
      have HCS := Lib.hid hcs
      clear h1 h2 hcs hps
      go_wp2_with fail
      refine (must_any w HH.out true 72 (by decide)).mono ?_
      rintro e4 w4 ⟨rfl, hp4, ht4⟩
      have HP4 := Lib.hid (show TPa w0 pb tv 0 0 0 (.slice none 0 0) [] w4 from hp4)
      have HT4 := Lib.hid ht4
      clear hp4 ht4
      go_wp2_with fail
      refine (must_any w4 HP4.out true 70 (by decide)).mono ?_
      rintro e5 w5 ⟨rfl, hp5, ht5⟩
      have HP5 := Lib.hid (show TPa w0 pb tv 0 0 0 (.slice none 0 0) [] w5 from hp5)
      have ht5b := HT4.out.trans ht5
      have HT5 := Lib.hid ht5b
      have cp5 : w5.cell? ⟨vb, vo + 1, none⟩ = some (.string p) := (ht5b.cell (p := ⟨vb, vo + 1, none⟩) hvb hvp).trans cp
      have cc5 : w5.cell? ⟨vb, vo + 2, none⟩ = some (.string c) := (ht5b.cell (p := ⟨vb, vo + 2, none⟩) hvb hvp).trans cc
      have hvb5 : vb < w5.heap.size := Nat.lt_of_lt_of_le hvb ht5b.size
      have HO5 := Lib.hid (own_turn HO.out ht5b (fun q hq e => by subst e; exact HPR.out hq))
      clear hp5 ht5 ht5b cp cc hc0 hvb
      go_wp2_with fail
      go_loopw [4] (fun io wr => ∃ k : Nat, k ≤ 37 ∧ io = .int .i64 ((k : Int) + 1) ∧ (∀ j, j < k → patNames.getD j ByteArray.empty ≠ p) ∧ Since w5 wr) (fun io _ => 40 - (intOf io).toNat)
      case atStart => exact ⟨0, by omega, rfl, fun j hj => by omega, Since.refl _⟩
      case round =>
        obtain ⟨k, hk37, rfl, hne, hsr⟩ := hrel
        have HNE := Lib.hid hne
        have HSR := Lib.hid hsr
        have cpr : wr.cell? ⟨vb, vo + 1, none⟩ = some (.string p) := (hsr.cell (p := ⟨vb, vo + 1, none⟩) hvb5).trans cp5
        have hvbr := Nat.lt_of_lt_of_le hvb5 hsr.size
        clear hne hsr
        by_cases hlt : k < 37
        · obtain ⟨z, hz⟩ : ∃ z, patNames.getD k ByteArray.empty = z := ⟨_, rfl⟩
          have HZ := Lib.hid hz
          clear hz
          by_cases he : z = p
          · have hq : (z.toList == p.toList) = true := (Lib.bytes_beq_iff z p).2 he
            have hpat := patF_hit hlt (HZ.out.trans he) HNE.out
            have HPF := Lib.hid hpat
            clear he hpat
            go_wp2_with fail
            refine wp_region_since_tail 9 rfl (by decide +kernel) (by decide +kernel) (by decide +kernel) (by decide)
              [Is (.int .i64 ((k : Int) + 1)), Is (.int .i64 37), Is (.bool true), Is (.bool true), Is (.int .i64 ((k : Int) + 1)), Is (.string z), Is (.slice (some ⟨vb, vo, none⟩) 3 vc), Is (.pointer (some ⟨vb, vo + 1, none⟩)), Is (.string p)]
              (by repeat (first | exact trivial | refine ⟨Is.stable _, ?_⟩ | refine ⟨Any.stable, ?_⟩)) ⟨?_, ?_, ?_, ?_, ?_, ?_, ?_, ?_, ?_, trivial⟩ ?_
            rotate_right
            · intro vs w8 hs hk
              simp only [List.take, List.drop, putAll, Act.put, KnowsAll, nthF, Is, List.setIfInBounds_toArray, List.set_cons_zero, List.set_cons_succ, Nat.reduceAdd] at hk ⊢
              try simp only [hk]
              have HS8 := Lib.hid (HSR.out.trans hs)
              clear hs hk
              obtain ⟨pn, hpn⟩ : ∃ pn, (k : Int) + 1 = pn := ⟨_, rfl⟩
              have hpn0 : 0 < pn := by omega
              have hpn37 : pn ≤ 37 := by omega
              have HPN := Lib.hid (HPF.out.trans hpn)
              rw [hpn]
              clear hpn
              have HP8 := Lib.hid (HP5.out.keep HS8.out)
              have HT8 := Lib.hid (HT5.out.later (Turn.since (S := fun q => q = pb) HS8.out) (fun q hq => .inl hq))
              go_wp2_with fail
              have hlt9 := HLT0.out.keep HP8.out.old
              refine (patterns_any w8 hlt9.tab).mono ?_
              rintro e9 w9 ⟨rfl, hs9⟩
              have HS9 := Lib.hid (HS8.out.trans hs9)
              have HP9 := Lib.hid (HP8.out.keep hs9)
              have HT9 := Lib.hid (HT8.out.later (Turn.since (S := fun q => q = pb) hs9) (fun q hq => .inl hq))
              clear hs9 hlt9
              go_wp2_with fail
              refine (must_any w9 HP9.out true 72 (by decide)).mono ?_
              rintro e10 w10 ⟨rfl, hp10, ht10⟩
              have hp10 : TPa w0 pb tv 0 0 0 (.slice none 0 0) [] w10 := hp10
              have ho10 := own_turn (OwnRow.keep HO5.out HS9.out) ht10 (fun q hq e => by subst e; exact HPR.out hq)
              have hsz := HS9.out.size
              have hsz2 := ht10.size
              have cc10 : w10.cell? ⟨vb, vo + 2, none⟩ = some (.string c) := (ht10.cell (p := ⟨vb, vo + 2, none⟩) (Nat.lt_of_lt_of_le hvb5 hsz) hvp).trans ((HS9.out.cell (p := ⟨vb, vo + 2, none⟩) hvb5).trans cc5)
              have hvb10 : vb < w10.heap.size := Nat.lt_of_lt_of_le hvb5 (Nat.le_trans hsz hsz2)
              obtain ⟨ta, tc, htv⟩ := own_shape ho10
              obtain ⟨kt, hkt⟩ : ∃ k, tl.length = k := ⟨_, rfl⟩
              rw [hkt] at htv
              subst htv
              rw [hkt] at hk
              have HKT := Lib.hid hkt
              have HP10 := Lib.hid hp10
              have HO10 := Lib.hid ho10
              have HT10 := Lib.hid (HT9.out.trans ht10)
              have hpbl := hp10.box.lt
              have HSB := Lib.hid (show ∀ q, (q = pb ∨ (Value.slice ta kt tc).ownBlock = some q) → q < w10.heap.size from fun q hq => by
                rcases hq with rfl | hq
                · exact hp10.box.lt
                · exact (World.ownsRow.lt ho10 q hq).2)
              have HNS := Lib.hid (show ¬ (vb = pb ∨ (Value.slice ta kt tc).ownBlock = some vb) from fun hq => by
                rcases hq with hq | hq
                · exact hvp hq
                · exact HVR.out hq)
              have HP4B := Lib.hid (show w10.cell? ⟨pb, 4, none⟩ = some (.slice ta kt tc) from hp10.cell 4)
              obtain ⟨base, hbase⟩ : ∃ b, w10.heap.size = b := ⟨_, rfl⟩
              have HBASE := Lib.hid hbase
              obtain ⟨d, hd⟩ : ∃ d, numW c = d := ⟨_, rfl⟩
              have HD := Lib.hid hd
              obtain ⟨E, hE⟩ : ∃ E, numsE 0 [c] = E := ⟨_, rfl⟩
              have HEE := Lib.hid hE
              clear hp10 ho10 ht10 cc5 hvb5 cp5 hkt hbase hd hE hpbl hsz hsz2 cpr hvbr
              go_wp2_with fail
              refine wp_region_two 17 16 11 [11, 16] [0, 0, 0, 0, 0, 0, 0, 0, 0, 0, 0, 0, 1, 1, 1, 1, 1] [2, 1, 1, 1, 1, 1, 0, 0, 0, 0, 0, 0, 1, 1, 1, 1, 1] [0, 0, 0, 0, 0, 0, 0, 0, 0, 0, 0, 1, 0, 0, 0, 0, 1] (fun q => q = pb ∨ (Value.slice ta kt tc).ownBlock = some q) (fun p w12 => TlPh w0 pb (.slice ta kt tc) tl E p w12) rfl (by decide +kernel) (by decide +kernel) (by decide +kernel) (by decide +kernel) (by decide) (by decide +kernel)
                [Is (.pointer (some ⟨pb, 0, none⟩)), Is (.pointer (some ⟨pb, 0, none⟩)), Is (.pointer (some ⟨pb, 0, none⟩)), Is (.pointer (some ⟨pb, 4, none⟩)), Is (.slice ta kt tc), Is (.int .i64 pn), Is (.pointer (some ⟨pb, 0, none⟩)), Is (.slice (some ⟨vb, vo, none⟩) 3 vc), Is (.pointer (some ⟨vb, vo + 2, none⟩)), Is (.string c), OneOf stc 9 (fun q => q = pb ∨ (Value.slice ta kt tc).ownBlock = some q) c, NumRow base d, NumPtr base d, Is (.int .i64 d), Is (.agg #[.int .i64 pn, .int .i64 d]), OneOf dtcells 79 (fun q => q = pb ∨ (Value.slice ta kt tc).ownBlock = some q) (⟨pn, d⟩ : DTile), TileRow w0.heap.size (tl ++ [⟨pn, d⟩])]
                (by repeat (first | exact trivial | refine ⟨fun h => absurd rfl h, ?_⟩ | refine ⟨fun _ => Is.stableT _ _, ?_⟩ | refine ⟨fun _ => Any.stableT _, ?_⟩ | refine ⟨fun _ => OneOf.stableT _ _ _ _, ?_⟩ | refine ⟨fun _ => NumRow.stableT _ (fun q hq => by rw [← HBASE.out]; exact HSB.out q hq), ?_⟩ | refine ⟨fun _ => NumPtr.stableT _ (fun q hq => by rw [← HBASE.out]; exact HSB.out q hq), ?_⟩)) (by repeat (first | exact trivial | refine ⟨Is.stable _, ?_⟩ | refine ⟨Any.stable, ?_⟩ | refine ⟨OneOf.stable _ _ _ _, ?_⟩ | refine ⟨NumRow.stable _ _, ?_⟩ | refine ⟨NumPtr.stable _ _, ?_⟩ | refine ⟨TileRow.stable _ _, ?_⟩)) ⟨HP10.out.keep ((Since.refl w10).drew), fun _ => OwnRow.keep HO10.out ((Since.refl w10).drew)⟩ ⟨?_, ?_, ?_, ?_, ?_, ?_, ?_, ?_, ?_, ?_, ?_, ?_, ?_, ?_, ?_, ?_, ?_, trivial⟩ ?_
              rotate_right
              · intro vs w12 ht hph hk
                simp only [List.take, List.drop, putAll, Act.put, KnowsAll, nthF, Is, List.setIfInBounds_toArray, List.set_cons_zero, List.set_cons_succ, Nat.reduceAdd] at hk ⊢
                try simp only [hk]
                obtain ⟨nw, hnw⟩ : ∃ nw, vs 16 = nw := ⟨_, rfl⟩
                have hrow : TileRow w0.heap.size (tl ++ [⟨pn, d⟩]) (vs 16) w12 := by exact hk.2.2.2.2.2.2.2.2.2.2.2.2.2.2.2.2.1
                rw [hnw] at hrow
                simp only [hnw]
                obtain ⟨km, hkm⟩ : ∃ k, (tl ++ [(⟨pn, d⟩ : DTile)]).length = k := ⟨_, rfl⟩
                obtain ⟨na, nc, hv9⟩ := own_shape hrow
                rw [hkm] at hv9
                subst hv9
                have hpa : TPa w0 pb (.slice ta kt tc) 0 0 E (.slice none 0 0) [] w12 := hph.pa
                have z4 : w12.cell? ⟨pb, 4, none⟩ = some (.slice ta kt tc) := hpa.cell 4
                have zl := hpa.box.lt
                have zf := hpa.box.frozen
                have HPF2 := Lib.hid (hpa.put 4 (.slice na km nc) (params' := 0) (pl' := 0) (e' := E) (tl' := [.slice na km nc]) rfl)
                have HRW := Lib.hid hrow
                have HBX := Lib.hid hpa.box
                have HTT := Lib.hid ((HT10.out.mono (fun q _ hq => .inl hq) : Turn (fun q => q = pb ∨ (Value.slice ta kt tc).ownBlock = some q) w w10).trans ht)
                clear hk hph ht hrow hpa hnw hkm
                go_wp2
                go_end0
                have hset : Turn (fun q => q = pb) w12 (w12.setCell ⟨pb, 4, none⟩ (.slice na km nc)) := (Turn.refl (fun q => q = pb) w12).setCell (p := ⟨pb, 4, none⟩) rfl _
                refine ⟨rfl, .slice na km nc, tl ++ [(⟨pn, d⟩ : DTile)], E, HPF2.out, own_turn HRW.out hset (fun q hq e => by subst e; exact own_not HRW.out HBX.out (by decide) hq), HTT.out.trans (hset.mono fun q _ hq => .inl hq), ?_⟩
                rw [HST.out, HPN.out, if_pos hpn0]
                have hE := HEE.out
                unfold numsE areNums at hE
                cases hok : isNum c
                · rw [if_neg (by simp)]
                  refine ⟨?_, by decide⟩
                  rw [← hE]; simp [hok]
                · rw [if_pos rfl]
                  refine ⟨?_, by rw [HD.out]⟩
                  rw [← hE]; simp [hok]
              all_goals
                intro p vs w12 hlo hhi ht hph hk
                simp only [List.take, putAll, Act.put, Knows, nthF, Is, List.setIfInBounds_toArray, List.set_cons_zero, List.set_cons_succ, Nat.reduceAdd] at hk ⊢
                try simp only [hk]
              · go_wp2
                exact ⟨_, rfl, rfl, Since.refl _, hph⟩
              · go_wp2
                exact ⟨_, rfl, rfl, Since.refl _, hph⟩
              · go_wp2
                exact ⟨_, rfl, rfl, Since.refl _, hph⟩
              · go_wp2
                exact ⟨_, rfl, rfl, Since.refl _, hph⟩
              · have z1 : w12.cell? ⟨pb, 4, none⟩ = some (.slice ta kt tc) := hph.pa.cell 4
                have z2 : pb < w12.heap.size := hph.pa.box.lt
                go_wp2
                exact ⟨_, rfl, rfl, Since.refl _, hph⟩
              · go_wp2
                exact ⟨_, rfl, rfl, Since.refl _, hph⟩
              · go_wp2
                exact ⟨_, rfl, rfl, Since.refl _, hph⟩
              · go_wp2
                exact ⟨_, rfl, rfl, Since.refl _, hph⟩
              · go_wp2
                exact ⟨_, rfl, rfl, Since.refl _, hph⟩
              · have z1 : w12.cell? ⟨vb, vo + 2, none⟩ = some (.string c) := (ht.cell (p := ⟨vb, vo + 2, none⟩) hvb10 HNS.out).trans cc10
                have z2 : vb < w12.heap.size := Nat.lt_of_lt_of_le hvb10 ht.size
                go_wp2
                exact ⟨_, rfl, rfl, Since.refl _, hph⟩
              · have hne : ¬ (w12.heap.size = pb ∨ (Value.slice ta kt tc).ownBlock = some w12.heap.size) := fun e => by have := HSB.out _ e; have := ht.size; omega
                have hs2 := (Since.refl w12).alloc (.cells (stc c).toArray 9)
                have HP := Lib.hid (show TlPh w0 pb (.slice ta kt tc) tl E p _ from ⟨hph.pa.keep hs2, fun hp => OwnRow.keep (hph.row hp) hs2⟩)
                clear hph
                go_wp2
                exact ⟨_, rfl, ⟨_, rfl, HeapIs.new _ _ _, hne⟩, hs2, HP.out⟩
              · obtain ⟨b1, hbx1, hbx2, hbx3⟩ : OneOf stc 9 (fun q => q = pb ∨ (Value.slice ta kt tc).ownBlock = some q) c (vs 10) w12 := hk.2.1
                simp only [hbx1]
                obtain rfl : p = 0 := by omega
                have hst12 : StrsIn w12 (.slice (some ⟨b1, 0, none⟩) 1 1) [c] := .inr ⟨b1, 0, 1, rfl, Nat.le_refl _, by decide, HeapIs.lt hbx2, fun j y hj => by
                  match j, hj with
                  | 0, hj => obtain rfl : c = y := by simpa using hj
                             exact ⟨fun t ht => by obtain rfl : t = 0 := by omega
                                                   exact hbx2.cell 0, HCS.out⟩
                  | j + 1, hj => simp at hj⟩
                have hsy : Stays (fun q => q = pb) w12 (.slice (some ⟨b1, 0, none⟩) 1 1) := fun q hq => by cases hq; exact ⟨fun e => hbx3 (.inl e), HeapIs.lt hbx2⟩
                have hp12 : TPa w0 pb (.slice ta kt tc) 0 0 0 (.slice none 0 0) [] w12 := hph.pa
                have hrow := hph.row (by decide)
                have HROW := Lib.hid hrow
                have hsz := ht.size
                clear hk hph hbx1
                go_wp2_with fail
                refine (nums_any w12 hp12 HLT0.out _ [c] hst12 hsy (by simp)).mono ?_
                rintro e13 w13 ⟨rv, rfl, hrow3, hp13, ht13⟩
                obtain ⟨g, gc, rfl, hg1, hg2, hg3, hgl, hgc⟩ := own_one (show w13.ownsRow _ _ 1 _ 1 [.int .i64 (numW c)] from hrow3)
                rw [HD.out] at hgc
                rw [HEE.out] at hp13
                have HX := Lib.hid (show NumRow base d (.slice (some ⟨g, 0, none⟩) 1 gc) w13 from ⟨g, gc, rfl, by have := HBASE.out; omega, hgl, hgc⟩)
                have HT13 := Lib.hid (ht13.mono (fun q _ hq => .inl hq) : Turn (fun q => q = pb ∨ (Value.slice ta kt tc).ownBlock = some q) w12 w13)
                have HPH := Lib.hid (show TlPh w0 pb (.slice ta kt tc) tl E 1 w13 from ⟨hp13, fun _ => own_turn HROW.out ht13 (fun q hq e => by subst e; exact HPR.out hq)⟩)
                clear hst12 hsy hp12 hrow hrow3 hp13 ht13 hgc hgl hbx2 hbx3
                go_wp2
                exact ⟨_, rfl, HX.out, HT13.out, HPH.out⟩
              · obtain ⟨g, gc, hv3, hg1, hg2, hg3⟩ : NumRow base d (vs 11) w12 := hk.1
                simp only [hv3]
                have HX := Lib.hid (show NumPtr base d (.pointer (some ⟨g, 0, none⟩)) w12 from ⟨g, rfl, hg1, hg2, hg3⟩)
                clear hk hv3
                go_wp2
                exact ⟨_, rfl, HX.out, Since.refl _, hph⟩
              · obtain ⟨g, hv3, hg1, hg2, hg3⟩ : NumPtr base d (vs 12) w12 := hk.1
                simp only [hv3]
                clear hk hv3
                go_wp2
                exact ⟨_, rfl, rfl, Since.refl _, hph⟩
              · go_wp2
                exact ⟨_, rfl, rfl, Since.refl _, hph⟩
              · have hne : ¬ (w12.heap.size = pb ∨ (Value.slice ta kt tc).ownBlock = some w12.heap.size) := fun e => by have := HSB.out _ e; have := ht.size; omega
                have hs2 := (Since.refl w12).alloc (.cells (dtcells (⟨pn, d⟩ : DTile)).toArray 79)
                have HP := Lib.hid (show TlPh w0 pb (.slice ta kt tc) tl E p _ from ⟨hph.pa.keep hs2, fun hp => OwnRow.keep (hph.row hp) hs2⟩)
                clear hph
                go_wp2
                exact ⟨_, rfl, ⟨_, rfl, HeapIs.new _ _ _, hne⟩, hs2, HP.out⟩
              · obtain ⟨b1, hbx1, hbx2, hbx3⟩ : OneOf dtcells 79 (fun q => q = pb ∨ (Value.slice ta kt tc).ownBlock = some q) (⟨pn, d⟩ : DTile) (vs 15) w12 := hk.2.1
                simp only [hbx1]
                obtain rfl : p = 1 := by omega
                have hrow := hph.row (by decide)
                have HPA := Lib.hid (show TPa w0 pb (.slice ta kt tc) 0 0 E (.slice none 0 0) [] w12 from hph.pa)
                have HROW := Lib.hid hrow
                clear hk hph hbx1
                refine wpList_append_one2 dtcells 2 (fun _ => rfl) (by decide) rfl _ _ 25 rfl 79 (.agg #[.int .i64 0, .int .i64 0]) 16 Tryz.underlying25 (by kernel_rfl) rfl (.slice ta kt tc) tl ⟨pn, d⟩ b1 1 _ rfl rfl hrow hbx2 (dtcells_one _) (by rw [HKT.out]; unfold maxLen; omega) (by rw [HKT.out]; omega) HPA.out.old.size ?_
                intro v9 w13 hown ht3 hnew
                have HA := Lib.hid (show TileRow w0.heap.size (tl ++ [⟨pn, d⟩]) v9 w13 from hown)
                have HT3 := Lib.hid (ht3.mono (fun q _ hq => .inr hq) : Turn (fun q => q = pb ∨ (Value.slice ta kt tc).ownBlock = some q) w12 w13)
                have HPH := Lib.hid (show TlPh w0 pb (.slice ta kt tc) tl E 2 w13 from ⟨HPA.out.bare ht3 (fun q hq => (World.ownsRow.lt HROW.out q hq).1) (HPA.out.box.turn ht3 HPR.out), fun h => absurd h (by decide)⟩)
                clear hown ht3 hnew hrow hbx2 hbx3
                go_wp2
                exact ⟨_, rfl, HA.out, HT3.out, HPH.out⟩
            all_goals
              intro vs w8 hs hk _
              simp only [List.take, putAll, Act.put, Knows, nthF, Is, List.setIfInBounds_toArray, List.set_cons_zero, List.set_cons_succ, Nat.reduceAdd] at hk ⊢
              try simp only [hk]
            · go_wp2
              exact ⟨_, rfl, rfl, Since.refl _⟩
            · have hlt8 := HLT0.out.keep (HP5.out.old.trans (HSR.out.trans hs))
              have HPA := Lib.hid (patterns_any w8 hlt8.tab)
              clear hk hlt8
              go_wp2_with fail
              refine HPA.out.mono ?_
              rintro e9 w9 ⟨rfl, hs9⟩
              have HS9 := Lib.hid hs9
              clear hs9
              go_wp2
              exact ⟨_, rfl, rfl, HS9.out⟩
            · go_wp2
              exact ⟨_, rfl, congrArg Value.bool (decide_eq_true (by omega)), Since.refl _⟩
            · go_wp2
              exact ⟨_, rfl, rfl, Since.refl _⟩
            · go_wp2
              exact ⟨_, rfl, rfl, Since.refl _⟩
            · have hlt8 := HLT0.out.keep (HP5.out.old.trans (HSR.out.trans hs))
              have hnm := tname_any ((k : Int) + 1) w8 ⟨by omega, by omega⟩ hlt8.tab
              rw [patB_at k hlt, HZ.out] at hnm
              have HNM := Lib.hid hnm
              clear hk hlt8 hnm
              go_wp2_with fail
              refine HNM.out.mono ?_
              rintro e9 w9 ⟨rfl, hs9⟩
              have hs9 : Since w8 w9 := hs9
              have HS9 := Lib.hid hs9
              clear hs9
              go_wp2
              exact ⟨_, rfl, rfl, HS9.out⟩
            · go_wp2
              exact ⟨_, rfl, rfl, Since.refl _⟩
            · go_wp2
              exact ⟨_, rfl, rfl, Since.refl _⟩
            · have z1 : w8.cell? ⟨vb, vo + 1, none⟩ = some (.string p) := (hs.cell (p := ⟨vb, vo + 1, none⟩) hvbr).trans cpr
              have z2 : vb < w8.heap.size := Nat.lt_of_lt_of_le hvbr hs.size
              go_wp2
              exact ⟨_, rfl, rfl, Since.refl _⟩
          · have hq : (z.toList == p.toList) = false := (Lib.bytes_beq_false_iff z p).2 he
            have HX := Lib.hid he
            clear he
            go_wp2_with fail
            refine wp_region_since_tail 9 rfl (by decide +kernel) (by decide +kernel) (by decide +kernel) (by decide)
              [Is (.int .i64 ((k : Int) + 1)), Is (.int .i64 37), Is (.bool true), Is (.bool true), Is (.int .i64 ((k : Int) + 1)), Is (.string z), Is (.slice (some ⟨vb, vo, none⟩) 3 vc), Is (.pointer (some ⟨vb, vo + 1, none⟩)), Is (.string p)]
              (by repeat (first | exact trivial | refine ⟨Is.stable _, ?_⟩ | refine ⟨Any.stable, ?_⟩)) ⟨?_, ?_, ?_, ?_, ?_, ?_, ?_, ?_, ?_, trivial⟩ ?_
            rotate_right
            · intro vs w8 hs hk
              simp only [List.take, List.drop, putAll, Act.put, KnowsAll, nthF, Is, List.setIfInBounds_toArray, List.set_cons_zero, List.set_cons_succ, Nat.reduceAdd] at hk ⊢
              try simp only [hk]
              have HS8 := Lib.hid (HSR.out.trans hs)
              clear hs hk
              go_wp2
              go_roundw
              case rel => exact ⟨k + 1, by omega, by go_num, fun j hj => by
                by_cases h : j < k
                · exact HNE.out j h
                · obtain rfl : j = k := by omega
                  rw [HZ.out]; exact HX.out, HS8.out⟩
              case measure => simp [intOf]; omega
            all_goals
              intro vs w8 hs hk _
              simp only [List.take, putAll, Act.put, Knows, nthF, Is, List.setIfInBounds_toArray, List.set_cons_zero, List.set_cons_succ, Nat.reduceAdd] at hk ⊢
              try simp only [hk]
            · go_wp2
              exact ⟨_, rfl, rfl, Since.refl _⟩
            · have hlt8 := HLT0.out.keep (HP5.out.old.trans (HSR.out.trans hs))
              have HPA := Lib.hid (patterns_any w8 hlt8.tab)
              clear hk hlt8
              go_wp2_with fail
              refine HPA.out.mono ?_
              rintro e9 w9 ⟨rfl, hs9⟩
              have HS9 := Lib.hid hs9
              clear hs9
              go_wp2
              exact ⟨_, rfl, rfl, HS9.out⟩
            · go_wp2
              exact ⟨_, rfl, congrArg Value.bool (decide_eq_true (by omega)), Since.refl _⟩
            · go_wp2
              exact ⟨_, rfl, rfl, Since.refl _⟩
            · go_wp2
              exact ⟨_, rfl, rfl, Since.refl _⟩
            · have hlt8 := HLT0.out.keep (HP5.out.old.trans (HSR.out.trans hs))
              have hnm := tname_any ((k : Int) + 1) w8 ⟨by omega, by omega⟩ hlt8.tab
              rw [patB_at k hlt, HZ.out] at hnm
              have HNM := Lib.hid hnm
              clear hk hlt8 hnm
              go_wp2_with fail
              refine HNM.out.mono ?_
              rintro e9 w9 ⟨rfl, hs9⟩
              have hs9 : Since w8 w9 := hs9
              have HS9 := Lib.hid hs9
              clear hs9
              go_wp2
              exact ⟨_, rfl, rfl, HS9.out⟩
            · go_wp2
              exact ⟨_, rfl, rfl, Since.refl _⟩
            · go_wp2
              exact ⟨_, rfl, rfl, Since.refl _⟩
            · have z1 : w8.cell? ⟨vb, vo + 1, none⟩ = some (.string p) := (hs.cell (p := ⟨vb, vo + 1, none⟩) hvbr).trans cpr
              have z2 : vb < w8.heap.size := Nat.lt_of_lt_of_le hvbr hs.size
              go_wp2
              exact ⟨_, rfl, rfl, Since.refl _⟩
        · obtain rfl : k = 37 := by omega
          have HPF := Lib.hid (patF_miss HNE.out)
          go_wp2_with fail
          refine wp_region_since_tail 9 rfl (by decide +kernel) (by decide +kernel) (by decide +kernel) (by decide)
            [Is (.int .i64 38), Is (.int .i64 37), Is (.bool false), Is (.bool false), Any, Any, Any, Any, Any]
            (by repeat (first | exact trivial | refine ⟨Is.stable _, ?_⟩ | refine ⟨Any.stable, ?_⟩)) ⟨?_, ?_, ?_, ?_, ?_, ?_, ?_, ?_, ?_, trivial⟩ ?_
          rotate_right
          · intro vs w8 hs hk
            simp only [List.take, List.drop, putAll, Act.put, KnowsAll, nthF, Is, Any, List.setIfInBounds_toArray, List.set_cons_zero, List.set_cons_succ, Nat.reduceAdd] at hk ⊢
            try simp only [hk]
            have HS8 := Lib.hid (HSR.out.trans hs)
            clear hs hk
            have HP8 := Lib.hid (HP5.out.keep HS8.out)
            have HT8 := Lib.hid (HT5.out.later (Turn.since (S := fun q => q = pb) HS8.out) (fun q hq => .inl hq))
            go_wp2_with fail
            have hlt9 := HLT0.out.keep HP8.out.old
            refine (patterns_any w8 hlt9.tab).mono ?_
            rintro e9 w9 ⟨rfl, hs9⟩
            have HS9 := Lib.hid (HS8.out.trans hs9)
            have HP9 := Lib.hid (HP8.out.keep hs9)
            have HT9 := Lib.hid (HT8.out.later (Turn.since (S := fun q => q = pb) hs9) (fun q hq => .inl hq))
            clear hs9 hlt9
            go_wp2_with fail
            refine (must_any w9 HP9.out false 72 (by decide)).mono ?_
            rintro e10 w10 ⟨rfl, hp10, ht10⟩
            have HFI := Lib.hid (HE.out 72 w10 (by rw [HST.out, HPF.out]; rfl) (by decide) hp10 (HT9.out.trans ht10))
            clear hp10 ht10
            go_wp2
            go_end0
            exact HFI.out
          all_goals
            intro vs w8 hs hk _
            simp only [List.take, putAll, Act.put, Knows, nthF, Is, Any, List.setIfInBounds_toArray, List.set_cons_zero, List.set_cons_succ, Nat.reduceAdd] at hk ⊢
            try simp only [hk]
          · go_wp2
            exact ⟨_, rfl, rfl, Since.refl _⟩
          · have hlt8 := HLT0.out.keep (HP5.out.old.trans (HSR.out.trans hs))
            have HPA := Lib.hid (patterns_any w8 hlt8.tab)
            clear hk hlt8
            go_wp2_with fail
            refine HPA.out.mono ?_
            rintro e9 w9 ⟨rfl, hs9⟩
            have HS9 := Lib.hid hs9
            clear hs9
            go_wp2
            exact ⟨_, rfl, rfl, HS9.out⟩
          · go_wp2
            exact ⟨_, rfl, rfl, Since.refl _⟩
          · go_wp2
            exact ⟨_, rfl, rfl, Since.refl _⟩
          · go_wp2
            exact ⟨_, (put_old _ 24).symm, trivial, Since.refl _⟩
          · go_wp2
            exact ⟨_, (put_old _ 25).symm, trivial, Since.refl _⟩
          · go_wp2
            exact ⟨_, (put_old _ 26).symm, trivial, Since.refl _⟩
          · go_wp2
            exact ⟨_, (put_old _ 27).symm, trivial, Since.refl _⟩
          · go_wp2
            exact ⟨_, (put_old _ 28).symm, trivial, Since.refl _⟩
    · have h3q : ((n : Int) == 3) = false := by rw [beq_eq_false_iff_ne]; omega
      have HZ := Lib.hid (show tileSt tl (f :: r) = .error 70 from by
        show (if f = wTile then _ else _) = _
        rw [if_pos HF.out]; exact if_neg (fun e => h3 (by rw [← HNN.out, List.length_cons, e])))
      clear h3
      go_wp2_with fail
      refine (must_any w HH.out true 72 (by decide)).mono ?_
      rintro e4 w4 ⟨rfl, hp4, ht4⟩
      have HP4 := Lib.hid (show TPa w0 pb tv 0 0 0 (.slice none 0 0) [] w4 from hp4)
      have HT4 := Lib.hid ht4
      clear hp4 ht4
      go_wp2_with fail
      refine (must_any w4 HP4.out false 70 (by decide)).mono ?_
      rintro e5 w5 ⟨rfl, hp5, ht5⟩
      have HFI := Lib.hid (HE.out 70 w5 HZ.out (by decide) hp5 (HT4.out.trans ht5))
      clear hp5 ht5
      go_wp2
      go_end0
      exact HFI.out
  · have hqf := not_tile hf
    have HZ := Lib.hid (show tileSt tl (f :: r) = .error 72 from if_neg hf)
    clear hf
    go_wp2_with fail
    refine (must_any w HH.out false 72 (by decide)).mono ?_
    rintro e4 w4 ⟨rfl, hp4, ht4⟩
    have HFI := Lib.hid (HE.out 72 w4 HZ.out (by decide) hp4 ht4)
    clear hp4 ht4
    go_wp2
    go_end0
    exact HFI.out
end
def TInv (w0:World) (pb:Nat) (i:Nat) (t:List DTile) (w:World):Prop:=∃ tv,TPa w0 pb tv 0 0 0 (.slice none 0 0) [] w∧OwnRow dtcells 2 79 w0.heap.size w tv t∧t.length≤i∧TlOk t
def TBad (w0:World) (pb:Nat) (n:Int) (w:World):Prop:=∃ tv,TPa w0 pb tv 0 0 n (.slice none 0 0) [] w∧n≠0
theorem tile_enters (args:Array Value) (w:World):(callFunc 54 args).run Tryz.prog w=.ok (.enter 54 args) w:=by
 simp[callFunc,Tryz.func54]
 first | rfl | skip
theorem tileSt_ok {l t:List DTile} {x : List ByteArray} (hl:TlOk l) (h:tileSt l x=.ok t):TlOk t:=by
 unfold tileSt at h
 split at h
 ·cases h;exact hl
 ·split at h
  ·split at h
   ·split at h
    ·split at h
     ·cases h;exact hl.more _ _
     ·cases h
    ·cases h
   ·cases h
  ·cases h
theorem tiles_ok (w0:World) (pb:Nat) (hL:LaidT w0):EachOk 54 pb tileSt (TInv w0 pb) (TBad w0 pb) where
 e0:=fun i t w ⟨tv,h,_⟩=>⟨h.cell 3,h.box.lt⟩
 keep:=fun i t w w' ⟨tv,h,h1,h2⟩ s=>⟨tv,h.keep s,OwnRow.keep h1 s,h2⟩
 laid:=fun i t w ⟨tv,h,_⟩=>hL.keep h.old
 more:=fun i t w ⟨tv,h,h1,h2,h3⟩=>⟨tv,h,h1,by omega,h3⟩
 enters:=tile_enters
 bad:=fun n w ⟨tv,h,hn⟩=>⟨h.cell 3,hn,h.box.lt⟩
 call:=fun i t w v f r ⟨tv,h,ho,hi2,hok⟩ hi hv hq hn=>by
  refine (tile_any w tv t h ho hL (by omega) v f r hv hq hn).mono ?_
  rintro x w' ⟨rfl,tv',tl',e',hp,ho',ht,hans⟩
  refine⟨rfl,ht.mono fun q _ hpq=>?_,?_⟩
  ·rcases hpq with rfl|hpq
   ·exact fun cs hb=>heap_ne h.box hb (by decide) rfl
   ·exact fun cs hb=>own_not ho hb (by decide) hpq
  ·cases hs:tileSt t (f::r) with
   | error n =>
    rw[hs]at hans
    obtain⟨h1,h2⟩:=hans
    subst h1
    exact⟨tv',hp,h2⟩
   | ok u =>
    rw[hs]at hans
    obtain⟨h1,h2⟩:=hans
    subst h1 h2
    exact⟨tv',hp,ho',by have:=tileSt_len hs;omega,tileSt_ok hok hs⟩
def TablesQ (s:ByteArray) (w:World) (e:Ending) (w':World):Prop:=∃ v l line er,e=.returned (.tuple #[v,.int .i64 line,.int .i64 er])∧TilesIn w' v l∧(⟨l,line,er⟩:TRes)=parseT s.data.toList∧Since w w'
set_option maxHeartbeats 8000000 in
set_option maxRecDepth 100000 in
theorem ptiles_any (s:ByteArray) (w:World) (hs:s.size≤300000) (hL:LaidT w):Calls Tryz.prog 33 #[.string s] w (TablesQ s w):=by
 have HL0:=Lib.hid hL
 have HP0:=Lib.hid (PaM.start w 93 [.slice none 0 0] (by decide))
 clear hL
 go_enter Tryz.func33,Tryz.ntmps33
 go_wp2_with fail
 refine (each_any (tiles_ok w w.heap.size HL0.out) [] s _ ⟨_,HP0.out,OwnRow.nil _ _ _ _ _,Nat.le_refl _,fun _ h=>(by cases h)⟩ hs).mono ?_
 rintro e2 w2 ⟨wrong,rfl,hans⟩
 obtain⟨pb,hpb⟩:∃ q,w.heap.size=q:=⟨_,rfl⟩
 have HPS:=Lib.hid (show parseT s.data.toList=match goSt tileSt 0 [] (linesOf s.data.toList) with
  | .error x=>⟨[],x.1,x.2⟩
  | .ok t=>⟨t,0,0⟩ from rfl)
 rw[hpb]at hans ⊢
 clear hpb
 cases hg:goSt tileSt 0 [] (linesOf s.data.toList) with
 | error x =>
  rw[hg]at hans
  obtain⟨ln,E⟩:=x
  obtain⟨h1,tv,hp,hn0⟩:=hans
  simp only at h1 hp hn0
  subst h1
  have HRS:=Lib.hid (show (⟨[],wrong,E⟩:TRes)=parseT s.data.toList from by rw[HPS.out,hg])
  have hE:(E==0)=false:=by rw[beq_eq_false_iff_ne];exact hn0
  have c3:w2.cell? ⟨pb,3,none⟩=some (.int .i64 E):=hp.cell 3
  have hpl:=hp.box.lt
  have HS2:=Lib.hid hp.old
  clear hg hp hn0
  go_wp2_with fail
  refine wp_region_list_facts rfl (by decide +kernel) (by decide +kernel)
   [Is (.int .i64 wrong),Is (.pointer (some ⟨pb,0,none⟩)),Is (.pointer (some ⟨pb,0,none⟩)),Is (.pointer (some ⟨pb,3,none⟩)),Is (.int .i64 E),Is (.slice none 0 0),Is (.int .i64 wrong),Is (.int .i64 E)]
   (by repeat (first | exact trivial | refine⟨Is.stable _,?_⟩ | refine⟨IsNums.stable _ _,?_⟩ | refine⟨IsRows.stable _ _,?_⟩)) ⟨?_,?_,?_,?_,?_,?_,?_,?_,trivial⟩ ?_
  all_goals
   intro vs w8 hs hk
   simp only[putAll,Act.put,Knows,KnowsAll,nthF,Is,List.setIfInBounds_toArray,List.set_cons_zero,List.set_cons_succ,Nat.reduceAdd,List.length_cons,List.length_nil]at hk ⊢
   try simp only[hk]
  ·go_wp2
   exact⟨_,rfl,rfl,Since.refl _⟩
  ·go_wp2
   exact⟨_,rfl,rfl,Since.refl _⟩
  ·go_wp2
   exact⟨_,rfl,rfl,Since.refl _⟩
  ·go_wp2
   exact⟨_,rfl,rfl,Since.refl _⟩
  ·have z1:w8.cell? ⟨pb,3,none⟩=some (.int .i64 E):=(hs.cell (p:=⟨pb,3,none⟩) hpl).trans c3
   have z2:pb<w8.heap.size:=Nat.lt_of_lt_of_le hpl hs.size
   go_wp2
   exact⟨_,rfl,rfl,Since.refl _⟩
  ·go_wp2
   exact⟨_,rfl,rfl,Since.refl _⟩
  ·go_wp2
   exact⟨_,rfl,rfl,Since.refl _⟩
  ·go_wp2
   exact⟨_,rfl,rfl,Since.refl _⟩
  ·have HS8:=Lib.hid (HS2.out.trans hs)
   clear hs hk
   go_wp2
   go_ret3
   exact⟨_,[],wrong,E,rfl,tilesIn_nil _,HRS.out,HS8.out⟩
 | ok t =>
  rw[hg]at hans
  obtain⟨h1,i,hi,tv,hp,ho,hti,hok⟩:=hans
  subst h1
  have HRS:=Lib.hid (show (⟨t,0,0⟩:TRes)=parseT s.data.toList from by rw[HPS.out,hg])
  have c3:w2.cell? ⟨pb,3,none⟩=some (.int .i64 0):=hp.cell 3
  have c4:w2.cell? ⟨pb,4,none⟩=some tv:=hp.cell 4
  have hpl:=hp.box.lt
  have HS2:=Lib.hid hp.old
  have HTI:=Lib.hid (tiles_own ho hok)
  obtain⟨ta,tc,htv⟩:=own_shape ho
  subst htv
  clear hg hp ho hok
  go_wp2
  go_ret3
  exact⟨_,t,0,0,rfl,HTI.out,HRS.out,HS2.out⟩
end Go.Proofs.YtmhojfpidedjeaaGreatDoor
