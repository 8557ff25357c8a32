import Derived.Test.YtmhojfpidedjeaaGreatDoorTp25
import Derived.Test.YtmhojfpidedjeaaGreatDoorTp42
import Derived.Test.YtmhojfpidedjeaaGreatDoorTp43
namespace Go.Proofs.YtmhojfpidedjeaaGreatDoor
open Go.RowKit Go.Lib
set_option linter.unusedVariables false
set_option maxHeartbeats 8000000
set_option maxRecDepth 100000
theorem NumRow.stableT {S : Nat→Prop} {base:Nat} (x:Int) (hS:∀ q,S q→q<base):Yd S (NumRow base x):=fun v w w' ⟨g,cap,h1,h2,h3,h4⟩ t=>⟨g,cap,h1,h2,Nat.lt_of_lt_of_le h3 t.size,(t.cell (p:=⟨g,0,none⟩) h3 (fun hs=>by have:=hS g hs;omega)).trans h4⟩
theorem PaM.bare {T : TypeId} {w0 w w':World} {pb:Nat} {tl tl':List Value} {params pl e params' pl' e':Int} (h:PaM T w0 pb tl params pl e (.slice none 0 0) [] w) {R : Nat→Prop} (t:Turn R w w') (hR:∀ q,R q→w0.heap.size≤q) (hb:HeapIs w' pb (.int .i64 params'::.slice none 0 0::.int .i64 pl'::.int .i64 e'::tl').toArray T):PaM T w0 pb tl' params' pl' e' (.slice none 0 0) [] w':=
 ⟨hb,OwnRow.nil _ _ _ _ _,fun i b h=>(by simp at h),fun b h=>(by simp at h),t.toSince h.old fun q hq hr=>(by have:=hR q hr;omega),h.new,h.kind⟩
def VE (base:Nat) (l:List ZH) (v:Value) (w:World):Prop:=OwnRow dtcells 2 79 base w v l
theorem VE.stable (base:Nat) (l:List ZH):Z7 (VE base l):=fun v w w' h s=>OwnRow.keep h s
structure Zb4 (w0:World) (pb:Nat) (tv:Value) (tl:List ZH) (E:Int) (p:Nat) (w:World):Prop where
 pa:TPa w0 pb tv 0 0 (([0,E,E]:List Int).getD p 0) (.slice none 0 0) [] w
 row:p<2→OwnRow dtcells 2 79 w0.heap.size w tv tl
def ZgB (r:Except Int (List ZH)) (e:Int) (tl:List ZH):Prop:=match r with
 | .error n=>e=n∧n≠0
 | .ok t=>e=0∧tl=t
def ZfE (w0:World) (pb:Nat) (tv:Value) (tl:List ZH) (l:List ByteArray) (w:World) (x:Ending) (w':World):Prop:=
 x=.returned (.tuple #[])∧∃ tv' tl' e',TPa w0 pb tv' 0 0 e' (.slice none 0 0) [] w'∧OwnRow dtcells 2 79 w0.heap.size w' tv' tl'∧Turn (fun q=>q=pb∨tv.ownBlock=some q) w w'∧ZgB (Yk tl l) e' tl'
theorem XS (w : World) (ha : Lib.TabIs Tryz.prog w "strings.asciiSpace" .u8 Lib.asciiSpaceTab) : Calls Tryz.prog 94 #[] w fun e w' => e = .returned (.int .i64 37) ∧ Since w w' := by
 have HF:=hid (J8 w ha)
 clear ha
 go_enter Tryz.func94,Tryz.ntmps94
 go_wp2_with fail
 refine HF.out.mono ?_
 rintro e w1 ⟨rfl,hb,hs⟩
 have HS:=hid hs
 clear hb hs
 go_wp2
 go_ret
 exact⟨rfl,HS.out⟩
section
variable {w0:World} {pb:Nat}
theorem ZeP (w : World) (tv : Value) (tl : List ZH) (h : TPa w0 pb tv 0 0 0 (.slice none 0 0) [] w) (ho : OwnRow dtcells 2 79 w0.heap.size w tv tl) (hL : Ys w0) (hk : tl.length ≤ 400000) (v : Value) (f : ByteArray) (r : List ByteArray) (hl : StrsIn w v (f :: r)) (HT : ∀ q, v.ownBlock = some q → ∃ cs, HeapIs w q cs 9) (hn : r.length ≤ 400000) : Calls Tryz.prog 54 #[.pointer (some ⟨pb, 0, none⟩), v] w (ZfE w0 pb tv tl (f :: r) w) := by
  obtain ⟨a, vc, e1, _⟩ := RowIn.shape hl
  obtain ⟨n, Hh⟩ : ∃ n, (f :: r).length = n := ⟨_, rfl⟩
  rw [Hh] at e1
  subst e1
  obtain ⟨vb, vo, x, ha, Ha, hx, H0, tm⟩ := StrsIn.at hl (k := 0) (by simp)
  obtain rfl : f = x := by simpa using hx
  subst ha
  rw [Nat.add_zero] at H0
  have tB : 0 < n := by rw [← Hh]; simp
  have Hl : ∃ cs, HeapIs w vb cs 9 := HT vb rfl
  have h8 : vb ≠ pb := fun e => by obtain ⟨cs, hR⟩ := Hl; exact Y4 h.box hR (by decide) e.symm
  have HN : ¬ tv.ownBlock = some vb := fun e => by obtain ⟨cs, hR⟩ := Hl; exact Zk ho hR (by decide) e
  have HU : ¬ tv.ownBlock = some pb := Zk ho h.box (by decide)
  have HL := hid hl
  have HH := hid h
  have HO := hid ho
  have hv := hid hL
  have H4 := hid Hh
  have tn := hid HN
  have hY := hid HU
  clear h ho hl HT Hh hx Hl HN HU hL tm
  have HE : Hid (∀ (m : Int) w', Yk tl (f :: r) = .error m → m ≠ 0 → TPa w0 pb tv 0 0 m (.slice none 0 0) [] w' → Turn (fun q => q = pb) w w' → ZfE w0 pb tv tl (f :: r) w (.returned (.tuple #[])) w') := hid (fun m w' h1 h2 h3 h4 => ⟨rfl, tv, tl, m, h3, Zi HO.out h4 (fun q hq e => by subst e; exact hY.out hq), h4.mono (fun q _ hq => .inl hq), by rw [h1]; exact ⟨rfl, h2⟩⟩)
  go_enter Tryz.func54, Tryz.ntmps54
  by_cases hf : f = Wf
  · have tj := ZcM hf
    have HF := hid hf
    clear hf
    by_cases h3 : n = 3
    · subst h3
      obtain ⟨p, c, hr⟩ : ∃ p c, r = [p, c] := by
        match r, H4.out with
        | [p, c], _ => exact ⟨p, c, rfl⟩
      subst hr
      have H2 := hid (show Yk tl [f, p, c] = if 0 < XO p then (if Ya c then .ok (tl ++ [⟨XO p, ZS c⟩]) else .error 71) else .error 72 from by
        show (if f = Wf then _ else _) = _
        rw [if_pos HF.out]; exact if_pos rfl)
      obtain ⟨b1, o1, x1, e1, _, h1, cp, tk⟩ := StrsIn.at HL.out (k := 1) (by simp)
      cases e1
      obtain rfl : p = x1 := by simpa using h1
      obtain ⟨b2, o2, x2, e2, _, h2, cc, hR⟩ := StrsIn.at HL.out (k := 2) (by simp)
      cases e2
      obtain rfl : c = x2 := by simpa using h2
      have tu := hid hR
      clear h1 h2 hR tk
      go_wp2_with fail
      refine (Zw w HH.out true 72 (by decide)).mono ?_
      rintro e4 w4 ⟨rfl, hG, hF⟩
      have HJ := zH (TPa w0 pb tv 0 0 0 (.slice none 0 0) [] w4) hG
      have HB := hid hF
      clear hG hF
      go_wp2_with fail
      refine (Zw w4 HJ.out true 70 (by decide)).mono ?_
      rintro e5 w5 ⟨rfl, hX, hW⟩
      have hO := zH (TPa w0 pb tv 0 0 0 (.slice none 0 0) [] w5) hX
      have hD := HB.out.trans hW
      have H1 := hid hD
      have cp5 : w5.cell? ⟨vb, vo + 1, none⟩ = some (.string p) := (hD.cell (p := ⟨vb, vo + 1, none⟩) Ha h8).trans cp
      have cc5 : w5.cell? ⟨vb, vo + 2, none⟩ = some (.string c) := (hD.cell (p := ⟨vb, vo + 2, none⟩) Ha h8).trans cc
      have hC : vb < w5.heap.size := Nat.lt_of_lt_of_le Ha hD.size
      have ts := hid (Zi HO.out hD (fun q hq e => by subst e; exact hY.out hq))
      clear hX hW hD cp cc H0 Ha
      go_wp2_with fail
      go_loopw [4] (fun io wr => ∃ k : Nat, k ≤ 37 ∧ io = .int .i64 ((k : Int) + 1) ∧ (∀ j, j < k → ZT.getD j ByteArray.empty ≠ p) ∧ Since w5 wr) (fun io _ => 40 - (intOf io).toNat)
      case atStart => exact ⟨0, by omega, rfl, fun j hj => by omega, Since.refl _⟩
      case round =>
        obtain ⟨k, tz, rfl, hQ, Hf⟩ := hrel
        have HM := hid hQ
        have hH := hid Hf
        have cpr : wr.cell? ⟨vb, vo + 1, none⟩ = some (.string p) := (Hf.cell (p := ⟨vb, vo + 1, none⟩) hC).trans cp5
        have hI := Nat.lt_of_lt_of_le hC Hf.size
        clear hQ Hf
        by_cases Ht : k < 37
        · obtain ⟨z, hz⟩ : ∃ z, ZT.getD k ByteArray.empty = z := ⟨_, rfl⟩
          have HZ := hid hz
          clear hz
          by_cases he : z = p
          · have hq : (z.toList == p.toList) = true := (Lib.bytes_beq_iff z p).2 he
            have Hp := Zby Ht (HZ.out.trans he) HM.out
            have HG := hid Hp
            clear he Hp
            go_wp2_with fail
            refine Zb 9 rfl (by decide +kernel) (by decide +kernel) (by decide +kernel) (by decide)
              [Is (.int .i64 ((k : Int) + 1)), Is (.int .i64 37), Is (.bool true), Is (.bool true), Is (.int .i64 ((k : Int) + 1)), Is (.string z), Is (.slice (some ⟨vb, vo, none⟩) 3 vc), Is (.pointer (some ⟨vb, vo + 1, none⟩)), Is (.string p)]
              (by repeat (first | exact trivial | refine ⟨Is.stable _, ?_⟩ | refine ⟨Any.stable, ?_⟩)) ⟨?_, ?_, ?_, ?_, ?_, ?_, ?_, ?_, ?_, trivial⟩ ?_
            rotate_right
            · intro vs w8 hs hk
              simp only [List.take, List.drop, putAll, Act.put, Zc, Zd, Is, List.setIfInBounds_toArray, List.set_cons_zero, List.set_cons_succ, Nat.reduceAdd] at hk ⊢
              try simp only [hk]
              have hA := hid (hH.out.trans hs)
              clear hs hk
              obtain ⟨pn, Ho⟩ : ∃ pn, (k : Int) + 1 = pn := ⟨_, rfl⟩
              have H7 : 0 < pn := by omega
              have tx : pn ≤ 37 := by omega
              have tr := hid (HG.out.trans Ho)
              rw [Ho]
              clear Ho
              have hZ := hid (hO.out.keep hA.out)
              have Hz := hid (H1.out.later (Turn.since (S := fun q => q = pb) hA.out) (fun q hq => .inl hq))
              go_wp2_with fail
              have hM := hv.out.keep hZ.out.old
              refine (XS w8 hM.tab).mono ?_
              rintro e9 w9 ⟨rfl, hb⟩
              have hi := hid (hA.out.trans hb)
              have HI := hid (hZ.out.keep hb)
              have Hy := hid (Hz.out.later (Turn.since (S := fun q => q = pb) hb) (fun q hq => .inl hq))
              clear hb hM
              go_wp2_with fail
              refine (Zw w9 HI.out true 72 (by decide)).mono ?_
              rintro e10 w10 ⟨rfl, hm, hu⟩
              have hm : TPa w0 pb tv 0 0 0 (.slice none 0 0) [] w10 := hm
              have hS := Zi (OwnRow.keep ts.out hi.out) hu (fun q hq e => by subst e; exact hY.out hq)
              have Hc := hi.out.size
              have Hm := hu.size
              have cc10 : w10.cell? ⟨vb, vo + 2, none⟩ = some (.string c) := (hu.cell (p := ⟨vb, vo + 2, none⟩) (Nat.lt_of_lt_of_le hC Hc) h8).trans ((hi.out.cell (p := ⟨vb, vo + 2, none⟩) hC).trans cc5)
              have h9 : vb < w10.heap.size := Nat.lt_of_lt_of_le hC (Nat.le_trans Hc Hm)
              obtain ⟨ta, tc, HR⟩ := Ze hS
              obtain ⟨kt, Hi⟩ : ∃ k, tl.length = k := ⟨_, rfl⟩
              rw [Hi] at HR
              subst HR
              rw [Hi] at hk
              have H5 := hid Hi
              have th := hid hm
              have ti := hid hS
              have te := hid (Hy.out.trans hu)
              have H8 := hm.box.lt
              have Hk := hid (show ∀ q, (q = pb ∨ (Value.slice ta kt tc).ownBlock = some q) → q < w10.heap.size from fun q hq => by
                rcases hq with rfl | hq
                · exact hm.box.lt
                · exact (World.ownsRow.lt hS q hq).2)
              have tt := hid (show ¬ (vb = pb ∨ (Value.slice ta kt tc).ownBlock = some vb) from fun hq => by
                rcases hq with hq | hq
                · exact h8 hq
                · exact tn.out hq)
              have tA := zH (w10.cell? ⟨pb, 4, none⟩ = some (.slice ta kt tc)) (hm.cell 4)
              obtain ⟨base, Hj⟩ : ∃ b, w10.heap.size = b := ⟨_, rfl⟩
              have hU := hid Hj
              obtain ⟨d, hd⟩ : ∃ d, ZS c = d := ⟨_, rfl⟩
              have HD := hid hd
              obtain ⟨E, hE⟩ : ∃ E, numsE 0 [c] = E := ⟨_, rfl⟩
              have H6 := hid hE
              clear hm hS hu cc5 hC cp5 Hi Hj hd hE H8 Hc Hm cpr hI
              go_wp2_with fail
              refine Za6 17 16 11 [11, 16] [0, 0, 0, 0, 0, 0, 0, 0, 0, 0, 0, 0, 1, 1, 1, 1, 1] [2, 1, 1, 1, 1, 1, 0, 0, 0, 0, 0, 0, 1, 1, 1, 1, 1] [0, 0, 0, 0, 0, 0, 0, 0, 0, 0, 0, 1, 0, 0, 0, 0, 1] (fun q => q = pb ∨ (Value.slice ta kt tc).ownBlock = some q) (fun p w12 => Zb4 w0 pb (.slice ta kt tc) tl E p w12) rfl (by decide +kernel) (by decide +kernel) (by decide +kernel) (by decide +kernel) (by decide) (by decide +kernel)
                [Is (.pointer (some ⟨pb, 0, none⟩)), Is (.pointer (some ⟨pb, 0, none⟩)), Is (.pointer (some ⟨pb, 0, none⟩)), Is (.pointer (some ⟨pb, 4, none⟩)), Is (.slice ta kt tc), Is (.int .i64 pn), Is (.pointer (some ⟨pb, 0, none⟩)), Is (.slice (some ⟨vb, vo, none⟩) 3 vc), Is (.pointer (some ⟨vb, vo + 2, none⟩)), Is (.string c), ZW stc 9 (fun q => q = pb ∨ (Value.slice ta kt tc).ownBlock = some q) c, NumRow base d, Xh base d, Is (.int .i64 d), Is (.agg #[.int .i64 pn, .int .i64 d]), ZW dtcells 79 (fun q => q = pb ∨ (Value.slice ta kt tc).ownBlock = some q) (⟨pn, d⟩ : ZH), VE w0.heap.size (tl ++ [⟨pn, d⟩])]
                (by repeat (first | exact trivial | refine ⟨fun h => absurd rfl h, ?_⟩ | refine ⟨fun _ => Is.stableT _ _, ?_⟩ | refine ⟨fun _ => Any.stableT _, ?_⟩ | refine ⟨fun _ => ZW.stableT _ _ _ _, ?_⟩ | refine ⟨fun _ => NumRow.stableT _ (fun q hq => by rw [← hU.out]; exact Hk.out q hq), ?_⟩ | refine ⟨fun _ => Xh.stableT _ (fun q hq => by rw [← hU.out]; exact Hk.out q hq), ?_⟩)) (by repeat (first | exact trivial | refine ⟨Is.stable _, ?_⟩ | refine ⟨Any.stable, ?_⟩ | refine ⟨ZW.stable _ _ _ _, ?_⟩ | refine ⟨NumRow.stable _ _, ?_⟩ | refine ⟨Xh.stable _ _, ?_⟩ | refine ⟨VE.stable _ _, ?_⟩)) ⟨th.out.keep ((Since.refl w10).drew), fun _ => OwnRow.keep ti.out ((Since.refl w10).drew)⟩ ⟨?_, ?_, ?_, ?_, ?_, ?_, ?_, ?_, ?_, ?_, ?_, ?_, ?_, ?_, ?_, ?_, ?_, trivial⟩ ?_
              rotate_right
              · intro vs w12 ht hc hk
                simp only [List.take, List.drop, putAll, Act.put, Zc, Zd, Is, List.setIfInBounds_toArray, List.set_cons_zero, List.set_cons_succ, Nat.reduceAdd] at hk ⊢
                try simp only [hk]
                obtain ⟨nw, Hs⟩ : ∃ nw, vs 16 = nw := ⟨_, rfl⟩
                have hh : VE w0.heap.size (tl ++ [⟨pn, d⟩]) (vs 16) w12 := by exact hk.2.2.2.2.2.2.2.2.2.2.2.2.2.2.2.2.1
                rw [Hs] at hh
                simp only [Hs]
                obtain ⟨km, HW⟩ : ∃ k, (tl ++ [(⟨pn, d⟩ : ZH)]).length = k := ⟨_, rfl⟩
                obtain ⟨na, nc, HQ⟩ := Ze hh
                rw [HW] at HQ
                subst HQ
                have hP : TPa w0 pb (.slice ta kt tc) 0 0 E (.slice none 0 0) [] w12 := hc.pa
                have z4 : w12.cell? ⟨pb, 4, none⟩ = some (.slice ta kt tc) := hP.cell 4
                have zl := hP.box.lt
                have zf := hP.box.frozen
                have tf := hid (hP.put 4 (.slice na km nc) (params' := 0) (pl' := 0) (e' := E) (tl' := [.slice na km nc]) rfl)
                have H3 := hid hh
                have tw := hid hP.box
                have tp := hid ((te.out.mono (fun q _ hq => .inl hq) : Turn (fun q => q = pb ∨ (Value.slice ta kt tc).ownBlock = some q) w w10).trans ht)
                clear hk hc ht hh hP Hs HW
                go_wp2
                go_end0
                have Hn : Turn (fun q => q = pb) w12 (w12.setCell ⟨pb, 4, none⟩ (.slice na km nc)) := (Turn.refl (fun q => q = pb) w12).setCell (p := ⟨pb, 4, none⟩) rfl _
                refine ⟨rfl, .slice na km nc, tl ++ [(⟨pn, d⟩ : ZH)], E, tf.out, Zi H3.out Hn (fun q hq e => by subst e; exact Zk H3.out tw.out (by decide) hq), tp.out.trans (Hn.mono fun q _ hq => .inl hq), ?_⟩
                rw [H2.out, tr.out, if_pos H7]
                have hE := H6.out
                unfold numsE ZZ at hE
                cases HV : Ya c
                · rw [if_neg (by simp)]
                  refine ⟨?_, by decide⟩
                  rw [← hE]; simp [HV]
                · rw [if_pos rfl]
                  refine ⟨?_, by rw [HD.out]⟩
                  rw [← hE]; simp [HV]
              all_goals
                intro p vs w12 tC tD ht hc hk
                simp only [List.take, putAll, Act.put, Zh, Zd, Is, List.setIfInBounds_toArray, List.set_cons_zero, List.set_cons_succ, Nat.reduceAdd] at hk ⊢
                try simp only [hk]
              iterate 4
               · go_wp2
                 exact ⟨_, rfl, rfl, Since.refl _, hc⟩
              · have z1 : w12.cell? ⟨pb, 4, none⟩ = some (.slice ta kt tc) := hc.pa.cell 4
                have z2 : pb < w12.heap.size := hc.pa.box.lt
                go_wp2
                exact ⟨_, rfl, rfl, Since.refl _, hc⟩
              iterate 4
               · go_wp2
                 exact ⟨_, rfl, rfl, Since.refl _, hc⟩
              · have z1 : w12.cell? ⟨vb, vo + 2, none⟩ = some (.string c) := (ht.cell (p := ⟨vb, vo + 2, none⟩) h9 tt.out).trans cc10
                have z2 : vb < w12.heap.size := Nat.lt_of_lt_of_le h9 ht.size
                go_wp2
                exact ⟨_, rfl, rfl, Since.refl _, hc⟩
              · have hQ : ¬ (w12.heap.size = pb ∨ (Value.slice ta kt tc).ownBlock = some w12.heap.size) := fun e => by have := Hk.out _ e; have := ht.size; omega
                have hJ := (Since.refl w12).alloc (.cells (stc c).toArray 9)
                have HP := zH (Zb4 w0 pb (.slice ta kt tc) tl E p _) ⟨hc.pa.keep hJ, fun hp => OwnRow.keep (hc.row hp) hJ⟩
                clear hc
                go_wp2
                exact ⟨_, rfl, ⟨_, rfl, HeapIs.new _ _ _, hQ⟩, hJ, HP.out⟩
              · obtain ⟨b1, hN, hy, hT⟩ : ZW stc 9 (fun q => q = pb ∨ (Value.slice ta kt tc).ownBlock = some q) c (vs 10) w12 := hk.2.1
                simp only [hN]
                obtain rfl : p = 0 := by omega
                have He : StrsIn w12 (.slice (some ⟨b1, 0, none⟩) 1 1) [c] := .inr ⟨b1, 0, 1, rfl, Nat.le_refl _, by decide, HeapIs.lt hy, fun j y hj => by
                  match j, hj with
                  | 0, hj => obtain rfl : c = y := by simpa using hj
                             exact ⟨fun t ht => by obtain rfl : t = 0 := by omega
                                                   exact hy.cell 0, tu.out⟩
                  | j + 1, hj => simp at hj⟩
                have HS : Stays (fun q => q = pb) w12 (.slice (some ⟨b1, 0, none⟩) 1 1) := fun q hq => by cases hq; exact ⟨fun e => hT (.inl e), HeapIs.lt hy⟩
                have Hq : TPa w0 pb (.slice ta kt tc) 0 0 0 (.slice none 0 0) [] w12 := hc.pa
                have hh := hc.row (by decide)
                have h7 := hid hh
                have Hc := ht.size
                clear hk hc hN
                go_wp2_with fail
                refine (Wj w12 Hq hv.out _ [c] He HS (by simp)).mono ?_
                rintro e13 w13 ⟨rv, rfl, Hg, h6, h5⟩
                obtain ⟨g, gc, rfl, Hx, Hw, Hv, HY, Hu⟩ := WM (show w13.ownsRow _ _ 1 _ 1 [.int .i64 (ZS c)] from Hg)
                rw [HD.out] at Hu
                rw [H6.out] at h6
                have HX := zH (NumRow base d (.slice (some ⟨g, 0, none⟩) 1 gc) w13) ⟨g, gc, rfl, by have := hU.out; omega, HY, Hu⟩
                have td := hid (h5.mono (fun q _ hq => .inl hq) : Turn (fun q => q = pb ∨ (Value.slice ta kt tc).ownBlock = some q) w12 w13)
                have HC := zH (Zb4 w0 pb (.slice ta kt tc) tl E 1 w13) ⟨h6, fun _ => Zi h7.out h5 (fun q hq e => by subst e; exact hY.out hq)⟩
                clear He HS Hq hh Hg h6 h5 Hu HY hy hT
                go_wp2
                exact ⟨_, rfl, HX.out, td.out, HC.out⟩
              · obtain ⟨g, gc, hV, Hx, Hw, Hv⟩ : NumRow base d (vs 11) w12 := hk.1
                simp only [hV]
                have HX := zH (Xh base d (.pointer (some ⟨g, 0, none⟩)) w12) ⟨g, rfl, Hx, Hw, Hv⟩
                clear hk hV
                go_wp2
                exact ⟨_, rfl, HX.out, Since.refl _, hc⟩
              · obtain ⟨g, hV, Hx, Hw, Hv⟩ : Xh base d (vs 12) w12 := hk.1
                simp only [hV]
                clear hk hV
                go_wp2
                exact ⟨_, rfl, rfl, Since.refl _, hc⟩
              · go_wp2
                exact ⟨_, rfl, rfl, Since.refl _, hc⟩
              · have hQ : ¬ (w12.heap.size = pb ∨ (Value.slice ta kt tc).ownBlock = some w12.heap.size) := fun e => by have := Hk.out _ e; have := ht.size; omega
                have hJ := (Since.refl w12).alloc (.cells (dtcells (⟨pn, d⟩ : ZH)).toArray 79)
                have HP := zH (Zb4 w0 pb (.slice ta kt tc) tl E p _) ⟨hc.pa.keep hJ, fun hp => OwnRow.keep (hc.row hp) hJ⟩
                clear hc
                go_wp2
                exact ⟨_, rfl, ⟨_, rfl, HeapIs.new _ _ _, hQ⟩, hJ, HP.out⟩
              · obtain ⟨b1, hN, hy, hT⟩ : ZW dtcells 79 (fun q => q = pb ∨ (Value.slice ta kt tc).ownBlock = some q) (⟨pn, d⟩ : ZH) (vs 15) w12 := hk.2.1
                simp only [hN]
                obtain rfl : p = 1 := by omega
                have hh := hc.row (by decide)
                have hB := zH (TPa w0 pb (.slice ta kt tc) 0 0 E (.slice none 0 0) [] w12) hc.pa
                have h7 := hid hh
                clear hk hc hN
                refine Zf dtcells 2 (fun _ => rfl) (by decide) rfl _ _ 25 rfl 79 (.agg #[.int .i64 0, .int .i64 0]) 16 Tryz.underlying25 (by kernel_rfl) rfl (.slice ta kt tc) tl ⟨pn, d⟩ b1 1 _ rfl rfl hh hy (KM _) (by rw [H5.out]; unfold maxLen; omega) (by rw [H5.out]; omega) hB.out.old.size ?_
                intro v9 w13 Hr Hb H9
                have HA := hid (show VE w0.heap.size (tl ++ [⟨pn, d⟩]) v9 w13 from Hr)
                have tq := hid (Hb.mono (fun q _ hq => .inr hq) : Turn (fun q => q = pb ∨ (Value.slice ta kt tc).ownBlock = some q) w12 w13)
                have HC := zH (Zb4 w0 pb (.slice ta kt tc) tl E 2 w13) ⟨hB.out.bare Hb (fun q hq => (World.ownsRow.lt h7.out q hq).1) (hB.out.box.turn Hb hY.out), fun h => absurd h (by decide)⟩
                clear Hr Hb H9 hh hy hT
                go_wp2
                exact ⟨_, rfl, HA.out, tq.out, HC.out⟩
            all_goals
              intro vs w8 hs hk _
              simp only [List.take, putAll, Act.put, Zh, Zd, Is, List.setIfInBounds_toArray, List.set_cons_zero, List.set_cons_succ, Nat.reduceAdd] at hk ⊢
              try simp only [hk]
            · go_wp2
              exact ⟨_, rfl, rfl, Since.refl _⟩
            · have hg := hv.out.keep (hO.out.old.trans (hH.out.trans hs))
              have hB := hid (XS w8 hg.tab)
              clear hk hg
              go_wp2_with fail
              refine hB.out.mono ?_
              rintro e9 w9 ⟨rfl, hb⟩
              have hi := hid hb
              clear hb
              go_wp2
              exact ⟨_, rfl, rfl, hi.out⟩
            · go_wp2
              exact ⟨_, rfl, congrArg Value.bool (decide_eq_true (by omega)), Since.refl _⟩
            iterate 2
             · go_wp2
               exact ⟨_, rfl, rfl, Since.refl _⟩
            · have hg := hv.out.keep (hO.out.old.trans (hH.out.trans hs))
              have hK := Zaw ((k : Int) + 1) w8 ⟨by omega, by omega⟩ hg.tab
              rw [Q8 k Ht, HZ.out] at hK
              have HK := hid hK
              clear hk hg hK
              go_wp2_with fail
              refine HK.out.mono ?_
              rintro e9 w9 ⟨rfl, hb⟩
              have hb : Since w8 w9 := hb
              have hi := hid hb
              clear hb
              go_wp2
              exact ⟨_, rfl, rfl, hi.out⟩
            iterate 2
             · go_wp2
               exact ⟨_, rfl, rfl, Since.refl _⟩
            · have z1 : w8.cell? ⟨vb, vo + 1, none⟩ = some (.string p) := (hs.cell (p := ⟨vb, vo + 1, none⟩) hI).trans cpr
              have z2 : vb < w8.heap.size := Nat.lt_of_lt_of_le hI hs.size
              go_wp2
              exact ⟨_, rfl, rfl, Since.refl _⟩
          · have hq : (z.toList == p.toList) = false := (Lib.bytes_beq_false_iff z p).2 he
            have HX := hid he
            clear he
            go_wp2_with fail
            refine Zb 9 rfl (by decide +kernel) (by decide +kernel) (by decide +kernel) (by decide)
              [Is (.int .i64 ((k : Int) + 1)), Is (.int .i64 37), Is (.bool true), Is (.bool true), Is (.int .i64 ((k : Int) + 1)), Is (.string z), Is (.slice (some ⟨vb, vo, none⟩) 3 vc), Is (.pointer (some ⟨vb, vo + 1, none⟩)), Is (.string p)]
              (by repeat (first | exact trivial | refine ⟨Is.stable _, ?_⟩ | refine ⟨Any.stable, ?_⟩)) ⟨?_, ?_, ?_, ?_, ?_, ?_, ?_, ?_, ?_, trivial⟩ ?_
            rotate_right
            · intro vs w8 hs hk
              simp only [List.take, List.drop, putAll, Act.put, Zc, Zd, Is, List.setIfInBounds_toArray, List.set_cons_zero, List.set_cons_succ, Nat.reduceAdd] at hk ⊢
              try simp only [hk]
              have hA := hid (hH.out.trans hs)
              clear hs hk
              go_wp2
              go_roundw
              case rel => exact ⟨k + 1, by omega, by go_num, fun j hj => by
                by_cases h : j < k
                · exact HM.out j h
                · obtain rfl : j = k := by omega
                  rw [HZ.out]; exact HX.out, hA.out⟩
              case measure => simp [intOf]; omega
            all_goals
              intro vs w8 hs hk _
              simp only [List.take, putAll, Act.put, Zh, Zd, Is, List.setIfInBounds_toArray, List.set_cons_zero, List.set_cons_succ, Nat.reduceAdd] at hk ⊢
              try simp only [hk]
            · go_wp2
              exact ⟨_, rfl, rfl, Since.refl _⟩
            · have hg := hv.out.keep (hO.out.old.trans (hH.out.trans hs))
              have hB := hid (XS w8 hg.tab)
              clear hk hg
              go_wp2_with fail
              refine hB.out.mono ?_
              rintro e9 w9 ⟨rfl, hb⟩
              have hi := hid hb
              clear hb
              go_wp2
              exact ⟨_, rfl, rfl, hi.out⟩
            · go_wp2
              exact ⟨_, rfl, congrArg Value.bool (decide_eq_true (by omega)), Since.refl _⟩
            iterate 2
             · go_wp2
               exact ⟨_, rfl, rfl, Since.refl _⟩
            · have hg := hv.out.keep (hO.out.old.trans (hH.out.trans hs))
              have hK := Zaw ((k : Int) + 1) w8 ⟨by omega, by omega⟩ hg.tab
              rw [Q8 k Ht, HZ.out] at hK
              have HK := hid hK
              clear hk hg hK
              go_wp2_with fail
              refine HK.out.mono ?_
              rintro e9 w9 ⟨rfl, hb⟩
              have hb : Since w8 w9 := hb
              have hi := hid hb
              clear hb
              go_wp2
              exact ⟨_, rfl, rfl, hi.out⟩
            iterate 2
             · go_wp2
               exact ⟨_, rfl, rfl, Since.refl _⟩
            · have z1 : w8.cell? ⟨vb, vo + 1, none⟩ = some (.string p) := (hs.cell (p := ⟨vb, vo + 1, none⟩) hI).trans cpr
              have z2 : vb < w8.heap.size := Nat.lt_of_lt_of_le hI hs.size
              go_wp2
              exact ⟨_, rfl, rfl, Since.refl _⟩
        · obtain rfl : k = 37 := by omega
          have HG := hid (ZaM HM.out)
          go_wp2_with fail
          refine Zb 9 rfl (by decide +kernel) (by decide +kernel) (by decide +kernel) (by decide)
            [Is (.int .i64 38), Is (.int .i64 37), Is (.bool false), Is (.bool false), Any, Any, Any, Any, Any]
            (by repeat (first | exact trivial | refine ⟨Is.stable _, ?_⟩ | refine ⟨Any.stable, ?_⟩)) ⟨?_, ?_, ?_, ?_, ?_, ?_, ?_, ?_, ?_, trivial⟩ ?_
          rotate_right
          · intro vs w8 hs hk
            simp only [List.take, List.drop, putAll, Act.put, Zc, Zd, Is, Any, List.setIfInBounds_toArray, List.set_cons_zero, List.set_cons_succ, Nat.reduceAdd] at hk ⊢
            try simp only [hk]
            have hA := hid (hH.out.trans hs)
            clear hs hk
            have hZ := hid (hO.out.keep hA.out)
            have Hz := hid (H1.out.later (Turn.since (S := fun q => q = pb) hA.out) (fun q hq => .inl hq))
            go_wp2_with fail
            have hM := hv.out.keep hZ.out.old
            refine (XS w8 hM.tab).mono ?_
            rintro e9 w9 ⟨rfl, hb⟩
            have hi := hid (hA.out.trans hb)
            have HI := hid (hZ.out.keep hb)
            have Hy := hid (Hz.out.later (Turn.since (S := fun q => q = pb) hb) (fun q hq => .inl hq))
            clear hb hM
            go_wp2_with fail
            refine (Zw w9 HI.out false 72 (by decide)).mono ?_
            rintro e10 w10 ⟨rfl, hm, hu⟩
            have h0 := hid (HE.out 72 w10 (by rw [H2.out, HG.out]; rfl) (by decide) hm (Hy.out.trans hu))
            clear hm hu
            go_wp2
            go_end0
            exact h0.out
          all_goals
            intro vs w8 hs hk _
            simp only [List.take, putAll, Act.put, Zh, Zd, Is, Any, List.setIfInBounds_toArray, List.set_cons_zero, List.set_cons_succ, Nat.reduceAdd] at hk ⊢
            try simp only [hk]
          · go_wp2
            exact ⟨_, rfl, rfl, Since.refl _⟩
          · have hg := hv.out.keep (hO.out.old.trans (hH.out.trans hs))
            have hB := hid (XS w8 hg.tab)
            clear hk hg
            go_wp2_with fail
            refine hB.out.mono ?_
            rintro e9 w9 ⟨rfl, hb⟩
            have hi := hid hb
            clear hb
            go_wp2
            exact ⟨_, rfl, rfl, hi.out⟩
          iterate 2
           · go_wp2
             exact ⟨_, rfl, rfl, Since.refl _⟩
          · go_wp2
            exact ⟨_, (Zy _ 24).symm, trivial, Since.refl _⟩
          · go_wp2
            exact ⟨_, (Zy _ 25).symm, trivial, Since.refl _⟩
          · go_wp2
            exact ⟨_, (Zy _ 26).symm, trivial, Since.refl _⟩
          · go_wp2
            exact ⟨_, (Zy _ 27).symm, trivial, Since.refl _⟩
          · go_wp2
            exact ⟨_, (Zy _ 28).symm, trivial, Since.refl _⟩
    · have tE : ((n : Int) == 3) = false := by rw [beq_eq_false_iff_ne]; omega
      have HZ := hid (show Yk tl (f :: r) = .error 70 from by
        show (if f = Wf then _ else _) = _
        rw [if_pos HF.out]; exact if_neg (fun e => h3 (by rw [← H4.out, List.length_cons, e])))
      clear h3
      go_wp2_with fail
      refine (Zw w HH.out true 72 (by decide)).mono ?_
      rintro e4 w4 ⟨rfl, hG, hF⟩
      have HJ := zH (TPa w0 pb tv 0 0 0 (.slice none 0 0) [] w4) hG
      have HB := hid hF
      clear hG hF
      go_wp2_with fail
      refine (Zw w4 HJ.out false 70 (by decide)).mono ?_
      rintro e5 w5 ⟨rfl, hX, hW⟩
      have h0 := hid (HE.out 70 w5 HZ.out (by decide) hX (HB.out.trans hW))
      clear hX hW
      go_wp2
      go_end0
      exact h0.out
  · have tj := ZbE hf
    have HZ := zH (Yk tl (f :: r) = .error 72) (if_neg hf)
    clear hf
    go_wp2_with fail
    refine (Zw w HH.out false 72 (by decide)).mono ?_
    rintro e4 w4 ⟨rfl, hG, hF⟩
    have h0 := hid (HE.out 72 w4 HZ.out (by decide) hG hF)
    clear hG hF
    go_wp2
    go_end0
    exact h0.out
end
def Zhy (w0:World) (pb:Nat) (i:Nat) (t:List ZH) (w:World):Prop:=∃ tv,TPa w0 pb tv 0 0 0 (.slice none 0 0) [] w∧OwnRow dtcells 2 79 w0.heap.size w tv t∧t.length≤i∧Ke t
def Zhz (w0:World) (pb:Nat) (n:Int) (w:World):Prop:=∃ tv,TPa w0 pb tv 0 0 n (.slice none 0 0) [] w∧n≠0
theorem Zcf (args:Array Value) (w:World):(callFunc 54 args).run Tryz.prog w=.ok (.enter 54 args) w:=by
 simp[callFunc,Tryz.func54];first | rfl | skip
theorem ZdS {l t:List ZH} {x : List ByteArray} (hl:Ke l) (h:Yk l x=.ok t):Ke t:=by
 unfold Yk at h;split at h
 ·cases h;exact hl
 ·split at h
  ·split at h
   ·split at h
    ·split at h
     ·cases h;exact hl.more _ _
     ·cases h
    ·cases h
   ·cases h
  ·cases h
theorem ZeO (w0:World) (pb:Nat) (hL:Ys w0):Zb9 54 pb Yk (Zhy w0 pb) (Zhz w0 pb) where
 e0:=fun i t w ⟨tv,h,_⟩=>⟨h.cell 3,h.box.lt⟩
 keep:=fun i t w w' ⟨tv,h,h1,h2⟩ s=>⟨tv,h.keep s,OwnRow.keep h1 s,h2⟩
 laid:=fun i t w ⟨tv,h,_⟩=>hL.keep h.old
 more:=fun i t w ⟨tv,h,h1,h2,h3⟩=>⟨tv,h,h1,by omega,h3⟩
 enters:=Zcf
 bad:=fun n w ⟨tv,h,hn⟩=>⟨h.cell 3,hn,h.box.lt⟩
 call:=fun i t w v f r ⟨tv,h,ho,hf,hd⟩ hi hv hq hn=>by
  refine (ZeP w tv t h ho hL (by omega) v f r hv hq hn).mono ?_
  rintro x w' ⟨rfl,tv',tl',e',hp,he,ht,ha⟩
  refine⟨rfl,ht.mono fun q _ hc=>?_,?_⟩
  ·rcases hc with rfl|hc
   ·exact fun cs hb=>Y4 h.box hb (by decide) rfl
   ·exact fun cs hb=>Zk ho hb (by decide) hc
  ·cases hs:Yk t (f::r) with
   | error n =>
    rw[hs]at ha
    obtain⟨h1,h2⟩:=ha
    subst h1
    exact⟨tv',hp,h2⟩
   | ok u =>
    rw[hs]at ha
    obtain⟨h1,h2⟩:=ha
    subst h1 h2
    exact⟨tv',hp,he,by have:=Zc6 hs;omega,ZdS hd hs⟩
def ZgD (s:ByteArray) (w:World) (e:Ending) (w':World):Prop:=∃ v l line er,e=.returned (.tuple #[v,.int .i64 line,.int .i64 er])∧Ws w' v l∧(⟨l,line,er⟩:X5)=XD s.data.toList∧Since w w'
theorem Zdf (s:ByteArray) (w:World) (hs:s.size≤300000) (hL:Ys w):Calls Tryz.prog 33 #[.string s] w (ZgD s w):=by
 have hr:=hid hL;have hq:=hid (PaM.start w 93 [.slice none 0 0] (by decide));clear hL;go_enter Tryz.func33,Tryz.ntmps33
 go_wp2_with fail
 refine (ZbT (ZeO w w.heap.size hr.out) [] s _ ⟨_,hq.out,OwnRow.nil _ _ _ _ _,Nat.le_refl _,fun _ h=>(by cases h)⟩ hs).mono ?_;rintro e2 w2 ⟨wrong,rfl,ha⟩;obtain⟨pb,hf⟩:∃ q,w.heap.size=q:=⟨_,rfl⟩
 have hj:=hid (show XD s.data.toList=match YO Yk 0 [] (linesOf s.data.toList) with
  | .error x=>⟨[],x.1,x.2⟩
  | .ok t=>⟨t,0,0⟩ from rfl)
 rw[hf]at ha ⊢;clear hf
 cases hg:YO Yk 0 [] (linesOf s.data.toList) with
 | error x =>
  rw[hg]at ha;obtain⟨ln,E⟩:=x;obtain⟨h1,tv,hp,hc⟩:=ha;simp only at h1 hp hc;subst h1;have he:=zH ((⟨[],wrong,E⟩:X5)=XD s.data.toList) (by rw[hj.out,hg]);have hE:(E==0)=false:=by rw[beq_eq_false_iff_ne];exact hc
  have c3:w2.cell? ⟨pb,3,none⟩=some (.int .i64 E):=hp.cell 3;have hb:=hp.box.lt;have hd:=hid hp.old;clear hg hp hc;go_wp2_with fail
  refine ZG rfl (by decide +kernel) (by decide +kernel)
   [Is (.int .i64 wrong),Is (.pointer (some ⟨pb,0,none⟩)),Is (.pointer (some ⟨pb,0,none⟩)),Is (.pointer (some ⟨pb,3,none⟩)),Is (.int .i64 E),Is (.slice none 0 0),Is (.int .i64 wrong),Is (.int .i64 E)]
   (by repeat (first | exact trivial | refine⟨Is.stable _,?_⟩ | refine⟨ZV.stable _ _,?_⟩ | refine⟨IsRows.stable _ _,?_⟩)) ⟨?_,?_,?_,?_,?_,?_,?_,?_,trivial⟩ ?_
  all_goals
   intro vs w8 hs hk;simp only[putAll,Act.put,Zh,Zc,Zd,Is,List.setIfInBounds_toArray,List.set_cons_zero,List.set_cons_succ,Nat.reduceAdd,List.length_cons,List.length_nil]at hk ⊢;try simp only[hk]
  iterate 4
   ·go_wp2
    exact⟨_,rfl,rfl,.refl _⟩
  ·have z1:w8.cell? ⟨pb,3,none⟩=some (.int .i64 E):=(hs.cell (p:=⟨pb,3,none⟩) hb).trans c3;have z2:pb<w8.heap.size:=Nat.lt_of_lt_of_le hb hs.size;go_wp2
   exact⟨_,rfl,rfl,.refl _⟩
  iterate 3
   ·go_wp2
    exact⟨_,rfl,rfl,.refl _⟩
  ·have hn:=hid (hd.out.trans hs);clear hs hk;go_wp2
   go_ret3
   exact⟨_,[],wrong,E,rfl,X7 _,he.out,hn.out⟩
 | ok t =>
  rw[hg]at ha;obtain⟨h1,i,hi,tv,hp,ho,ht,hh⟩:=ha;subst h1;have he:=zH ((⟨t,0,0⟩:X5)=XD s.data.toList) (by rw[hj.out,hg]);have c3:w2.cell? ⟨pb,3,none⟩=some (.int .i64 0):=hp.cell 3;have c4:w2.cell? ⟨pb,4,none⟩=some tv:=hp.cell 4;have hb:=hp.box.lt;have hd:=hid hp.old;have hm:=hid (Zax ho hh);obtain⟨ta,tc,hl⟩:=Ze ho;subst hl;clear hg hp ho hh;go_wp2
  go_ret3
  exact⟨_,t,0,0,rfl,hm.out,he.out,hd.out⟩
end Go.Proofs.YtmhojfpidedjeaaGreatDoor
