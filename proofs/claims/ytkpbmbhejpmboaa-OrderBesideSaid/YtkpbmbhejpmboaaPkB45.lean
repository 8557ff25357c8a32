/- jacquardref17.SameMach. jacquardlaw17.OrderBeside walked. jacquardlaw17.OrderBeside, of all values that may come in. -/
import Derived.Test.YtkpbmbhejpmboaaPkB03
import Derived.Test.YtkpbmbhejpmboaaPkB06
import Derived.Test.YtkpbmbhejpmboaaPkB07
import Derived.Test.YtkpbmbhejpmboaaPkB16
import Derived.Test.YtkpbmbhejpmboaaPkB41
import Derived.Test.YtkpbmbhejpmboaaPkB44
import Derived.OpenShut
namespace Go.Proofs.Ytkpbmbhejpmboaa
open Go.RowKit
set_option linter.unusedVariables false
set_option maxHeartbeats 2000000 in
set_option maxRecDepth 100000 in
theorem rsamem_0 (x y:Mach) (xv yv:Value) (w:World) (hx:Ints w xv x.args) (hy:Ints w yv y.args) (h0:(x.op==y.op)=false):Calls Try.prog 33 #[mv x xv,mv y yv] w (TellsS false w):=by
 obtain⟨o1,d1,e1,a1,b1,c1,i1,l1⟩:=x
 obtain⟨o2,d2,e2,a2,b2,c2,i2,l2⟩:=y
 obtain⟨q1,k1,hv1⟩:=nums_lenI hx
 obtain⟨q2,k2,hv2⟩:=nums_lenI hy
 dsimp only at hv1 hv2 h0
 subst hv1
 subst hv2
 have HX:=Lib.hid hx
 have HY:=Lib.hid hy
 clear hx hy
 unfold mv
 dsimp only
 go_enter Try.func33,Try.ntmps33
 go_wp2
 go_ret
 exact⟨rfl,(((Since.refl _).alloc _).alloc _)⟩
set_option maxHeartbeats 2000000 in
set_option maxRecDepth 100000 in
theorem rsamem_1 (x y:Mach) (xv yv:Value) (w:World) (hx:Ints w xv x.args) (hy:Ints w yv y.args) (h0:(x.op==y.op)=true) (h1:(x.d==y.d)=false):Calls Try.prog 33 #[mv x xv,mv y yv] w (TellsS false w):=by
 obtain⟨o1,d1,e1,a1,b1,c1,i1,l1⟩:=x
 obtain⟨o2,d2,e2,a2,b2,c2,i2,l2⟩:=y
 obtain⟨q1,k1,hv1⟩:=nums_lenI hx
 obtain⟨q2,k2,hv2⟩:=nums_lenI hy
 dsimp only at hv1 hv2 h0 h1
 subst hv1
 subst hv2
 have HX:=Lib.hid hx
 have HY:=Lib.hid hy
 clear hx hy
 unfold mv
 dsimp only
 go_enter Try.func33,Try.ntmps33
 go_wp2
 go_ret
 exact⟨rfl,(((Since.refl _).alloc _).alloc _)⟩
set_option maxHeartbeats 2000000 in
set_option maxRecDepth 100000 in
theorem rsamem_2 (x y:Mach) (xv yv:Value) (w:World) (hx:Ints w xv x.args) (hy:Ints w yv y.args) (h0:(x.op==y.op)=true) (h1:(x.d==y.d)=true) (h2:(x.e==y.e)=false):Calls Try.prog 33 #[mv x xv,mv y yv] w (TellsS false w):=by
 obtain⟨o1,d1,e1,a1,b1,c1,i1,l1⟩:=x
 obtain⟨o2,d2,e2,a2,b2,c2,i2,l2⟩:=y
 obtain⟨q1,k1,hv1⟩:=nums_lenI hx
 obtain⟨q2,k2,hv2⟩:=nums_lenI hy
 dsimp only at hv1 hv2 h0 h1 h2
 subst hv1
 subst hv2
 have HX:=Lib.hid hx
 have HY:=Lib.hid hy
 clear hx hy
 unfold mv
 dsimp only
 go_enter Try.func33,Try.ntmps33
 go_wp2
 go_ret
 exact⟨rfl,(((Since.refl _).alloc _).alloc _)⟩
set_option maxHeartbeats 2000000 in
set_option maxRecDepth 100000 in
theorem rsamem_3 (x y:Mach) (xv yv:Value) (w:World) (hx:Ints w xv x.args) (hy:Ints w yv y.args) (h0:(x.op==y.op)=true) (h1:(x.d==y.d)=true) (h2:(x.e==y.e)=true) (h3:(x.a==y.a)=false):Calls Try.prog 33 #[mv x xv,mv y yv] w (TellsS false w):=by
 obtain⟨o1,d1,e1,a1,b1,c1,i1,l1⟩:=x
 obtain⟨o2,d2,e2,a2,b2,c2,i2,l2⟩:=y
 obtain⟨q1,k1,hv1⟩:=nums_lenI hx
 obtain⟨q2,k2,hv2⟩:=nums_lenI hy
 dsimp only at hv1 hv2 h0 h1 h2 h3
 subst hv1
 subst hv2
 have HX:=Lib.hid hx
 have HY:=Lib.hid hy
 clear hx hy
 unfold mv
 dsimp only
 go_enter Try.func33,Try.ntmps33
 go_wp2
 go_ret
 exact⟨rfl,(((Since.refl _).alloc _).alloc _)⟩
set_option maxHeartbeats 2000000 in
set_option maxRecDepth 100000 in
theorem rsamem_4 (x y:Mach) (xv yv:Value) (w:World) (hx:Ints w xv x.args) (hy:Ints w yv y.args) (h0:(x.op==y.op)=true) (h1:(x.d==y.d)=true) (h2:(x.e==y.e)=true) (h3:(x.a==y.a)=true) (h4:(x.b==y.b)=false):Calls Try.prog 33 #[mv x xv,mv y yv] w (TellsS false w):=by
 obtain⟨o1,d1,e1,a1,b1,c1,i1,l1⟩:=x
 obtain⟨o2,d2,e2,a2,b2,c2,i2,l2⟩:=y
 obtain⟨q1,k1,hv1⟩:=nums_lenI hx
 obtain⟨q2,k2,hv2⟩:=nums_lenI hy
 dsimp only at hv1 hv2 h0 h1 h2 h3 h4
 subst hv1
 subst hv2
 have HX:=Lib.hid hx
 have HY:=Lib.hid hy
 clear hx hy
 unfold mv
 dsimp only
 go_enter Try.func33,Try.ntmps33
 go_wp2
 go_ret
 exact⟨rfl,(((Since.refl _).alloc _).alloc _)⟩
set_option maxHeartbeats 2000000 in
set_option maxRecDepth 100000 in
theorem rsamem_5 (x y:Mach) (xv yv:Value) (w:World) (hx:Ints w xv x.args) (hy:Ints w yv y.args) (h0:(x.op==y.op)=true) (h1:(x.d==y.d)=true) (h2:(x.e==y.e)=true) (h3:(x.a==y.a)=true) (h4:(x.b==y.b)=true) (h5:(x.c==y.c)=false):Calls Try.prog 33 #[mv x xv,mv y yv] w (TellsS false w):=by
 obtain⟨o1,d1,e1,a1,b1,c1,i1,l1⟩:=x
 obtain⟨o2,d2,e2,a2,b2,c2,i2,l2⟩:=y
 obtain⟨q1,k1,hv1⟩:=nums_lenI hx
 obtain⟨q2,k2,hv2⟩:=nums_lenI hy
 dsimp only at hv1 hv2 h0 h1 h2 h3 h4 h5
 subst hv1
 subst hv2
 have HX:=Lib.hid hx
 have HY:=Lib.hid hy
 clear hx hy
 unfold mv
 dsimp only
 go_enter Try.func33,Try.ntmps33
 go_wp2
 go_ret
 exact⟨rfl,(((Since.refl _).alloc _).alloc _)⟩
set_option maxHeartbeats 2000000 in
set_option maxRecDepth 100000 in
theorem rsamem_6 (x y:Mach) (xv yv:Value) (w:World) (hx:Ints w xv x.args) (hy:Ints w yv y.args) (h0:(x.op==y.op)=true) (h1:(x.d==y.d)=true) (h2:(x.e==y.e)=true) (h3:(x.a==y.a)=true) (h4:(x.b==y.b)=true) (h5:(x.c==y.c)=true) (h6:(x.imm==y.imm)=false):Calls Try.prog 33 #[mv x xv,mv y yv] w (TellsS false w):=by
 obtain⟨o1,d1,e1,a1,b1,c1,i1,l1⟩:=x
 obtain⟨o2,d2,e2,a2,b2,c2,i2,l2⟩:=y
 obtain⟨q1,k1,hv1⟩:=nums_lenI hx
 obtain⟨q2,k2,hv2⟩:=nums_lenI hy
 dsimp only at hv1 hv2 h0 h1 h2 h3 h4 h5 h6
 subst hv1
 subst hv2
 have HX:=Lib.hid hx
 have HY:=Lib.hid hy
 clear hx hy
 unfold mv
 dsimp only
 go_enter Try.func33,Try.ntmps33
 go_wp2
 go_ret
 exact⟨rfl,(((Since.refl _).alloc _).alloc _)⟩
set_option maxHeartbeats 2000000 in
set_option maxRecDepth 100000 in
theorem rsamem_7 (x y:Mach) (xv yv:Value) (w:World) (hx:Ints w xv x.args) (hy:Ints w yv y.args) (h0:(x.op==y.op)=true) (h1:(x.d==y.d)=true) (h2:(x.e==y.e)=true) (h3:(x.a==y.a)=true) (h4:(x.b==y.b)=true) (h5:(x.c==y.c)=true) (h6:(x.imm==y.imm)=true):Calls Try.prog 33 #[mv x xv,mv y yv] w (TellsS (numsB x.args y.args) w):=by
 obtain⟨o1,d1,e1,a1,b1,c1,i1,l1⟩:=x
 obtain⟨o2,d2,e2,a2,b2,c2,i2,l2⟩:=y
 obtain⟨q1,k1,hv1⟩:=nums_lenI hx
 obtain⟨q2,k2,hv2⟩:=nums_lenI hy
 dsimp only at hv1 hv2 h0 h1 h2 h3 h4 h5 h6
 subst hv1
 subst hv2
 have HX:=Lib.hid hx
 have HY:=Lib.hid hy
 clear hx hy
 unfold mv
 dsimp only
 go_enter Try.func33,Try.ntmps33
 go_wp2_with fail
 refine (rnums_any _ _ _ _ _ (HX.out.keep (((Since.refl _).alloc _).alloc _)) (HY.out.keep (((Since.refl _).alloc _).alloc _))).mono ?_
 rintro e w1 ⟨rfl,hs1⟩
 go_wp2
 go_ret
 exact⟨rfl,(((Since.refl _).alloc _).alloc _).trans hs1⟩
theorem rsamem_any (x y:Mach) (xv yv:Value) (w:World) (hx:Ints w xv x.args) (hy:Ints w yv y.args):Calls Try.prog 33 #[mv x xv,mv y yv] w (TellsS (sameM x y) w):=by
 unfold sameM
 cases h0:(x.op==y.op) with
 | false=>exact rsamem_0 x y xv yv w hx hy h0
 | true =>
  cases h1:(x.d==y.d) with
  | false=>exact rsamem_1 x y xv yv w hx hy h0 h1
  | true =>
   cases h2:(x.e==y.e) with
   | false=>exact rsamem_2 x y xv yv w hx hy h0 h1 h2
   | true =>
    cases h3:(x.a==y.a) with
    | false=>exact rsamem_3 x y xv yv w hx hy h0 h1 h2 h3
    | true =>
     cases h4:(x.b==y.b) with
     | false=>exact rsamem_4 x y xv yv w hx hy h0 h1 h2 h3 h4
     | true =>
      cases h5:(x.c==y.c) with
      | false=>exact rsamem_5 x y xv yv w hx hy h0 h1 h2 h3 h4 h5
      | true =>
       cases h6:(x.imm==y.imm) with
       | false=>exact rsamem_6 x y xv yv w hx hy h0 h1 h2 h3 h4 h5 h6
       | true =>
        exact rsamem_7 x y xv yv w hx hy h0 h1 h2 h3 h4 h5 h6
set_option maxHeartbeats 8000000 in
set_option maxRecDepth 1000000 in
theorem walk_beside (sv : Value) (s : List Int) (a0 a1 : Int) (w : World) (h : Ints w sv s) (hsv : ∀ q, sv.ownBlock = some q → q < w.heap.size) : Calls Try.prog 7 #[sv, .agg #[.int .i64 a0, .int .i64 a1]] w (TellsS true w) := by
  obtain ⟨sa, sc, hv⟩ := nums_lenI h
  obtain ⟨sl, hsl⟩ : ∃ x, s.length = x := ⟨_, rfl⟩
  rw [hsl] at hv
  subst hv
  have H := Lib.hid h
  have HSV := Lib.hid hsv
  clear h hsv hsl
  go_enter Try.func7, Try.ntmps7
  go_upto_region 1 with fail
  obtain ⟨qb, hqb⟩ : ∃ z, z = w.heap.size := ⟨_, rfl⟩
  obtain ⟨w0, hw0⟩ : ∃ z, z = w.alloc (.cells #[.int .i64 a0, .int .i64 a1] 65) := ⟨_, rfl⟩
  have HQB := Lib.hid (show HeapIs w0 qb #[.int .i64 a0, .int .i64 a1] 65 from by rw [hw0, hqb]; exact HeapIs.new _ _ _)
  have HS0 := Lib.hid (show Since w w0 from by rw [hw0]; exact (Since.refl _).alloc _)
  rw [← hw0, ← hqb]
  clear hw0 hqb
  go_wp2_with fail
  refine (awake_any _).mono ?_
  rintro e w1 ⟨rfl, hs1⟩
  have HS1 := Lib.hid hs1
  clear hs1
  go_wp2_with fail
  refine (seed17_any (.slice sa sl sc) s w1 (H.out.keep (HS0.out.trans HS1.out)) fun q hq => Nat.lt_of_lt_of_le (HSV.out q hq) (HS0.out.trans HS1.out).size).mono ?_
  rintro e w1b ⟨v, rfl, hw, hv, hvl⟩
  have e9 := hw.symm
  clear hw
  subst e9
  have HV := Lib.hid hv
  have HVL := Lib.hid hvl
  clear hv hvl
  go_wp2_with fail
  refine (made12_any v (s.take 300) w1 HV.out HVL.out (by rw [List.length_take]; omega)).mono ?_
  rintro e w2 ⟨p, rfl, hk, hmp, hs2⟩
  have HS2 := Lib.hid ((HS0.out.trans HS1.out).trans hs2)
  have HS02 := Lib.hid (HS1.out.trans hs2)
  have HGP := Lib.hid (hmp.good hk)
  have HOK := Lib.hid hmp.ok
  obtain ⟨pp, pk, ps, pbl, pbv⟩ := p
  obtain ⟨pa, pc, hpv⟩ := OwnRow.shape hmp.row
  obtain ⟨n, hn⟩ : ∃ z, pbl.length = z := ⟨_, rfl⟩
  dsimp only at hpv
  rw [hn] at hpv
  subst hpv
  have HN9 := Lib.hid (show pbl.length ≤ 9 from hmp.blocks.2)
  unfold pv
  dsimp only
  clear hk hmp hs2 hn HV HVL H HSV
  go_upto_region 3 with fail
  obtain ⟨pb, hpb⟩ : ∃ z, z = w2.heap.size := ⟨_, rfl⟩
  obtain ⟨w3, hw3⟩ : ∃ z, z = w2.alloc (.cells #[.int .i64 pp, .int .i64 pk, .int .i64 ps, .slice pa n pc] 24) := ⟨_, rfl⟩
  have HPB := Lib.hid (show HeapIs w3 pb #[.int .i64 pp, .int .i64 pk, .int .i64 ps, .slice pa n pc] 24 from by rw [hw3, hpb]; exact HeapIs.new _ _ _)
  have HS23 := Lib.hid (show Since w2 w3 from by rw [hw3]; exact (Since.refl _).alloc _)
  have HS3 := Lib.hid (HS2.out.trans HS23.out)
  have HQ3 := Lib.hid (HQB.out.keep (HS02.out.trans HS23.out))
  have HOK3 := Lib.hid (HOK.out.keep HS23.out)
  rw [← hw3, ← hpb]
  clear hw3 hpb HQB HS02 HOK
  have px := HPB.out
  have p0 := px.cell 0
  have p1 := px.cell 1
  have p2 := px.cell 2
  have p3 := px.cell 3
  have pl := px.lt
  clear px
  have qx := HQ3.out
  have q0 := qx.cell 0
  have q1 := qx.cell 1
  have ql := qx.lt
  clear qx
  have HC := Lib.hid (swapped17_any ⟨pp, pk, ps, pbl, .slice pa n pc⟩ a0 a1 w3 HOK3.out (by have := HN9.out; dsimp only; omega))
  unfold pv at HC
  dsimp only at HC
  go_wp2_with fail
  refine HC.out.mono ?_
  clear HC
  rintro e w4 ⟨⟨qp, qk, qs, qbl, qbv⟩, ⟨o1, d1, e1, a1, b1, c1, i1, l1⟩, ⟨o2, d2, e2, a2, b2, c2, i2, l2⟩, xv, yv, rfl, hqok, hsw, hx, hy, hs4⟩
  obtain ⟨qa, qc, hqv, _⟩ := RowIn.shape hqok.1
  obtain ⟨qn, hqn⟩ : ∃ z, qbl.length = z := ⟨_, rfl⟩
  dsimp only at hqv
  rw [hqn] at hqv
  subst hqv
  obtain ⟨x1, m1, hxv⟩ := nums_lenI hx.1
  obtain ⟨x2, m2, hyv⟩ := nums_lenI hy.1
  obtain ⟨k1, hk1⟩ : ∃ z, l1.length = z := ⟨_, rfl⟩
  obtain ⟨k2, hk2⟩ : ∃ z, l2.length = z := ⟨_, rfl⟩
  dsimp only at hxv hyv
  rw [hk1] at hxv
  rw [hk2] at hyv
  subst hxv hyv
  have HQOK := Lib.hid hqok
  have HX := Lib.hid hx
  have HY := Lib.hid hy
  have HS34 := Lib.hid hs4
  have HLAW := Lib.hid (beside_law HGP.out hsw)
  have HOR := Lib.hid (checkE_or HGP.out.right (swap_right HGP.out hsw).right)
  clear hqok hsw hx hy hs4 hqn hk1 hk2 p0 p1 p2 p3 pl q0 q1 ql
  unfold pv mv
  dsimp only
  go_upto_region 4 with fail
  obtain ⟨wa, hwa⟩ : ∃ z, z = w4.alloc (.cells #[.int .i64 qp, .int .i64 qk, .int .i64 qs, .slice qa qn qc] 24) := ⟨_, rfl⟩
  obtain ⟨wb, hwb⟩ : ∃ z, z = wa.alloc (.cells #[.int .i64 o1, .int .i64 d1, .int .i64 e1, .int .i64 a1, .int .i64 b1, .int .i64 c1, .int .i32 i1, .slice x1 k1 m1] 46) := ⟨_, rfl⟩
  obtain ⟨w5, hw5⟩ : ∃ z, z = wb.alloc (.cells #[.int .i64 o2, .int .i64 d2, .int .i64 e2, .int .i64 a2, .int .i64 b2, .int .i64 c2, .int .i32 i2, .slice x2 k2 m2] 46) := ⟨_, rfl⟩
  have za : wa.heap.size = w4.heap.size + 1 := by rw [hwa]; simp
  have zb : wb.heap.size = w4.heap.size + 1 + 1 := by rw [hwb]; simp [za]
  have sa' : Since w4 wa := by rw [hwa]; exact (Since.refl _).alloc _
  have sb' : Since wa wb := by rw [hwb]; exact (Since.refl _).alloc _
  have se' : Since wb w5 := by rw [hw5]; exact (Since.refl _).alloc _
  obtain ⟨rb, hrb⟩ : ∃ z, z = w4.heap.size := ⟨_, rfl⟩
  obtain ⟨xb, hxb⟩ : ∃ z, z = w4.heap.size + 1 := ⟨_, rfl⟩
  obtain ⟨yb, hyb⟩ : ∃ z, z = w4.heap.size + 1 + 1 := ⟨_, rfl⟩
  have HRB := Lib.hid (show HeapIs w5 rb #[.int .i64 qp, .int .i64 qk, .int .i64 qs, .slice qa qn qc] 24 from by
    have k1 : HeapIs wa rb #[.int .i64 qp, .int .i64 qk, .int .i64 qs, .slice qa qn qc] 24 := by rw [hwa, hrb]; exact HeapIs.new _ _ _
    exact k1.keep (sb'.trans se'))
  have HXB := Lib.hid (show HeapIs w5 xb #[.int .i64 o1, .int .i64 d1, .int .i64 e1, .int .i64 a1, .int .i64 b1, .int .i64 c1, .int .i32 i1, .slice x1 k1 m1] 46 from by
    have k1 : HeapIs wb xb #[.int .i64 o1, .int .i64 d1, .int .i64 e1, .int .i64 a1, .int .i64 b1, .int .i64 c1, .int .i32 i1, .slice x1 k1 m1] 46 := by rw [hwb, hxb, ← za]; exact HeapIs.new _ _ _
    exact k1.keep se')
  have HYB := Lib.hid (show HeapIs w5 yb #[.int .i64 o2, .int .i64 d2, .int .i64 e2, .int .i64 a2, .int .i64 b2, .int .i64 c2, .int .i32 i2, .slice x2 k2 m2] 46 from by rw [hw5, hyb, ← zb]; exact HeapIs.new _ _ _)
  have HS45 := Lib.hid (show Since w4 w5 from (sa'.trans sb').trans se')
  rw [← hwa, ← hwb, ← hw5, ← hyb, ← hxb, ← hrb]
  clear hwa hwb hw5 hrb hxb hyb za zb sa' sb' se'
  have HPB5 := Lib.hid (HPB.out.keep (HS34.out.trans HS45.out))
  have p0 := HPB5.out.cell 0
  have p1 := HPB5.out.cell 1
  have p2 := HPB5.out.cell 2
  have p3 := HPB5.out.cell 3
  have pl := HPB5.out.lt
  have r0 := HRB.out.cell 0
  have r1 := HRB.out.cell 1
  have r2 := HRB.out.cell 2
  have r3 := HRB.out.cell 3
  have rl := HRB.out.lt
  have HC := Lib.hid (check_any ⟨pp, pk, ps, pbl, .slice pa n pc⟩ ⟨qp, qk, qs, qbl, .slice qa qn qc⟩ w5 (HOK3.out.keep (HS34.out.trans HS45.out)) (HQOK.out.keep HS45.out))
  obtain ⟨ce, hce⟩ : ∃ z, (checkE ⟨pp, pk, ps, pbl, .slice pa n pc⟩ ⟨qp, qk, qs, qbl, .slice qa qn qc⟩).1 = z := ⟨_, rfl⟩
  obtain ⟨cb, hcb⟩ : ∃ z, (checkE ⟨pp, pk, ps, pbl, .slice pa n pc⟩ ⟨qp, qk, qs, qbl, .slice qa qn qc⟩).2.1 = z := ⟨_, rfl⟩
  obtain ⟨ci, hci⟩ : ∃ z, (checkE ⟨pp, pk, ps, pbl, .slice pa n pc⟩ ⟨qp, qk, qs, qbl, .slice qa qn qc⟩).2.2 = z := ⟨_, rfl⟩
  rw [hce, hcb, hci] at HC
  rw [hce] at HLAW HOR
  unfold pv at HC
  dsimp only at HC
  clear hce hcb hci
  go_wp2_with fail
  refine HC.out.mono ?_
  clear HC p0 p1 p2 p3 pl r0 r1 r2 r3 rl
  rintro e w6 ⟨rfl, hs6⟩
  have HXB6 := Lib.hid (HXB.out.keep hs6)
  have HYB6 := Lib.hid (HYB.out.keep hs6)
  have HS6 := Lib.hid (HS3.out.trans ((HS34.out.trans HS45.out).trans hs6))
  have HX6 := Lib.hid (show (Ints w6 (.slice x1 k1 m1) l1 ∧ Fine ⟨o1, d1, e1, a1, b1, c1, i1, l1⟩) ∧ (Ints w6 (.slice x2 k2 m2) l2 ∧ Fine ⟨o2, d2, e2, a2, b2, c2, i2, l2⟩) from ⟨⟨HX.out.1.keep (HS45.out.trans hs6), HX.out.2⟩, ⟨HY.out.1.keep (HS45.out.trans hs6), HY.out.2⟩⟩)
  clear hs6 HXB HYB HX HY HPB5 HRB
  have x0 := HXB6.out.cell 0
  have xc1 := HXB6.out.cell 1
  have xc2 := HXB6.out.cell 2
  have x3 := HXB6.out.cell 3
  have x4 := HXB6.out.cell 4
  have x5 := HXB6.out.cell 5
  have x6 := HXB6.out.cell 6
  have x7 := HXB6.out.cell 7
  have xl := HXB6.out.lt
  have y0 := HYB6.out.cell 0
  have y1 := HYB6.out.cell 1
  have y2 := HYB6.out.cell 2
  have y3 := HYB6.out.cell 3
  have y4 := HYB6.out.cell 4
  have y5 := HYB6.out.cell 5
  have y6 := HYB6.out.cell 6
  have y7 := HYB6.out.cell 7
  have yl := HYB6.out.lt
  by_cases h0 : o1 = 0 ∧ o2 = 0
  · obtain ⟨rfl, rfl⟩ := h0
    have hce : ce = 0 := HLAW.out.1 rfl rfl
    subst hce
    go_wp2_with fail
    go_ret
    exact ⟨rfl, HS6.out⟩
  · have hl := HLAW.out.2 (Or.elim (Classical.em (o1 = 0)) (fun h1 => .inr fun h2 => h0 ⟨h1, h2⟩) fun h1 => .inl h1)
    have HL := Lib.hid hl
    have hguard : (o1 == 0) = false ∨ (o1 == 0) = true ∧ (o2 == 0) = false := by
      by_cases h1 : o1 = 0
      · exact .inr ⟨by simpa using h1, by simpa using fun h2 => h0 ⟨h1, h2⟩⟩
      · exact .inl (by simpa using h1)
    have HD := Lib.hid (fun (w9 : World) (s9 : Since w6 w9) => show Calls Try.prog 32 #[.agg #[.int .i64 o1, .int .i64 d1, .int .i64 e1, .int .i64 a1, .int .i64 b1, .int .i64 c1, .int .i32 i1, .slice x1 k1 m1], .agg #[.int .i64 o2, .int .i64 d2, .int .i64 e2, .int .i64 a2, .int .i64 b2, .int .i64 c2, .int .i32 i2, .slice x2 k2 m2]] w9 (TellsS (dependsB ⟨o1, d1, e1, a1, b1, c1, i1, l1⟩ ⟨o2, d2, e2, a2, b2, c2, i2, l2⟩) w9) from by
      rw [depends_eq]
      exact rdepends_any ⟨o1, d1, e1, a1, b1, c1, i1, l1⟩ ⟨o2, d2, e2, a2, b2, c2, i2, l2⟩ (.slice x1 k1 m1) (.slice x2 k2 m2) w9 (HX6.out.1.1.keep s9) (HX6.out.2.1.keep s9) HX6.out.1.2 HX6.out.2.2)
    have HSM := Lib.hid (fun (w9 : World) (s9 : Since w6 w9) => show Calls Try.prog 33 #[.agg #[.int .i64 o1, .int .i64 d1, .int .i64 e1, .int .i64 a1, .int .i64 b1, .int .i64 c1, .int .i32 i1, .slice x1 k1 m1], .agg #[.int .i64 o2, .int .i64 d2, .int .i64 e2, .int .i64 a2, .int .i64 b2, .int .i64 c2, .int .i32 i2, .slice x2 k2 m2]] w9 (TellsS (sameM ⟨o1, d1, e1, a1, b1, c1, i1, l1⟩ ⟨o2, d2, e2, a2, b2, c2, i2, l2⟩) w9) from
      rsamem_any ⟨o1, d1, e1, a1, b1, c1, i1, l1⟩ ⟨o2, d2, e2, a2, b2, c2, i2, l2⟩ (.slice x1 k1 m1) (.slice x2 k2 m2) w9 (HX6.out.1.1.keep s9) (HX6.out.2.1.keep s9))
    obtain ⟨dp, hdp⟩ : ∃ z, dependsB ⟨o1, d1, e1, a1, b1, c1, i1, l1⟩ ⟨o2, d2, e2, a2, b2, c2, i2, l2⟩ = z := ⟨_, rfl⟩
    obtain ⟨sm, hsm⟩ : ∃ z, sameM ⟨o1, d1, e1, a1, b1, c1, i1, l1⟩ ⟨o2, d2, e2, a2, b2, c2, i2, l2⟩ = z := ⟨_, rfl⟩
    rw [hdp] at HD HL
    rw [hsm] at HSM HL
    clear hdp hsm hl h0
    rcases hguard with h1 | ⟨h1, h2⟩
    · go_wp2_with fail
      refine (HD.out w6 (Since.refl _)).mono ?_
      clear x0 xc1 xc2 x3 x4 x5 x6 x7 xl y0 y1 y2 y3 y4 y5 y6 y7 yl
      rintro e w7 ⟨rfl, hs7⟩
      have HXB7 := HXB6.out.keep hs7
      have HYB7 := HYB6.out.keep hs7
      have x0 := HXB7.cell 0
      have xc1 := HXB7.cell 1
      have xc2 := HXB7.cell 2
      have x3 := HXB7.cell 3
      have x4 := HXB7.cell 4
      have x5 := HXB7.cell 5
      have x6 := HXB7.cell 6
      have x7 := HXB7.cell 7
      have xl := HXB7.lt
      have y0 := HYB7.cell 0
      have y1 := HYB7.cell 1
      have y2 := HYB7.cell 2
      have y3 := HYB7.cell 3
      have y4 := HYB7.cell 4
      have y5 := HYB7.cell 5
      have y6 := HYB7.cell 6
      have y7 := HYB7.cell 7
      have yl := HYB7.lt
      have HS7 := Lib.hid hs7
      clear HXB7 HYB7 hs7
      go_wp2_with fail
      refine (HSM.out w7 HS7.out).mono ?_
      clear x0 xc1 xc2 x3 x4 x5 x6 x7 xl y0 y1 y2 y3 y4 y5 y6 y7 yl
      rintro e w8 ⟨rfl, hs8⟩
      have HS8 := Lib.hid (HS6.out.trans (HS7.out.trans hs8))
      clear hs8
      rcases HOR.out with rfl | rfl <;> cases dp <;> cases sm
      all_goals first
        | (exfalso; have h9 := HL.out; simp at h9; done)
        | (go_wp2_with fail
           go_ret
           exact ⟨rfl, HS8.out⟩)
    · go_wp2_with fail
      refine (HD.out w6 (Since.refl _)).mono ?_
      clear x0 xc1 xc2 x3 x4 x5 x6 x7 xl y0 y1 y2 y3 y4 y5 y6 y7 yl
      rintro e w7 ⟨rfl, hs7⟩
      have HXB7 := HXB6.out.keep hs7
      have HYB7 := HYB6.out.keep hs7
      have x0 := HXB7.cell 0
      have xc1 := HXB7.cell 1
      have xc2 := HXB7.cell 2
      have x3 := HXB7.cell 3
      have x4 := HXB7.cell 4
      have x5 := HXB7.cell 5
      have x6 := HXB7.cell 6
      have x7 := HXB7.cell 7
      have xl := HXB7.lt
      have y0 := HYB7.cell 0
      have y1 := HYB7.cell 1
      have y2 := HYB7.cell 2
      have y3 := HYB7.cell 3
      have y4 := HYB7.cell 4
      have y5 := HYB7.cell 5
      have y6 := HYB7.cell 6
      have y7 := HYB7.cell 7
      have yl := HYB7.lt
      have HS7 := Lib.hid hs7
      clear HXB7 HYB7 hs7
      go_wp2_with fail
      refine (HSM.out w7 HS7.out).mono ?_
      clear x0 xc1 xc2 x3 x4 x5 x6 x7 xl y0 y1 y2 y3 y4 y5 y6 y7 yl
      rintro e w8 ⟨rfl, hs8⟩
      have HS8 := Lib.hid (HS6.out.trans (HS7.out.trans hs8))
      clear hs8
      rcases HOR.out with rfl | rfl <;> cases dp <;> cases sm
      all_goals first
        | (exfalso; have h9 := HL.out; simp at h9; done)
        | (go_wp2_with fail
           go_ret
           exact ⟨rfl, HS8.out⟩)
open Go.RowKit Go.ChangeShapes Go.WideShapes
theorem list2 {α:Type} {l : List α} (h:l.length=2):∃ a b,l=[a,b]:=by
 match l,h with
 | [a,b],_=>exact⟨a,b,rfl⟩
theorem Try.cells2:Try.prog.cellsOf 65=2:=by kernel_rfl
set_option maxRecDepth 100000 in
theorem two_open {H : Type} {enc:TypeId × Value→H} {w : World} {base:Nat} {held:Bool} {r : Reach} {b0:Nat} {v : Value} {d : DataW H} {p : List MemPlace} (hv:Value.okWide Try.prog w r b0 65 v)
  (h:DataW.Trod enc Try.prog w base (fun _=>true) held 65 v d p):∃ x0 x1:Int,v=.agg #[.int .i64 x0,.int .i64 x1]:=by
 have hv':=hv
 simp only[Value.okWide,Try.underlying65]at hv'
 obtain⟨cs,rfl,hsz,_⟩:=hv'
 obtain⟨fuel,hf⟩:=h
 obtain⟨xs,m,_,_,hlen,hxs,hel⟩:=DataW.trod_array Try.underlying65 hf
 rw[Try.cells2]at hlen
 obtain⟨c0,c1,hc⟩:=list2 hlen
 have h0:=hel 0 (by decide)
 have h1:=hel 1 (by decide)
 rw[Try.cellsInt,hc]at h0 h1
 simp only[Nat.mul_one,List.drop_succ_cons,List.drop_zero,List.take_succ_cons,List.take_zero]at h0 h1
 obtain⟨n0,rfl,_⟩:=int_field Try.underlying3 h0 (by simp[hxs])
 obtain⟨n1,rfl,_⟩:=int_field Try.underlying3 h1 (by simp[hxs])
 refine⟨n0,n1,?_⟩
 have:cs=#[.int .i64 n0,.int .i64 n1]:=by
  apply Array.ext'
  simpa [Value.cells]using hc
 rw[this]
set_option maxRecDepth 100000 in
theorem law_beside {H : Type} {enc:TypeId × Value→H} {W : World} {base:Nat} {held:Bool} {r : Reach} {b0:Nat} {d0 d1:DataW H} {p0 p1:List MemPlace} (v0 v1:Value)
  (k0:Value.okWide Try.prog W r b0 25 v0) (h0:DataW.Trod enc Try.prog W base (fun _=>true) held 25 v0 d0 p0)
  (k1:Value.okWide Try.prog W r b0 65 v1) (h1:DataW.Trod enc Try.prog W base (fun _=>true) held 65 v1 d1 p1) :
  Calls Try.prog 7 #[v0,v1] W (TellsS true W):=by
 obtain⟨l,hl,_⟩:=ints_open k0 h0
 obtain⟨x0,x1,rfl⟩:=two_open k1 h1
 exact walk_beside v0 l x0 x1 W hl (okWide_lt Try.underlying25 k0)
end Go.Proofs.Ytkpbmbhejpmboaa
