/- jacquardlaw12.PhysSwaps walked, of all values that may come in. -/
import Derived.Test.YtimpddecdodddaaGreatPsAll
import Derived.OpenShut
namespace Go.Proofs.YtimpddecdodddaaGreat
open Go.RowKit Go.ChangeShapes Go.WideShapes
set_option linter.unusedVariables false
set_option maxHeartbeats 16000000 in
set_option maxRecDepth 1000000 in
theorem walk_swaps (lv nv:Value) (l ns:List Int) (x0 x1 x2 x3:Int) (w:World) (hl:Zi w lv l) (hlv:∀ q,lv.ownBlock=some q→q<w.heap.size) (hns:Zi w nv ns):Calls Tryz.prog 3 #[lv,.agg #[.int .i64 x0,.int .i64 x1,.int .i64 x2,.int .i64 x3],nv] w (TellsS true w):=by
 obtain⟨sa,sc,rfl⟩:=Zb hl
 obtain⟨ta,tc,rfl⟩:=Zb hns
 obtain⟨c,hc,hc4⟩:=and3_few x2
 obtain⟨d,hd,hd4⟩:=and3_few x3
 have hmd:=fun w1 (s:Since w w1)=>Zb0 _ l w1 (hl.keep s) fun q hq=>Nat.lt_of_lt_of_le (hlv q hq) s.size
 have hin:=fun w1 (s:Since w w1)=>Q7 _ ns w1 (hns.keep s)
 generalize l.length=sl at *
 generalize ns.length=tl at *
 have HMD:=Lib.hid hmd
 have HIN:=Lib.hid hin
 clear hl hlv hns hmd hin
 go_enter Tryz.func3,Tryz.ntmps3
 go_upto_region 1 with fail
 obtain⟨w0,hw0⟩:∃ z,z=w.alloc (.cells #[.int .i64 x0,.int .i64 x1,.int .i64 x2,.int .i64 x3] 23):=⟨_,rfl⟩
 obtain⟨ab,hab⟩:∃ z,z=w.heap.size:=⟨_,rfl⟩
 have HAB:=Lib.hid (show HeapIs w0 ab #[.int .i64 x0,.int .i64 x1,.int .i64 x2,.int .i64 x3] 23 from by rw[hw0,hab];exact HeapIs.new _ _ _)
 have HS0:=Lib.hid (show Since w w0 from by rw[hw0];exact (Since.refl _).alloc _)
 rw[←hw0,←hab]
 clear hw0 hab
 go_wp2_with fail
 refine (Zbz _).mono ?_
 rintro e w1 ⟨rfl,hs1⟩
 have HS1:=Lib.hid (HS0.out.trans hs1)
 have HAB1:=Lib.hid (HAB.out.keep hs1)
 clear hs1 HAB
 go_wp2_with fail
 refine (HMD.out w1 HS1.out).mono ?_
 rintro e w2 ⟨p,rfl,hk,hmp,hs2⟩
 have HGOOD:=Lib.hid (hmp.good hk)
 have HOK:=Lib.hid hmp.ok
 have HS2:=Lib.hid (HS1.out.trans hs2)
 have HAB2:=Lib.hid (HAB1.out.keep hs2)
 have HTO:=Lib.hid (show ∀ x∈p.blocks,x.fin.to.length≤100000 from fun x hx=>Vp.few ((hmp.good hk).each x hx).fin)
 obtain⟨pp,pk,ps,pbl,pbv⟩:=p
 obtain⟨n,hpn⟩:∃ z,pbl.length=z:=⟨_,rfl⟩
 obtain⟨g0,pc,hpv,_,hg0,hrow⟩:=Zao (n:=n) (show w2.ownsRow _ 34 6 pbv n (pbl.flatMap blcells) from by rw[←hpn];exact hmp.row) hpn (by have:=hmp.blocks;dsimp only at this;omega)
 subst hpv
 have HROW:=Lib.hid hrow
 have HN:=Lib.hid hpn
 have hn0:0<n∧n≤9:=by have:=HGOOD.out.blocks;dsimp only at this;omega
 have HN0:=Lib.hid hn0
 have HLOW:=Lib.hid (show ∀ x∈pbl,x.ins.length≤100000∧∀ z∈x.ins,LowPl w2.heap.size w2 z from fun x hx=>by
  have h1:=RowIn.each_of HOK.out.1 x hx
  exact⟨h1.2.2,fun z hz=>RowIn.each_of h1.1 z hz⟩)
 have HC:=Lib.hid hc
 have HD:=Lib.hid hd
 unfold pv
 dsimp only
 clear hk hmp hs2 hpn hn0 HAB1 hg0 hrow
 go_upto_region 3 with fail
 obtain⟨pb,hpb⟩:∃ z,z=w2.heap.size:=⟨_,rfl⟩
 obtain⟨w3,hw3⟩:∃ z,z=w2.alloc (.cells #[.int .i64 pp,.int .i64 pk,.int .i64 ps,.slice (some ⟨g0,0,none⟩) n pc] 27):=⟨_,rfl⟩
 have HPB:=Lib.hid (show HeapIs w3 pb #[.int .i64 pp,.int .i64 pk,.int .i64 ps,.slice (some ⟨g0,0,none⟩) n pc] 27 from by rw[hw3,hpb];exact HeapIs.new _ _ _)
 have HS23:=Lib.hid (show Since w2 w3 from by rw[hw3];exact (Since.refl _).alloc _)
 rw[←hw3,←hpb]
 have HPL:=Lib.hid (show w2.heap.size≤pb from by omega)
 clear hw3 hpb
 have HAB3:=Lib.hid (HAB2.out.keep HS23.out)
 have ha:=HAB3.out
 have ha2:=ha.cell 2
 have ha3:=ha.cell 3
 have hal:=ha.lt
 have hp:=HPB.out
 have hp0:=hp.cell 0
 have hp1:=hp.cell 1
 have hp2:=hp.cell 2
 have hp3:=hp.cell 3
 have hpl:=hp.lt
 clear ha hp HAB2
 go_upto_region 5 with fail
 clear ha2 ha3 hal hc hd
 have HOWN:=Lib.hid (fun (w9:World) (s9:Since w2 w9)=>own12_any ⟨pp,pk,ps,pbl,.slice (some ⟨g0,0,none⟩) n pc⟩ w9 (HOK.out.keep s9) (by dsimp only;rw[HN.out];exact HN0.out.1) HTO.out)
 go_wp2_with fail
 refine (HOWN.out w3 HS23.out).mono ?_
 rintro e v1 ⟨q,rfl,hq,hs⟩
 clear hp0 hp1 hp2 hp3 hpl
 obtain⟨g1,c1,bl1,rfl,hg,hgl,hbl⟩:=own_shape1 hq HN.out HN0.out.1
 have HQ1:=Lib.hid hq
 have HL1:=Lib.hid hbl
 have HG1:=Lib.hid (And.intro hg hgl)
 have HSv:=Lib.hid hs
 have HRv:=Lib.hid (show PsR w2.heap.size g1 n c1 bl1 v1 from psr_own hq HS23.out.size rfl (low_keep HLOW.out (HS23.out.trans hs)))
 unfold pv
 dsimp only
 clear hq hg hgl hs hbl
 go_upto_region 6 with fail
 obtain⟨o1,ho⟩:∃ z,z=v1.heap.size:=⟨_,rfl⟩
 obtain⟨u1,hu⟩:∃ z,z=v1.alloc (.cells #[.int .i64 pp,.int .i64 pk,.int .i64 ps,.slice (some ⟨g1,0,none⟩) n c1] 27):=⟨_,rfl⟩
 have HB1:=Lib.hid (show HeapIs u1 o1 #[.int .i64 pp,.int .i64 pk,.int .i64 ps,.slice (some ⟨g1,0,none⟩) n c1] 27 from by rw[hu,ho];exact HeapIs.new _ _ _)
 have hsu:Since v1 u1:=by rw[hu];exact (Since.refl _).alloc _
 have HO1:=Lib.hid (show g1<o1∧w3.heap.size≤o1∧o1<u1.heap.size from⟨by rw[ho];exact HG1.out.2,by rw[ho];exact HSv.out.size,HB1.out.lt⟩)
 rw[←hu,←ho]
 have HR1u1:=Lib.hid (HRv.out.keep hsu)
 have HT1:=Lib.hid (HSv.out.trans hsu)
 have HS2u1:=Lib.hid (HS23.out.trans HT1.out)
 have HS3u1:=Lib.hid (HT1.out)
 clear hu ho hsu HRv HSv
 have h9:=HPB.out.keep HS3u1.out
 have hp0:=h9.cell 0
 have hp1:=h9.cell 1
 have hp2:=h9.cell 2
 have hp3:=h9.cell 3
 have hpl:=h9.lt
 clear h9
 go_wp2_with fail
 refine (HOWN.out u1 HS2u1.out).mono ?_
 rintro e v2 ⟨q,rfl,hq,hs⟩
 clear hp0 hp1 hp2 hp3 hpl
 obtain⟨g2,c2,bl2,rfl,hg,hgl,hbl⟩:=own_shape1 hq HN.out HN0.out.1
 have HQ2:=Lib.hid hq
 have HL2:=Lib.hid hbl
 have HG2:=Lib.hid (And.intro hg hgl)
 have HSv:=Lib.hid hs
 have HRv:=Lib.hid (show PsR w2.heap.size g2 n c2 bl2 v2 from psr_own hq HS2u1.out.size rfl (low_keep HLOW.out (HS2u1.out.trans hs)))
 unfold pv
 dsimp only
 clear hq hg hgl hs hbl
 go_upto_region 7 with fail
 obtain⟨o2,ho⟩:∃ z,z=v2.heap.size:=⟨_,rfl⟩
 obtain⟨u2,hu⟩:∃ z,z=v2.alloc (.cells #[.int .i64 pp,.int .i64 pk,.int .i64 ps,.slice (some ⟨g2,0,none⟩) n c2] 27):=⟨_,rfl⟩
 have HB2:=Lib.hid (show HeapIs u2 o2 #[.int .i64 pp,.int .i64 pk,.int .i64 ps,.slice (some ⟨g2,0,none⟩) n c2] 27 from by rw[hu,ho];exact HeapIs.new _ _ _)
 have hsu:Since v2 u2:=by rw[hu];exact (Since.refl _).alloc _
 have HO2:=Lib.hid (show g2<o2∧u1.heap.size≤o2∧o2<u2.heap.size from⟨by rw[ho];exact HG2.out.2,by rw[ho];exact HSv.out.size,HB2.out.lt⟩)
 rw[←hu,←ho]
 have HR2u2:=Lib.hid (HRv.out.keep hsu)
 have HT2:=Lib.hid (HSv.out.trans hsu)
 have HS2u2:=Lib.hid (HS2u1.out.trans HT2.out)
 have HS3u2:=Lib.hid (HS3u1.out.trans HT2.out)
 clear hu ho hsu HRv HSv
 have h9:=HPB.out.keep HS3u2.out
 have hp0:=h9.cell 0
 have hp1:=h9.cell 1
 have hp2:=h9.cell 2
 have hp3:=h9.cell 3
 have hpl:=h9.lt
 clear h9
 go_wp2_with fail
 refine (HOWN.out u2 HS2u2.out).mono ?_
 rintro e v3 ⟨q,rfl,hq,hs⟩
 clear hp0 hp1 hp2 hp3 hpl
 obtain⟨g3,c3,bl3,rfl,hg,hgl,hbl⟩:=own_shape1 hq HN.out HN0.out.1
 have HQ3:=Lib.hid hq
 have HL3:=Lib.hid hbl
 have HG3:=Lib.hid (And.intro hg hgl)
 have HSv:=Lib.hid hs
 have HRv:=Lib.hid (show PsR w2.heap.size g3 n c3 bl3 v3 from psr_own hq HS2u2.out.size rfl (low_keep HLOW.out (HS2u2.out.trans hs)))
 unfold pv
 dsimp only
 clear hq hg hgl hs hbl
 go_upto_region 8 with fail
 obtain⟨o3,ho⟩:∃ z,z=v3.heap.size:=⟨_,rfl⟩
 obtain⟨u3,hu⟩:∃ z,z=v3.alloc (.cells #[.int .i64 pp,.int .i64 pk,.int .i64 ps,.slice (some ⟨g3,0,none⟩) n c3] 27):=⟨_,rfl⟩
 have HB3:=Lib.hid (show HeapIs u3 o3 #[.int .i64 pp,.int .i64 pk,.int .i64 ps,.slice (some ⟨g3,0,none⟩) n c3] 27 from by rw[hu,ho];exact HeapIs.new _ _ _)
 have hsu:Since v3 u3:=by rw[hu];exact (Since.refl _).alloc _
 have HO3:=Lib.hid (show g3<o3∧u2.heap.size≤o3∧o3<u3.heap.size from⟨by rw[ho];exact HG3.out.2,by rw[ho];exact HSv.out.size,HB3.out.lt⟩)
 rw[←hu,←ho]
 have HR3u3:=Lib.hid (HRv.out.keep hsu)
 have HT3:=Lib.hid (HSv.out.trans hsu)
 have HS2u3:=Lib.hid (HS2u2.out.trans HT3.out)
 have HS3u3:=Lib.hid (HS3u2.out.trans HT3.out)
 clear hu ho hsu HRv HSv
 have HH:=Lib.hid (show PsH w2 ab pb o1 o2 o3 g0 g1 g2 g3 n pc c1 c2 c3 #[.int .i64 x0,.int .i64 x1,.int .i64 x2,.int .i64 x3] pp pk ps ps bl1 bl2 bl3 u3 from⟨HS2u3.out,HAB3.out.keep HS3u3.out,HPB.out.keep HS3u3.out,HB1.out.keep (HT2.out.trans HT3.out),HB2.out.keep HT3.out,HB3.out,HR1u1.out.keep (HT2.out.trans HT3.out),HR2u2.out.keep HT3.out,HR3u3.out,by
  have a1:=HO1.out;have a2:=HO2.out;have a3:=HO3.out;have b1:=HG1.out;have b2:=HG2.out;have b3:=HG3.out;omega,by
  have a1:=HO1.out;have a2:=HO2.out;have a3:=HO3.out;have b1:=HPB.out.lt;have b2:=HS23.out.size;omega⟩)
 have HFAR:=Lib.hid (show g1<u3.heap.size∧g2<u3.heap.size∧g3<u3.heap.size from⟨HH.out.r1.lt.2,HH.out.r2.lt.2,HH.out.r3.lt.2⟩)
 clear HAB3 HPB HB1 HB2 HB3 HR1u1 HR2u2 HR3u3 HS3u1 HS3u2 HS3u3 HS2u1 HS2u2 HT1 HT2 HT3 HO1 HO2 HO3 HG1 HG2 HG3
 obtain⟨b,hb,hbn⟩:=and64_rest x0 n HN0.out.1
 obtain⟨x,hx⟩:∃ x,pbl[b]? = some x:=⟨_,List.getElem?_eq_getElem (by rw[HN.out];exact hbn)⟩
 obtain⟨y1,hy1⟩:∃ x,bl1[b]? = some x:=⟨_,List.getElem?_eq_getElem (by rw[HL1.out];exact hbn)⟩
 obtain⟨y2,hy2⟩:∃ x,bl2[b]? = some x:=⟨_,List.getElem?_eq_getElem (by rw[HL2.out];exact hbn)⟩
 obtain⟨y3,hy3⟩:∃ x,bl3[b]? = some x:=⟨_,List.getElem?_eq_getElem (by rw[HL3.out];exact hbn)⟩
 have HX:=Lib.hid hx
 have HY1:=Lib.hid hy1
 have HY2:=Lib.hid hy2
 have HY3:=Lib.hid hy3
 have HCB:=Lib.hid (fun (w9:World) (s9:Since w2 w9)=>ZaX YE (show OwnRow blcells 6 34 _ w9 _ _ from Zs (show w2.ownsRow _ _ _ _ _ _ from HROW.out) s9) hx)
 have hbk:=RowIn.each_of HOK.out.1 x (List.mem_of_getElem? hx)
 obtain⟨ins,insv,fin⟩:=x
 obtain⟨ia,ic,hiv,_⟩:=RowIn.shape hbk.1
 obtain⟨kn,hkn⟩:∃ z,ins.length=z:=⟨_,rfl⟩
 dsimp only at hiv
 rw[hkn]at hiv
 subst hiv
 have HKN:=Lib.hid hkn
 have hkb:kn≤40000:=by have h1:=ZaU (List.mem_of_getElem? hx);have h2:=HGOOD.out.total;dsimp only at h1 h2;omega
 have HPLS:=Lib.hid (show Pls w2 (.slice ia kn ic) ins from hbk.1)
 have HINS:=Lib.hid (show ∀ z∈ins,LowPl w2.heap.size w2 z from (HLOW.out _ (List.mem_of_getElem? hx)).2)
 obtain⟨i,hi,hik⟩:∃ i:Nat,(bits .and .i64 x1 65535).tmod ((kn:Int)+1)=(i:Int)∧i<kn+1:=by have h:=and64_rest x1 (kn+1) (Nat.succ_pos _);push_cast at h;exact h
 have HI:=Lib.hid hi
 have hne:((n:Int)==0)=false:=beq_eq_false_iff_ne.2 (by omega)
 have hnk:((kn:Int)+1==0)=false:=beq_eq_false_iff_ne.2 (by omega)
 have hps:=HGOOD.out.slots
 dsimp only at hps
 have HPS:=Lib.hid hps
 clear hx hy1 hy2 hy3 hbk hkn hi hps
 have h9:=HH.out.a
 have ha0:=h9.cell 0
 have hal:=h9.lt
 have h8:=HH.out.bp
 have hp3:=h8.cell 3
 have hpl:=h8.lt
 clear h9 h8
 go_upto_region 9 with fail
 clear ha0 hal hp3 hpl hb hne
 refine Zd rfl (by decide +kernel) (by decide +kernel)
  [Is (.pointer (some ⟨ab,1,none⟩)),Is (.int .i64 x1),Is (.int .i64 (bits .and .i64 x1 65535)),Is (.pointer (some ⟨pb,3,none⟩)),Is (.slice (some ⟨g0,0,none⟩) n pc),Is (.int .i64 b),Is (.pointer (some ⟨g0,b*6,none⟩)),Is (.pointer (some ⟨g0,b*6,none⟩)),Is (.slice ia kn ic),Is (.int .i64 kn),Is (.int .i64 ((kn:Int)+1)),Is (.int .i64 i),Is (.int .i64 i)]
  (by repeat (first | exact trivial | refine⟨Is.stable _,?_⟩ | refine⟨Zn.stable _ _,?_⟩ | refine⟨Zz.stable _ _,?_⟩)) ⟨?_,?_,?_,?_,?_,?_,?_,?_,?_,?_,?_,?_,?_,trivial⟩ ?_
 all_goals
  intro vs w9 hs hk
  have h9:=HH.out.a.keep hs
  have ha1:=h9.cell 1
  have hal:=h9.lt
  have h8:=HH.out.bp.keep hs
  have hp2:=h8.cell 2
  have hp3:=h8.cell 3
  have hpl:=h8.lt
  have h7:=HCB.out _ (HH.out.old.trans hs)
  have hc0:w9.cell? ⟨g0,b*6,none⟩=some (.slice ia kn ic):=h7.1 0 (by decide)
  have hcl:=h7.2.1
  have hi:=HI.out
  clear h9 h8 h7
  simp only[putAll,Act.put,Zk,Zc,Ze,Is,List.setIfInBounds_toArray,List.set_cons_zero,List.set_cons_succ,Nat.reduceAdd,List.length_cons,List.length_nil]at hk ⊢
  try simp only[hk]
 ·go_wp2
  exact⟨_,rfl,rfl,Since.refl _⟩
 ·go_wp2
  exact⟨_,rfl,rfl,Since.refl _⟩
 ·go_wp2
  exact⟨_,rfl,rfl,Since.refl _⟩
 ·go_wp2
  exact⟨_,rfl,rfl,Since.refl _⟩
 ·go_wp2
  exact⟨_,rfl,rfl,Since.refl _⟩
 ·go_wp2
  exact⟨_,rfl,rfl,Since.refl _⟩
 ·go_wp2
  exact⟨_,rfl,rfl,Since.refl _⟩
 ·go_wp2
  exact⟨_,rfl,rfl,Since.refl _⟩
 ·go_wp2
  exact⟨_,rfl,rfl,Since.refl _⟩
 ·go_wp2
  exact⟨_,rfl,rfl,Since.refl _⟩
 ·go_wp2
  exact⟨_,rfl,rfl,Since.refl _⟩
 ·go_wp2
  exact⟨_,rfl,rfl,Since.refl _⟩
 ·go_wp2
  exact⟨_,rfl,rfl,Since.refl _⟩
 have HH9:=Lib.hid (HH.out.keep hs)
 have HS29:=Lib.hid (HH9.out.old)
 clear ha1 hal hp2 hp3 hpl hc0 hcl hi hk hs hnk
 go_upto_region 11 with fail
 obtain⟨sg,hsg⟩:∃ z,z=w9.heap.size:=⟨_,rfl⟩
 obtain⟨wa,hwa⟩:∃ z,z=w9.alloc (.cells #[.int .i64 2,.int .i64 0,.int .i64 0,.int .i64 c,.int .i64 d,.int .i64 0,.int .i32 0,.slice none 0 0,.int .i64 (-1)] 38):=⟨_,rfl⟩
 have HSG:=Lib.hid (show HeapIs wa sg #[.int .i64 2,.int .i64 0,.int .i64 0,.int .i64 c,.int .i64 d,.int .i64 0,.int .i32 0,.slice none 0 0,.int .i64 (-1)] 38 from by rw[hwa,hsg];exact HeapIs.new _ _ _)
 have HHa:=Lib.hid (HH9.out.keep (show Since w9 wa from by rw[hwa];exact (Since.refl _).alloc _))
 rw[←hwa,←hsg]
 clear hwa hsg HH9 HS29
 refine Zd rfl (by decide +kernel) (by decide +kernel)
  [Is (.int .i64 c),Is (.pointer (some ⟨pb,2,none⟩)),Is (.int .i64 ps),Is (.agg #[.int .i64 31,.int .i64 0,.int .i64 0,.int .i64 c,.int .i64 0,.int .i64 0,.int .i32 ps,.slice none 0 0,.int .i64 (-1)]),Is (.int .i64 c),Is (.int .i64 d),Is (.agg #[.int .i64 1,.int .i64 c,.int .i64 0,.int .i64 d,.int .i64 0,.int .i64 0,.int .i32 0,.slice none 0 0]),Is (.agg #[.int .i64 1,.int .i64 c,.int .i64 0,.int .i64 d,.int .i64 0,.int .i64 0,.int .i32 0,.slice none 0 0,.int .i64 (-1)]),Is (.int .i64 d),Is (.pointer (some ⟨pb,2,none⟩)),Is (.int .i64 ps),Is (.agg #[.int .i64 30,.int .i64 d,.int .i64 0,.int .i64 0,.int .i64 0,.int .i64 0,.int .i32 ps,.slice none 0 0,.int .i64 (-1)]),NewR #[.int .i64 31,.int .i64 0,.int .i64 0,.int .i64 c,.int .i64 0,.int .i64 0,.int .i32 ps,.slice none 0 0,.int .i64 (-1),.int .i64 1,.int .i64 c,.int .i64 0,.int .i64 d,.int .i64 0,.int .i64 0,.int .i32 0,.slice none 0 0,.int .i64 (-1),.int .i64 30,.int .i64 d,.int .i64 0,.int .i64 0,.int .i64 0,.int .i64 0,.int .i32 ps,.slice none 0 0,.int .i64 (-1)] 38 3,NewR #[.int .i64 31,.int .i64 0,.int .i64 0,.int .i64 c,.int .i64 0,.int .i64 0,.int .i32 ps,.slice none 0 0,.int .i64 (-1),.int .i64 1,.int .i64 c,.int .i64 0,.int .i64 d,.int .i64 0,.int .i64 0,.int .i32 0,.slice none 0 0,.int .i64 (-1),.int .i64 30,.int .i64 d,.int .i64 0,.int .i64 0,.int .i64 0,.int .i64 0,.int .i32 ps,.slice none 0 0,.int .i64 (-1)] 38 3]
  (by repeat (first | exact trivial | refine⟨Is.stable _,?_⟩ | refine⟨Zn.stable _ _,?_⟩ | refine⟨Zz.stable _ _,?_⟩ | refine⟨NewR.stable _ _ _,?_⟩)) ⟨?_,?_,?_,?_,?_,?_,?_,?_,?_,?_,?_,?_,?_,?_,trivial⟩ ?_
 all_goals
  intro vs wb hs hk
  have h8:=HHa.out.bp.keep hs
  have hp2:=h8.cell 2
  have hpl:=h8.lt
  clear h8
  simp only[putAll,Act.put,Zk,Zc,Ze,Is,List.setIfInBounds_toArray,List.set_cons_zero,List.set_cons_succ,Nat.reduceAdd,List.length_cons,List.length_nil]at hk ⊢
  try simp only[hk]
 ·go_wp2
  exact⟨_,rfl,rfl,Since.refl _⟩
 ·go_wp2
  exact⟨_,rfl,rfl,Since.refl _⟩
 ·go_wp2
  exact⟨_,rfl,rfl,Since.refl _⟩
 ·clear hp2 hpl
  go_wp2_with fail
  refine (Wc c ps _ ⟨by omega,by omega⟩ ⟨HPS.out.1,by have:=HPS.out.2;omega⟩).mono ?_
  rintro e wN ⟨rfl,hsN⟩
  go_wp2
  exact⟨_,rfl,rfl,hsN⟩
 ·go_wp2
  exact⟨_,rfl,rfl,Since.refl _⟩
 ·go_wp2
  exact⟨_,rfl,rfl,Since.refl _⟩
 ·go_wp2
  exact⟨_,rfl,rfl,Since.refl _⟩
 ·go_wp2
  exact⟨_,rfl,rfl,Since.refl _⟩
 ·go_wp2
  exact⟨_,rfl,rfl,Since.refl _⟩
 ·go_wp2
  exact⟨_,rfl,rfl,Since.refl _⟩
 ·go_wp2
  exact⟨_,rfl,rfl,Since.refl _⟩
 ·clear hp2 hpl
  go_wp2_with fail
  refine (Wd d ps _ ⟨by omega,by omega⟩ ⟨HPS.out.1,by have:=HPS.out.2;omega⟩).mono ?_
  rintro e wN ⟨rfl,hsN⟩
  go_wp2
  exact⟨_,rfl,rfl,hsN⟩
 ·go_wp2
  exact⟨_,rfl,⟨_,rfl,HeapIs.new _ _ _⟩,(Since.refl _).alloc _⟩
 ·go_wp2
  exact⟨_,rfl,hk.1,Since.refl _⟩
 obtain⟨yg,hyv,hyb⟩:NewR #[.int .i64 31,.int .i64 0,.int .i64 0,.int .i64 c,.int .i64 0,.int .i64 0,.int .i32 ps,.slice none 0 0,.int .i64 (-1),.int .i64 1,.int .i64 c,.int .i64 0,.int .i64 d,.int .i64 0,.int .i64 0,.int .i32 0,.slice none 0 0,.int .i64 (-1),.int .i64 30,.int .i64 d,.int .i64 0,.int .i64 0,.int .i64 0,.int .i64 0,.int .i32 ps,.slice none 0 0,.int .i64 (-1)] 38 3 (vs 13) wb:=hk.2.2.2.2.2.2.2.2.2.2.2.2.2.1
 simp only[hyv]
 have HYGwb:=Lib.hid hyb
 have HHwb:=Lib.hid (HHa.out.keep hs)
 have HSGwb:=Lib.hid (HSG.out.keep hs)
 clear hp2 hpl hk hs hyv hyb HHa HSG
 have HIK:=Lib.hid (show i≤ins.length from by rw[HKN.out];omega)
 have HFS:=Lib.hid (PGood.fine (Qb (S:=ps) (show (0:Int)≤c∧(c:Int)<4 by omega) (show (0:Int)≤d∧(d:Int)<4 by omega)))
 have HFM:=Lib.hid (PGood.fine (ZcH (S:=ps) (show (0:Int)≤c∧(c:Int)<4 by omega) (show (0:Int)≤d∧(d:Int)<4 by omega)))
 have HFC:=Lib.hid (PGood.fine (Jd (S:=ps+1) (op:=31) (.inr rfl) (show (0:Int)≤c∧(c:Int)<4 by omega) ⟨HPS.out.1,by omega⟩ (by have:=HPS.out.2;omega)))
 have HFD:=Lib.hid (PGood.fine (Jd (S:=ps+1) (op:=30) (.inl rfl) (show (0:Int)≤d∧(d:Int)<4 by omega) ⟨HPS.out.1,by omega⟩ (by have:=HPS.out.2;omega)))
 obtain⟨S,hS⟩:∃ S:List PlV,S=[⟨VK c d,.slice none 0 0,-1⟩]:=⟨_,rfl⟩
 obtain⟨Y,hY⟩:∃ Y:List PlV,Y=[⟨Zed c ps,.slice none 0 0,-1⟩,⟨ZcI c d,.slice none 0 0,-1⟩,⟨Zee d ps,.slice none 0 0,-1⟩]:=⟨_,rfl⟩
 have HSL:=Lib.hid (show ∀ (w9:World),∀ z∈S,LowPl w2.heap.size w9 z from fun w9 z hz=>by rw[hS]at hz;rw[List.mem_singleton.1 hz];exact low_nil rfl HFS.out _)
 have HYL:=Lib.hid (show ∀ (w9:World),∀ z∈Y,LowPl w2.heap.size w9 z from fun w9 z hz=>by
  rw[hY]at hz
  simp only[List.mem_cons,List.not_mem_nil,or_false]at hz
  rcases hz with rfl|rfl|rfl
  ·exact low_nil rfl HFC.out _
  ·exact low_nil rfl HFM.out _
  ·exact low_nil rfl HFD.out _)
 have HSR:=Lib.hid (show ∀ (w9:World),w2.heap.size≤w9.heap.size→HeapIs w9 sg #[.int .i64 2,.int .i64 0,.int .i64 0,.int .i64 c,.int .i64 d,.int .i64 0,.int .i32 0,.slice none 0 0,.int .i64 (-1)] 38→Pls w9 (.slice (some ⟨sg,0,none⟩) 1 1) S from fun w9 hz h=>pls_low (Wo S _ (by rw[hS];rfl) h 1 (by rw[hS];rfl) (by rw[hS];show (1:Nat)≤1000;omega)) (HSL.out w9) hz)
 have HYR:=Lib.hid (show ∀ (w9:World),w2.heap.size≤w9.heap.size→HeapIs w9 yg #[.int .i64 31,.int .i64 0,.int .i64 0,.int .i64 c,.int .i64 0,.int .i64 0,.int .i32 ps,.slice none 0 0,.int .i64 (-1),.int .i64 1,.int .i64 c,.int .i64 0,.int .i64 d,.int .i64 0,.int .i64 0,.int .i32 0,.slice none 0 0,.int .i64 (-1),.int .i64 30,.int .i64 d,.int .i64 0,.int .i64 0,.int .i64 0,.int .i64 0,.int .i32 ps,.slice none 0 0,.int .i64 (-1)] 38→Pls w9 (.slice (some ⟨yg,0,none⟩) 3 3) Y from fun w9 hz h=>pls_low (Wo Y _ (by rw[hY];rfl) h 3 (by rw[hY];rfl) (by rw[hY];show (3:Nat)≤1000;omega)) (HYL.out w9) hz)
 have HSn:=Lib.hid (show S.length=1 from by rw[hS];rfl)
 have HYn:=Lib.hid (show Y.length=3 from by rw[hY];rfl)
 have HSm:=Lib.hid (show (S.map fun z=>z.m)=[VK c d] from by rw[hS];rfl)
 have HYm:=Lib.hid (show (Y.map fun z=>z.m)=[Zed c ps,ZcI c d,Zee d ps] from by rw[hY];rfl)
 clear hS hY HFS HFM HFC HFD
 have HPK:=Lib.hid (fun (w9:World) (s9:Since w2 w9)=>RowIn.keep (fun w w' x h s=>J3.keep w w' x h s) (show RowIn plcells 9 J3 w2 (.slice ia kn ic) ins from HPLS.out) s9)
 have HLWS:=Lib.hid (show ∀ (w9:World),Since w2 w9→∀ z∈ins.take i++(S++ins.drop i),LowPl w2.heap.size w9 z from fun w9 s z hz=>by
  have hin:∀ z∈ins,LowPl w2.heap.size w9 z:=fun z hz=>⟨(HINS.out z hz).1.keep s,(HINS.out z hz).2⟩
  rcases List.mem_append.1 hz with h|h
  ·exact hin z (List.mem_of_mem_take h)
  rcases List.mem_append.1 h with h|h
  ·exact HSL.out w9 z h
  ·exact hin z (List.mem_of_mem_drop h))
 have HLWY:=Lib.hid (show ∀ (w9:World),Since w2 w9→∀ z∈ins.take i++(Y++ins.drop i),LowPl w2.heap.size w9 z from fun w9 s z hz=>by
  have hin:∀ z∈ins,LowPl w2.heap.size w9 z:=fun z hz=>⟨(HINS.out z hz).1.keep s,(HINS.out z hz).2⟩
  rcases List.mem_append.1 hz with h|h
  ·exact hin z (List.mem_of_mem_take h)
  rcases List.mem_append.1 h with h|h
  ·exact HYL.out w9 z h
  ·exact hin z (List.mem_of_mem_drop h))
 have HLS:=Lib.hid (show (ins.take i++(S++ins.drop i)).length=kn+1 from by have h1:=HKN.out;have h2:=HSn.out;have h3:=HIK.out;simp only[List.length_append,List.length_take,List.length_drop];omega)
 have HLY:=Lib.hid (show (ins.take i++(Y++ins.drop i)).length=kn+3 from by have h1:=HKN.out;have h2:=HYn.out;have h3:=HIK.out;simp only[List.length_append,List.length_take,List.length_drop];omega)
 obtain⟨J,hJ⟩:∃ J:List PlV,J=ins.take i++(S++ins.drop i):=⟨_,rfl⟩
 have HJ:=Lib.hid hJ
 rw[←hJ]at HLWS HLS
 obtain⟨Z,hZ⟩:∃ Z:List PlV,Z=ins.take i++(Y++ins.drop i):=⟨_,rfl⟩
 have HZ:=Lib.hid hZ
 rw[←hZ]at HLWY HLY
 clear hJ hZ
 go_upto_region 12 with fail
 have HLD1:=Lib.hid (show ∀ (w9:World),Since wb w9→Calls Tryz.prog 11 #[.slice ia kn ic,.int .i64 i,.slice (some ⟨sg,0,none⟩) 1 1] w9 (fun e w'=>∃ v,e=.returned v∧OwnP w9.heap.size (kn+1) J v w'∧Since w9 w') from fun w9 s9=>by
  have h:=lawlaid_any (.slice ia kn ic) (.slice (some ⟨sg,0,none⟩) 1 1) ins S i w9 (HPK.out w9 (HHwb.out.old.trans s9)) (HSR.out w9 (HHwb.out.keep s9).old.size (HSGwb.out.keep s9)) HIK.out (by rw[HKN.out];omega) (by rw[HSn.out];decide) (by rw[HSn.out];decide)
  rw[HKN.out,HSn.out]at h
  rw[←HJ.out]at h
  exact h)
 refine Zg 12 rfl (by decide +kernel) (by decide +kernel) (by decide +kernel) (by decide)
  [Is (.pointer (some ⟨o1,3,none⟩)),Is (.slice (some ⟨g1,0,none⟩) n c1),Is (.int .i64 b),Is (.pointer (some ⟨pb,3,none⟩)),Is (.slice (some ⟨g0,0,none⟩) n pc),Is (.int .i64 b),Is (.pointer (some ⟨g0,b*6,none⟩)),Is (.pointer (some ⟨g0,b*6,none⟩)),Is (.slice ia kn ic),Is (.int .i64 i),Is (.slice (some ⟨sg,0,none⟩) 1 1),OwnP wb.heap.size (kn+1) J]
  (by repeat (first | exact trivial | refine⟨Is.stable _,?_⟩ | refine⟨Zn.stable _ _,?_⟩ | refine⟨Zz.stable _ _,?_⟩ | refine⟨OwnP.stable _ _ _,?_⟩)) ⟨?_,?_,?_,?_,?_,?_,?_,?_,?_,?_,?_,?_,trivial⟩ ?_
 all_goals
  intro vs w9 hs hk
  try intro _
  have h9:=(HHwb.out.keep hs).b1
  have hq3:=h9.cell 3
  have hql:=h9.lt
  have h8:=(HHwb.out.keep hs).bp
  have hp3:=h8.cell 3
  have hpl:=h8.lt
  have h7:=HCB.out _ (HHwb.out.old.trans hs)
  have hc0:w9.cell? ⟨g0,b*6,none⟩=some (.slice ia kn ic):=h7.1 0 (by decide)
  have hcl:=h7.2.1
  clear h9 h8 h7
  simp only[List.take,List.drop,putAll,Act.put,Zk,Zc,Ze,Is,List.setIfInBounds_toArray,List.set_cons_zero,List.set_cons_succ,Nat.reduceAdd]at hk ⊢
  try simp only[hk]
 ·go_wp2
  exact⟨_,rfl,rfl,Since.refl _⟩
 ·go_wp2
  exact⟨_,rfl,rfl,Since.refl _⟩
 ·go_wp2
  exact⟨_,rfl,rfl,Since.refl _⟩
 ·go_wp2
  exact⟨_,rfl,rfl,Since.refl _⟩
 ·go_wp2
  exact⟨_,rfl,rfl,Since.refl _⟩
 ·go_wp2
  exact⟨_,rfl,rfl,Since.refl _⟩
 ·go_wp2
  exact⟨_,rfl,rfl,Since.refl _⟩
 ·go_wp2
  exact⟨_,rfl,rfl,Since.refl _⟩
 ·go_wp2
  exact⟨_,rfl,rfl,Since.refl _⟩
 ·go_wp2
  exact⟨_,rfl,rfl,Since.refl _⟩
 ·go_wp2
  exact⟨_,rfl,rfl,Since.refl _⟩
 ·clear hq3 hql hp3 hpl hc0 hcl
  go_wp2_with fail
  refine (HLD1.out _ hs).mono ?_
  rintro e wN ⟨v,rfl,hv,hsN⟩
  go_wp2
  exact⟨_,rfl,Vw hv hs.size,hsN⟩
 clear hq3 hql hp3 hpl hc0 hcl
 have hv:OwnP wb.heap.size (kn+1) J (vs 11) w9:=hk.2.2.2.2.2.2.2.2.2.2.2.1
 obtain⟨a1,e1,hv1⟩:=Zf hv
 rw[hv1]at hv
 simp only[hv1]
 have HV1:=Lib.hid hv
 have HSx:=Lib.hid hs
 have HHx:=Lib.hid (HHwb.out.keep hs)
 clear hk hs hv hv1
 have hcb:=ZaX YE HHx.out.r1.row HY1.out
 have hc0:w9.cell? ⟨g1,b*6,none⟩=some y1.insv:=hcb.1 0 (by decide)
 have hcl:=hcb.2.1
 have hcf:=hcb.2.2
 clear hcb
 go_upto_region 13 with fail
 clear hc0 hcl hcf
 obtain⟨wc,hwn⟩:∃ z,z=w9.setCell ⟨g1,b*6,none⟩ (.slice a1 (kn+1) e1):=⟨_,rfl⟩
 have HHwc:=Lib.hid (show PsH w2 ab pb o1 o2 o3 g0 g1 g2 g3 n pc c1 c2 c3 #[.int .i64 x0,.int .i64 x1,.int .i64 x2,.int .i64 x3] pp pk ps ps (bl1.set b ⟨J,.slice a1 (kn+1) e1,y1.fin⟩) bl2 bl3 wc from by rw[hwn];exact HHx.out.set1 HY1.out (show w9.ownsRow _ _ 9 _ J.length _ from by rw[HLS.out];exact HV1.out) HHwb.out.old.size (HLWS.out _ HHx.out.old) (by rw[HLS.out];omega))
 have ht:=(Turn.refl (fun q=>q=g1) w9).setCell (p:=⟨g1,b*6,none⟩) rfl (.slice a1 (kn+1) e1)
 rw[←hwn]at ht ⊢
 have hkk:=own_kin HHx.out.r1.row
 have HSGwc:=Lib.hid ((HSGwb.out.keep HSx.out).turn ht (hkk.heap (HSGwb.out.keep HSx.out) (by decide)))
 have HYGwc:=Lib.hid ((HYGwb.out.keep HSx.out).turn ht (hkk.heap (HYGwb.out.keep HSx.out) (by decide)))
 clear hwn ht hkk HHx HSx HV1 HSGwb HYGwb HLD1 HHwb
 have HLD2:=Lib.hid (show ∀ (w9:World),Since wc w9→Calls Tryz.prog 11 #[.slice ia kn ic,.int .i64 i,.slice (some ⟨yg,0,none⟩) 3 3] w9 (fun e w'=>∃ v,e=.returned v∧OwnP w9.heap.size (kn+3) Z v w'∧Since w9 w') from fun w9 s9=>by
  have h:=lawlaid_any (.slice ia kn ic) (.slice (some ⟨yg,0,none⟩) 3 3) ins Y i w9 (HPK.out w9 (HHwc.out.old.trans s9)) (HYR.out w9 (HHwc.out.keep s9).old.size (HYGwc.out.keep s9)) HIK.out (by rw[HKN.out];omega) (by rw[HYn.out];decide) (by rw[HYn.out];decide)
  rw[HKN.out,HYn.out]at h
  rw[←HZ.out]at h
  exact h)
 refine Zg 12 rfl (by decide +kernel) (by decide +kernel) (by decide +kernel) (by decide)
  [Is (.pointer (some ⟨o2,3,none⟩)),Is (.slice (some ⟨g2,0,none⟩) n c2),Is (.int .i64 b),Is (.pointer (some ⟨pb,3,none⟩)),Is (.slice (some ⟨g0,0,none⟩) n pc),Is (.int .i64 b),Is (.pointer (some ⟨g0,b*6,none⟩)),Is (.pointer (some ⟨g0,b*6,none⟩)),Is (.slice ia kn ic),Is (.int .i64 i),Is (.slice (some ⟨yg,0,none⟩) 3 3),OwnP wc.heap.size (kn+3) Z]
  (by repeat (first | exact trivial | refine⟨Is.stable _,?_⟩ | refine⟨Zn.stable _ _,?_⟩ | refine⟨Zz.stable _ _,?_⟩ | refine⟨OwnP.stable _ _ _,?_⟩)) ⟨?_,?_,?_,?_,?_,?_,?_,?_,?_,?_,?_,?_,trivial⟩ ?_
 all_goals
  intro vs w9 hs hk
  try intro _
  have h9:=(HHwc.out.keep hs).b2
  have hq3:=h9.cell 3
  have hql:=h9.lt
  have h8:=(HHwc.out.keep hs).bp
  have hp3:=h8.cell 3
  have hpl:=h8.lt
  have h7:=HCB.out _ (HHwc.out.old.trans hs)
  have hc0:w9.cell? ⟨g0,b*6,none⟩=some (.slice ia kn ic):=h7.1 0 (by decide)
  have hcl:=h7.2.1
  clear h9 h8 h7
  simp only[List.take,List.drop,putAll,Act.put,Zk,Zc,Ze,Is,List.setIfInBounds_toArray,List.set_cons_zero,List.set_cons_succ,Nat.reduceAdd]at hk ⊢
  try simp only[hk]
 ·go_wp2
  exact⟨_,rfl,rfl,Since.refl _⟩
 ·go_wp2
  exact⟨_,rfl,rfl,Since.refl _⟩
 ·go_wp2
  exact⟨_,rfl,rfl,Since.refl _⟩
 ·go_wp2
  exact⟨_,rfl,rfl,Since.refl _⟩
 ·go_wp2
  exact⟨_,rfl,rfl,Since.refl _⟩
 ·go_wp2
  exact⟨_,rfl,rfl,Since.refl _⟩
 ·go_wp2
  exact⟨_,rfl,rfl,Since.refl _⟩
 ·go_wp2
  exact⟨_,rfl,rfl,Since.refl _⟩
 ·go_wp2
  exact⟨_,rfl,rfl,Since.refl _⟩
 ·go_wp2
  exact⟨_,rfl,rfl,Since.refl _⟩
 ·go_wp2
  exact⟨_,rfl,rfl,Since.refl _⟩
 ·clear hq3 hql hp3 hpl hc0 hcl
  go_wp2_with fail
  refine (HLD2.out _ hs).mono ?_
  rintro e wN ⟨v,rfl,hv,hsN⟩
  go_wp2
  exact⟨_,rfl,Vw hv hs.size,hsN⟩
 clear hq3 hql hp3 hpl hc0 hcl
 have hv:OwnP wc.heap.size (kn+3) Z (vs 11) w9:=hk.2.2.2.2.2.2.2.2.2.2.2.1
 obtain⟨a2,e2,hv1⟩:=Zf hv
 rw[hv1]at hv
 simp only[hv1]
 have HV2:=Lib.hid hv
 have HSx:=Lib.hid hs
 have HHx:=Lib.hid (HHwc.out.keep hs)
 clear hk hs hv hv1
 have hcb:=ZaX YE HHx.out.r2.row HY2.out
 have hc0:w9.cell? ⟨g2,b*6,none⟩=some y2.insv:=hcb.1 0 (by decide)
 have hcl:=hcb.2.1
 have hcf:=hcb.2.2
 clear hcb
 go_upto_region 14 with fail
 clear hc0 hcl hcf
 obtain⟨wd,hwn⟩:∃ z,z=w9.setCell ⟨g2,b*6,none⟩ (.slice a2 (kn+3) e2):=⟨_,rfl⟩
 have HHwd:=Lib.hid (show PsH w2 ab pb o1 o2 o3 g0 g1 g2 g3 n pc c1 c2 c3 #[.int .i64 x0,.int .i64 x1,.int .i64 x2,.int .i64 x3] pp pk ps ps (bl1.set b ⟨J,.slice a1 (kn+1) e1,y1.fin⟩) (bl2.set b ⟨Z,.slice a2 (kn+3) e2,y2.fin⟩) bl3 wd from by rw[hwn];exact HHx.out.set2 HY2.out (show w9.ownsRow _ _ 9 _ Z.length _ from by rw[HLY.out];exact HV2.out) HHwc.out.old.size (HLWY.out _ HHx.out.old) (by rw[HLY.out];omega))
 have ht:=(Turn.refl (fun q=>q=g2) w9).setCell (p:=⟨g2,b*6,none⟩) rfl (.slice a2 (kn+3) e2)
 rw[←hwn]at ht ⊢
 have hkk:=own_kin HHx.out.r2.row
 have HSGwd:=Lib.hid ((HSGwc.out.keep HSx.out).turn ht (hkk.heap (HSGwc.out.keep HSx.out) (by decide)))
 have HYGwd:=Lib.hid ((HYGwc.out.keep HSx.out).turn ht (hkk.heap (HYGwc.out.keep HSx.out) (by decide)))
 clear hwn ht hkk HHx HSx HV2 HSGwc HYGwc HLD2 HHwc
 have h8:=HHwd.out.bp
 have hp2:=h8.cell 2
 have hpl:=h8.lt
 have h9:=HHwd.out.b2
 have hq2:=h9.cell 2
 have hql:=h9.lt
 have hqf:=h9.frozen
 have hps:=HPS.out
 clear h8 h9
 go_upto_region 15 with fail
 obtain⟨we,hwe⟩:∃ z,z=wd.setCell ⟨o2,2,none⟩ (.int .i64 (ps+1)):=⟨_,rfl⟩
 have HHwe:=Lib.hid (show PsH w2 ab pb o1 o2 o3 g0 g1 g2 g3 n pc c1 c2 c3 #[.int .i64 x0,.int .i64 x1,.int .i64 x2,.int .i64 x3] pp pk ps (ps+1) (bl1.set b ⟨J,.slice a1 (kn+1) e1,y1.fin⟩) (bl2.set b ⟨Z,.slice a2 (kn+3) e2,y2.fin⟩) bl3 we from by rw[hwe];exact HHwd.out.slots (ps+1))
 have ht:=(Turn.refl (fun q=>q=o2) wd).setCell (p:=⟨o2,2,none⟩) rfl (.int .i64 (ps+1))
 rw[←hwe]at ht ⊢
 have hkk:=Kin.box HHwd.out.b2
 have HSGwe:=Lib.hid (HSGwd.out.turn ht (hkk.heap HSGwd.out (by decide)))
 have HYGwe:=Lib.hid (HYGwd.out.turn ht (hkk.heap HYGwd.out (by decide)))
 clear hwe ht hkk HHwd HSGwd HYGwd hp2 hpl hq2 hql hqf hps
 have HLT:=Lib.hid (show (J.take i++(S++J.drop i)).length=kn+1+1 from by have h1:=HLS.out;have h2:=HSn.out;simp only[List.length_append,List.length_take,List.length_drop];omega)
 have HLWT:=Lib.hid (show ∀ (w9:World),Since w2 w9→∀ z∈J.take i++(S++J.drop i),LowPl w2.heap.size w9 z from fun w9 s z hz=>by
  rcases List.mem_append.1 hz with h|h
  ·exact HLWS.out w9 s z (List.mem_of_mem_take h)
  rcases List.mem_append.1 h with h|h
  ·exact HSL.out w9 z h
  ·exact HLWS.out w9 s z (List.mem_of_mem_drop h))
 have HPK1:=Lib.hid (fun (w9:World) (s9:Since we w9)=>show Pls w9 (.slice a1 (kn+1) e1) J from ((HHwe.out.keep s9).r1.blk (HHwe.out.keep s9).old.size _ (List.mem_of_getElem? (List.getElem?_set_self (List.getElem?_eq_some_iff.1 HY1.out).1))).1)
 have HLD3:=Lib.hid (show ∀ (w9:World),Since we w9→Calls Tryz.prog 11 #[.slice a1 (kn+1) e1,.int .i64 i,.slice (some ⟨sg,0,none⟩) 1 1] w9 (fun e w'=>∃ v,e=.returned v∧OwnP w9.heap.size (kn+1+1) (J.take i++(S++J.drop i)) v w'∧Since w9 w') from fun w9 s9=>by
  have h:=lawlaid_any (.slice a1 (kn+1) e1) (.slice (some ⟨sg,0,none⟩) 1 1) J S i w9 (HPK1.out w9 s9) (HSR.out w9 (HHwe.out.keep s9).old.size (HSGwe.out.keep s9)) (by rw[HLS.out];omega) (by rw[HLS.out];omega) (by rw[HSn.out];decide) (by rw[HSn.out];decide)
  rw[HLS.out,HSn.out]at h
  skip
  exact h)
 refine Zg 12 rfl (by decide +kernel) (by decide +kernel) (by decide +kernel) (by decide)
  [Is (.pointer (some ⟨o3,3,none⟩)),Is (.slice (some ⟨g3,0,none⟩) n c3),Is (.int .i64 b),Is (.pointer (some ⟨o1,3,none⟩)),Is (.slice (some ⟨g1,0,none⟩) n c1),Is (.int .i64 b),Is (.pointer (some ⟨g1,b*6,none⟩)),Is (.pointer (some ⟨g1,b*6,none⟩)),Is (.slice a1 (kn+1) e1),Is (.int .i64 i),Is (.slice (some ⟨sg,0,none⟩) 1 1),OwnP we.heap.size (kn+1+1) (J.take i++(S++J.drop i))]
  (by repeat (first | exact trivial | refine⟨Is.stable _,?_⟩ | refine⟨Zn.stable _ _,?_⟩ | refine⟨Zz.stable _ _,?_⟩ | refine⟨OwnP.stable _ _ _,?_⟩)) ⟨?_,?_,?_,?_,?_,?_,?_,?_,?_,?_,?_,?_,trivial⟩ ?_
 all_goals
  intro vs w9 hs hk
  try intro _
  have h9:=(HHwe.out.keep hs).b3
  have hq3:=h9.cell 3
  have hql:=h9.lt
  have h8:=(HHwe.out.keep hs).b1
  have hp3:=h8.cell 3
  have hpl:=h8.lt
  have h7:=ZaX YE (HHwe.out.keep hs).r1.row (List.getElem?_set_self (List.getElem?_eq_some_iff.1 HY1.out).1)
  have hc0:w9.cell? ⟨g1,b*6,none⟩=some (.slice a1 (kn+1) e1):=h7.1 0 (by decide)
  have hcl:=h7.2.1
  clear h9 h8 h7
  simp only[List.take,List.drop,putAll,Act.put,Zk,Zc,Ze,Is,List.setIfInBounds_toArray,List.set_cons_zero,List.set_cons_succ,Nat.reduceAdd]at hk ⊢
  try simp only[hk]
 ·go_wp2
  exact⟨_,rfl,rfl,Since.refl _⟩
 ·go_wp2
  exact⟨_,rfl,rfl,Since.refl _⟩
 ·go_wp2
  exact⟨_,rfl,rfl,Since.refl _⟩
 ·go_wp2
  exact⟨_,rfl,rfl,Since.refl _⟩
 ·go_wp2
  exact⟨_,rfl,rfl,Since.refl _⟩
 ·go_wp2
  exact⟨_,rfl,rfl,Since.refl _⟩
 ·go_wp2
  exact⟨_,rfl,rfl,Since.refl _⟩
 ·go_wp2
  exact⟨_,rfl,rfl,Since.refl _⟩
 ·go_wp2
  exact⟨_,rfl,rfl,Since.refl _⟩
 ·go_wp2
  exact⟨_,rfl,rfl,Since.refl _⟩
 ·go_wp2
  exact⟨_,rfl,rfl,Since.refl _⟩
 ·clear hq3 hql hp3 hpl hc0 hcl
  go_wp2_with fail
  refine (HLD3.out _ hs).mono ?_
  rintro e wN ⟨v,rfl,hv,hsN⟩
  go_wp2
  exact⟨_,rfl,Vw hv hs.size,hsN⟩
 clear hq3 hql hp3 hpl hc0 hcl
 have hv:OwnP we.heap.size (kn+1+1) (J.take i++(S++J.drop i)) (vs 11) w9:=hk.2.2.2.2.2.2.2.2.2.2.2.1
 obtain⟨a3,e3,hv1⟩:=Zf hv
 rw[hv1]at hv
 simp only[hv1]
 have HV3:=Lib.hid hv
 have HSx:=Lib.hid hs
 have HHx:=Lib.hid (HHwe.out.keep hs)
 clear hk hs hv hv1
 have hcb:=ZaX YE HHx.out.r3.row HY3.out
 have hc0:w9.cell? ⟨g3,b*6,none⟩=some y3.insv:=hcb.1 0 (by decide)
 have hcl:=hcb.2.1
 have hcf:=hcb.2.2
 clear hcb
 go_upto_region 16 with fail
 clear hc0 hcl hcf
 obtain⟨wf,hwn⟩:∃ z,z=w9.setCell ⟨g3,b*6,none⟩ (.slice a3 (kn+1+1) e3):=⟨_,rfl⟩
 have HHwf:=Lib.hid (show PsH w2 ab pb o1 o2 o3 g0 g1 g2 g3 n pc c1 c2 c3 #[.int .i64 x0,.int .i64 x1,.int .i64 x2,.int .i64 x3] pp pk ps (ps+1) (bl1.set b ⟨J,.slice a1 (kn+1) e1,y1.fin⟩) (bl2.set b ⟨Z,.slice a2 (kn+3) e2,y2.fin⟩) (bl3.set b ⟨J.take i++(S++J.drop i),.slice a3 (kn+1+1) e3,y3.fin⟩) wf from by rw[hwn];exact HHx.out.set3 HY3.out (show w9.ownsRow _ _ 9 _ (J.take i++(S++J.drop i)).length _ from by rw[HLT.out];exact HV3.out) HHwe.out.old.size (HLWT.out _ HHx.out.old) (by rw[HLT.out];omega))
 have ht:=(Turn.refl (fun q=>q=g3) w9).setCell (p:=⟨g3,b*6,none⟩) rfl (.slice a3 (kn+1+1) e3)
 rw[←hwn]at ht ⊢
 have hkk:=own_kin HHx.out.r3.row
 have HSGwf:=Lib.hid ((HSGwe.out.keep HSx.out).turn ht (hkk.heap (HSGwe.out.keep HSx.out) (by decide)))
 have HYGwf:=Lib.hid ((HYGwe.out.keep HSx.out).turn ht (hkk.heap (HYGwe.out.keep HSx.out) (by decide)))
 clear hwn ht hkk HHx HSx HV3 HSGwe HYGwe HLD3 HHwe
 have HSW:=Lib.hid (HS2.out.trans HHwf.out.old)
 go_upto_region 16 with fail
 go_wp2_with fail
 refine (HIN.out wf HSW.out).mono ?_
 rintro e w4 ⟨⟨i1,v1,i2,v2,i3,v3,st⟩,rfl,hiok,hq1,hq2,hq3,hq4,hs4,hown⟩
 clear hq1 hq2 hq3 hq4 hown
 obtain⟨ja,jc,hv1⟩:=Zb hiok.1.1
 obtain⟨ka,kc,hv2⟩:=Zb hiok.1.2.1
 obtain⟨ma,mc,hv3⟩:=Zb hiok.1.2.2
 obtain⟨l1,hl1⟩:∃ z,i1.length=z:=⟨_,rfl⟩
 obtain⟨l2,hl2⟩:∃ z,i2.length=z:=⟨_,rfl⟩
 obtain⟨l3,hl3⟩:∃ z,i3.length=z:=⟨_,rfl⟩
 dsimp only at hv1 hv2 hv3
 rw[hl1]at hv1
 rw[hl2]at hv2
 rw[hl3]at hv3
 subst hv1 hv2 hv3
 unfold iv
 dsimp only
 have HIOK:=Lib.hid hiok
 have HH4:=Lib.hid (HHwf.out.keep hs4)
 have HS4:=Lib.hid (HSW.out.trans hs4)
 clear hiok hs4 hl1 hl2 hl3 HHwf HSGwf HYGwf HSW
 go_upto_region 17 with fail
 obtain⟨ib,hib⟩:∃ z,z=w4.heap.size:=⟨_,rfl⟩
 obtain⟨w5,hw5⟩:∃ z,z=w4.alloc (.cells #[.slice ja l1 jc,.slice ka l2 kc,.slice ma l3 mc,.int .i64 st] 43):=⟨_,rfl⟩
 have HIB5:=Lib.hid (show HeapIs w5 ib #[.slice ja l1 jc,.slice ka l2 kc,.slice ma l3 mc,.int .i64 st] 43 from by rw[hw5,hib];exact HeapIs.new _ _ _)
 have HS45:=Lib.hid (show Since w4 w5 from by rw[hw5];exact (Since.refl _).alloc _)
 have HIL:=Lib.hid (show w4.heap.size≤ib from by omega)
 rw[←hw5,←hib]
 clear hw5 hib
 have h9:=HIB5.out
 have hil:=h9.lt
 have hif:=h9.frozen
 have hi3:=h9.cell 3
 clear h9
 go_upto_region 18 with fail
 clear hil hif hi3
 obtain⟨w6,hw6⟩:∃ z,z=w5.setCell ⟨ib,3,none⟩ (.int .i64 20000):=⟨_,rfl⟩
 have HIB6:=Lib.hid (show HeapIs w6 ib #[.slice ja l1 jc,.slice ka l2 kc,.slice ma l3 mc,.int .i64 20000] 43 from by rw[hw6];exact HIB5.out.set 3 _)
 have HT6:=Lib.hid (show Turn (fun q=>q=ib) w5 w6 from by rw[hw6];exact (Turn.refl (fun q=>q=ib) w5).setCell (p:=⟨ib,3,none⟩) rfl _)
 rw[←hw6]
 clear hw6
 have HS46:=Lib.hid (show Since w4 w6 from HT6.out.toSince HS45.out fun q hq e=>by have:=HIL.out;omega)
 clear HIB5 HT6 HS45 HIL
 obtain⟨inp,hinp⟩:∃ z:InV,z=⟨i1,.slice ja l1 jc,i2,.slice ka l2 kc,i3,.slice ma l3 mc,20000⟩:=⟨_,rfl⟩
 have HINP:=Lib.hid hinp
 clear hinp
 have HNL:=Lib.hid (show bl1.length≤100000∧bl2.length≤100000∧bl3.length≤100000 from by rw[HL1.out,HL2.out,HL3.out];have:=HN0.out;omega)
 have HR:=Lib.hid (Zax ⟨pp,pk,ps,pbl,.slice (some ⟨g0,0,none⟩) n pc⟩ inp w6 (HOK.out.keep ((HH4.out.keep HS46.out).old)) (by rw[HINP.out];exact⟨⟨HIOK.out.1.1.keep HS46.out,HIOK.out.1.2.1.keep HS46.out,HIOK.out.1.2.2.keep HS46.out⟩,HIOK.out.2.1,by show (20000:Int)≤1000000;omega⟩))
 rw[HINP.out]at HR
 unfold pv iv at HR
 dsimp only at HR
 rw[←HINP.out]at HR
 have h8:=(HH4.out.keep HS46.out).bp
 have hp0:=h8.cell 0
 have hp1:=h8.cell 1
 have hp2:=h8.cell 2
 have hp3:=h8.cell 3
 have hpl:=h8.lt
 have h9:=HIB6.out.keep (Since.refl w6)
 have hi0:=h9.cell 0
 have hi1:=h9.cell 1
 have hi2:=h9.cell 2
 have hi3:=h9.cell 3
 have hil:=h9.lt
 clear h8 h9
 go_wp2_with fail
 refine HR.out.mono ?_
 clear hp0 hp1 hp2 hp3 hpl hi0 hi1 hi2 hi3 hil HR
 rintro e z0 ⟨va,rfl,ho,hs⟩
 obtain⟨R0,hR⟩:∃ z,YW ⟨pp,pk,ps,pbl,.slice (some ⟨g0,0,none⟩) n pc⟩ inp=z:=⟨_,rfl⟩
 rw[hR]at ho
 have HRR0:=Lib.hid hR
 obtain⟨ra0,rb0,rc0,rd0,re0,hva⟩:=out_shape ho
 obtain⟨rm0,hrm⟩:∃ z,R0.mem.length=z:=⟨_,rfl⟩
 rw[hrm]at hva
 subst hva
 obtain⟨ae0,hae⟩:∃ z,R0.e=z:=⟨_,rfl⟩
 obtain⟨av0,hav⟩:∃ z,R0.v=z:=⟨_,rfl⟩
 obtain⟨as0,has⟩:∃ z,R0.steps=z:=⟨_,rfl⟩
 rw[hae,hav,has]at ho ⊢
 have HE0:=Lib.hid hae
 have HOv:=Lib.hid ho
 have HSv:=Lib.hid hs
 clear hR ho hs hrm hae hav has
 go_upto_region 19 with fail
 obtain⟨q0,hq⟩:∃ z,z=z0.heap.size:=⟨_,rfl⟩
 obtain⟨f0,hx⟩:∃ z,z=z0.alloc (.cells #[.int .i64 ae0,.int .i32 av0,.slice ra0 rm0 rb0,.slice rc0 rd0 re0,.int .i64 as0] 47):=⟨_,rfl⟩
 have HOB0:=Lib.hid (show HeapIs f0 q0 #[.int .i64 ae0,.int .i32 av0,.slice ra0 rm0 rb0,.slice rc0 rd0 re0,.int .i64 as0] 47 from by rw[hx,hq];exact HeapIs.new _ _ _)
 have hsx:Since z0 f0:=by rw[hx];exact (Since.refl _).alloc _
 rw[←hx,←hq]
 have HO0:=Lib.hid (XR.since HOv.out hsx)
 have HS4f0:=Lib.hid (HS46.out.trans (HSv.out.trans hsx))
 have HT6f0:=Lib.hid ((Since.refl w6).trans (HSv.out.trans hsx))
 have HTW0:=Lib.hid (HSv.out.trans hsx)
 clear hx hq hsx HOv HSv
 have HR:=Lib.hid (Zax ⟨pp,pk,ps,(bl1.set b ⟨J,.slice a1 (kn+1) e1,y1.fin⟩),.slice (some ⟨g1,0,none⟩) n c1⟩ inp f0 ((HH4.out.keep HS4f0.out).r1.ok (HH4.out.keep HS4f0.out).old.size (by rw[List.length_set];exact HNL.out.1)) (by rw[HINP.out];exact⟨⟨HIOK.out.1.1.keep HS4f0.out,HIOK.out.1.2.1.keep HS4f0.out,HIOK.out.1.2.2.keep HS4f0.out⟩,HIOK.out.2.1,by show (20000:Int)≤1000000;omega⟩))
 rw[HINP.out]at HR
 unfold pv iv at HR
 dsimp only at HR
 rw[←HINP.out]at HR
 have h8:=(HH4.out.keep HS4f0.out).b1
 have hp0:=h8.cell 0
 have hp1:=h8.cell 1
 have hp2:=h8.cell 2
 have hp3:=h8.cell 3
 have hpl:=h8.lt
 have h9:=HIB6.out.keep HT6f0.out
 have hi0:=h9.cell 0
 have hi1:=h9.cell 1
 have hi2:=h9.cell 2
 have hi3:=h9.cell 3
 have hil:=h9.lt
 clear h8 h9
 go_wp2_with fail
 refine HR.out.mono ?_
 clear hp0 hp1 hp2 hp3 hpl hi0 hi1 hi2 hi3 hil HR
 rintro e z1 ⟨va,rfl,ho,hs⟩
 obtain⟨R1,hR⟩:∃ z,YW ⟨pp,pk,ps,(bl1.set b ⟨J,.slice a1 (kn+1) e1,y1.fin⟩),.slice (some ⟨g1,0,none⟩) n c1⟩ inp=z:=⟨_,rfl⟩
 rw[hR]at ho
 have HRR1:=Lib.hid hR
 obtain⟨ra1,rb1,rc1,rd1,re1,hva⟩:=out_shape ho
 obtain⟨rm1,hrm⟩:∃ z,R1.mem.length=z:=⟨_,rfl⟩
 rw[hrm]at hva
 subst hva
 obtain⟨ae1,hae⟩:∃ z,R1.e=z:=⟨_,rfl⟩
 obtain⟨av1,hav⟩:∃ z,R1.v=z:=⟨_,rfl⟩
 obtain⟨as1,has⟩:∃ z,R1.steps=z:=⟨_,rfl⟩
 rw[hae,hav,has]at ho ⊢
 have HE1:=Lib.hid hae
 have HOv:=Lib.hid ho
 have HSv:=Lib.hid hs
 clear hR ho hs hrm hae hav has
 go_upto_region 20 with fail
 obtain⟨q1,hq⟩:∃ z,z=z1.heap.size:=⟨_,rfl⟩
 obtain⟨f1,hx⟩:∃ z,z=z1.alloc (.cells #[.int .i64 ae1,.int .i32 av1,.slice ra1 rm1 rb1,.slice rc1 rd1 re1,.int .i64 as1] 47):=⟨_,rfl⟩
 have HOB1:=Lib.hid (show HeapIs f1 q1 #[.int .i64 ae1,.int .i32 av1,.slice ra1 rm1 rb1,.slice rc1 rd1 re1,.int .i64 as1] 47 from by rw[hx,hq];exact HeapIs.new _ _ _)
 have hsx:Since z1 f1:=by rw[hx];exact (Since.refl _).alloc _
 rw[←hx,←hq]
 have HO1:=Lib.hid (XR.since HOv.out hsx)
 have HS4f1:=Lib.hid (HS4f0.out.trans (HSv.out.trans hsx))
 have HT6f1:=Lib.hid (HT6f0.out.trans (HSv.out.trans hsx))
 have HTW1:=Lib.hid (HSv.out.trans hsx)
 clear hx hq hsx HOv HSv
 have HR:=Lib.hid (Zax ⟨pp,pk,ps+1,(bl2.set b ⟨Z,.slice a2 (kn+3) e2,y2.fin⟩),.slice (some ⟨g2,0,none⟩) n c2⟩ inp f1 ((HH4.out.keep HS4f1.out).r2.ok (HH4.out.keep HS4f1.out).old.size (by rw[List.length_set];exact HNL.out.2.1)) (by rw[HINP.out];exact⟨⟨HIOK.out.1.1.keep HS4f1.out,HIOK.out.1.2.1.keep HS4f1.out,HIOK.out.1.2.2.keep HS4f1.out⟩,HIOK.out.2.1,by show (20000:Int)≤1000000;omega⟩))
 rw[HINP.out]at HR
 unfold pv iv at HR
 dsimp only at HR
 rw[←HINP.out]at HR
 have h8:=(HH4.out.keep HS4f1.out).b2
 have hp0:=h8.cell 0
 have hp1:=h8.cell 1
 have hp2:=h8.cell 2
 have hp3:=h8.cell 3
 have hpl:=h8.lt
 have h9:=HIB6.out.keep HT6f1.out
 have hi0:=h9.cell 0
 have hi1:=h9.cell 1
 have hi2:=h9.cell 2
 have hi3:=h9.cell 3
 have hil:=h9.lt
 clear h8 h9
 go_wp2_with fail
 refine HR.out.mono ?_
 clear hp0 hp1 hp2 hp3 hpl hi0 hi1 hi2 hi3 hil HR
 rintro e z2 ⟨va,rfl,ho,hs⟩
 obtain⟨R2,hR⟩:∃ z,YW ⟨pp,pk,ps+1,(bl2.set b ⟨Z,.slice a2 (kn+3) e2,y2.fin⟩),.slice (some ⟨g2,0,none⟩) n c2⟩ inp=z:=⟨_,rfl⟩
 rw[hR]at ho
 have HRR2:=Lib.hid hR
 obtain⟨ra2,rb2,rc2,rd2,re2,hva⟩:=out_shape ho
 obtain⟨rm2,hrm⟩:∃ z,R2.mem.length=z:=⟨_,rfl⟩
 rw[hrm]at hva
 subst hva
 obtain⟨ae2,hae⟩:∃ z,R2.e=z:=⟨_,rfl⟩
 obtain⟨av2,hav⟩:∃ z,R2.v=z:=⟨_,rfl⟩
 obtain⟨as2,has⟩:∃ z,R2.steps=z:=⟨_,rfl⟩
 rw[hae,hav,has]at ho ⊢
 have HE2:=Lib.hid hae
 have HOv:=Lib.hid ho
 have HSv:=Lib.hid hs
 clear hR ho hs hrm hae hav has
 go_upto_region 21 with fail
 obtain⟨q2,hq⟩:∃ z,z=z2.heap.size:=⟨_,rfl⟩
 obtain⟨f2,hx⟩:∃ z,z=z2.alloc (.cells #[.int .i64 ae2,.int .i32 av2,.slice ra2 rm2 rb2,.slice rc2 rd2 re2,.int .i64 as2] 47):=⟨_,rfl⟩
 have HOB2:=Lib.hid (show HeapIs f2 q2 #[.int .i64 ae2,.int .i32 av2,.slice ra2 rm2 rb2,.slice rc2 rd2 re2,.int .i64 as2] 47 from by rw[hx,hq];exact HeapIs.new _ _ _)
 have hsx:Since z2 f2:=by rw[hx];exact (Since.refl _).alloc _
 rw[←hx,←hq]
 have HO2:=Lib.hid (XR.since HOv.out hsx)
 have HS4f2:=Lib.hid (HS4f1.out.trans (HSv.out.trans hsx))
 have HT6f2:=Lib.hid (HT6f1.out.trans (HSv.out.trans hsx))
 have HTW2:=Lib.hid (HSv.out.trans hsx)
 clear hx hq hsx HOv HSv
 have HR:=Lib.hid (Zax ⟨pp,pk,ps,(bl3.set b ⟨J.take i++(S++J.drop i),.slice a3 (kn+1+1) e3,y3.fin⟩),.slice (some ⟨g3,0,none⟩) n c3⟩ inp f2 ((HH4.out.keep HS4f2.out).r3.ok (HH4.out.keep HS4f2.out).old.size (by rw[List.length_set];exact HNL.out.2.2)) (by rw[HINP.out];exact⟨⟨HIOK.out.1.1.keep HS4f2.out,HIOK.out.1.2.1.keep HS4f2.out,HIOK.out.1.2.2.keep HS4f2.out⟩,HIOK.out.2.1,by show (20000:Int)≤1000000;omega⟩))
 rw[HINP.out]at HR
 unfold pv iv at HR
 dsimp only at HR
 rw[←HINP.out]at HR
 have h8:=(HH4.out.keep HS4f2.out).b3
 have hp0:=h8.cell 0
 have hp1:=h8.cell 1
 have hp2:=h8.cell 2
 have hp3:=h8.cell 3
 have hpl:=h8.lt
 have h9:=HIB6.out.keep HT6f2.out
 have hi0:=h9.cell 0
 have hi1:=h9.cell 1
 have hi2:=h9.cell 2
 have hi3:=h9.cell 3
 have hil:=h9.lt
 clear h8 h9
 go_wp2_with fail
 refine HR.out.mono ?_
 clear hp0 hp1 hp2 hp3 hpl hi0 hi1 hi2 hi3 hil HR
 rintro e z3 ⟨va,rfl,ho,hs⟩
 obtain⟨R3,hR⟩:∃ z,YW ⟨pp,pk,ps,(bl3.set b ⟨J.take i++(S++J.drop i),.slice a3 (kn+1+1) e3,y3.fin⟩),.slice (some ⟨g3,0,none⟩) n c3⟩ inp=z:=⟨_,rfl⟩
 rw[hR]at ho
 have HRR3:=Lib.hid hR
 obtain⟨ra3,rb3,rc3,rd3,re3,hva⟩:=out_shape ho
 obtain⟨rm3,hrm⟩:∃ z,R3.mem.length=z:=⟨_,rfl⟩
 rw[hrm]at hva
 subst hva
 obtain⟨ae3,hae⟩:∃ z,R3.e=z:=⟨_,rfl⟩
 obtain⟨av3,hav⟩:∃ z,R3.v=z:=⟨_,rfl⟩
 obtain⟨as3,has⟩:∃ z,R3.steps=z:=⟨_,rfl⟩
 rw[hae,hav,has]at ho ⊢
 have HE3:=Lib.hid hae
 have HOv:=Lib.hid ho
 have HSv:=Lib.hid hs
 clear hR ho hs hrm hae hav has
 go_upto_region 22 with fail
 obtain⟨q3,hq⟩:∃ z,z=z3.heap.size:=⟨_,rfl⟩
 obtain⟨f3,hx⟩:∃ z,z=z3.alloc (.cells #[.int .i64 ae3,.int .i32 av3,.slice ra3 rm3 rb3,.slice rc3 rd3 re3,.int .i64 as3] 47):=⟨_,rfl⟩
 have HOB3:=Lib.hid (show HeapIs f3 q3 #[.int .i64 ae3,.int .i32 av3,.slice ra3 rm3 rb3,.slice rc3 rd3 re3,.int .i64 as3] 47 from by rw[hx,hq];exact HeapIs.new _ _ _)
 have hsx:Since z3 f3:=by rw[hx];exact (Since.refl _).alloc _
 rw[←hx,←hq]
 have HO3:=Lib.hid (XR.since HOv.out hsx)
 have HS4f3:=Lib.hid (HS4f2.out.trans (HSv.out.trans hsx))
 have HT6f3:=Lib.hid (HT6f2.out.trans (HSv.out.trans hsx))
 have HTW3:=Lib.hid (HSv.out.trans hsx)
 clear hx hq hsx HOv HSv
 have HTA:=Lib.hid (HTW1.out.trans (HTW2.out.trans HTW3.out))
 have HTB:=Lib.hid (HTW2.out.trans HTW3.out)
 have HLI1:=Lib.hid (show Xx ⟨pp,pk,ps,pbl,.slice (some ⟨g0,0,none⟩) n pc⟩ ⟨pp,pk,ps,(bl1.set b ⟨J,.slice a1 (kn+1) e1,y1.fin⟩),.slice (some ⟨g1,0,none⟩) n c1⟩ b i [VK c d] ps from by
  have h:=laid_in HQ1.out HX.out HY1.out i S J (.slice a1 (kn+1) e1) (.slice (some ⟨g1,0,none⟩) n c1) ps (by rw[HJ.out];simp only[List.map_append,List.map_take,List.map_drop])
  rw[HSm.out]at h
  exact h)
 have HLI2:=Lib.hid (show Xx ⟨pp,pk,ps,pbl,.slice (some ⟨g0,0,none⟩) n pc⟩ ⟨pp,pk,ps+1,(bl2.set b ⟨Z,.slice a2 (kn+3) e2,y2.fin⟩),.slice (some ⟨g2,0,none⟩) n c2⟩ b i [Zed c ps,ZcI c d,Zee d ps] (ps+1) from by
  have h:=laid_in HQ2.out HX.out HY2.out i Y Z (.slice a2 (kn+3) e2) (.slice (some ⟨g2,0,none⟩) n c2) (ps+1) (by rw[HZ.out];simp only[List.map_append,List.map_take,List.map_drop])
  rw[HYm.out]at h
  exact h)
 have HLI3:=Lib.hid (show Xx ⟨pp,pk,ps,pbl,.slice (some ⟨g0,0,none⟩) n pc⟩ ⟨pp,pk,ps,(bl3.set b ⟨J.take i++(S++J.drop i),.slice a3 (kn+1+1) e3,y3.fin⟩),.slice (some ⟨g3,0,none⟩) n c3⟩ b i [VK c d,VK c d] ps from by
  have hl:(ins.take i).length=i:=by rw[List.length_take];have:=HIK.out;omega
  have hj:J.take i++(S++J.drop i)=ins.take i++((S++S)++ins.drop i):=by
   rw[HJ.out,List.take_append_of_le_length (by omega),List.take_of_length_le (by omega),List.drop_append,hl,List.drop_eq_nil_of_le (by omega),Nat.sub_self,List.drop_zero,List.nil_append,List.append_assoc]
  have h:=laid_in HQ3.out HX.out HY3.out i (S++S) (J.take i++(S++J.drop i)) (.slice a3 (kn+1+1) e3) (.slice (some ⟨g3,0,none⟩) n c3) ps (by rw[hj];simp only[List.map_append,List.map_take,List.map_drop])
  rw[List.map_append,HSm.out]at h
  exact h)
 have HSA:=Lib.hid (show ae1≠3→ae2≠3→KC R1 R2 from fun h1 h2=>by
  have h:=Zct (inp:=inp) (c:=c) (d:=d) ⟨by omega,by omega⟩ ⟨by omega,by omega⟩ HGOOD.out HLI1.out HLI2.out (by rw[HRR1.out,HE1.out];exact h1) (by rw[HRR2.out,HE2.out];exact h2)
  rw[HRR1.out,HRR2.out]at h
  exact h)
 have HSB:=Lib.hid (show ae0≠3→ae3≠3→KC R0 R3 from fun h1 h2=>by
  have h:=Zal (inp:=inp) (c:=c) (d:=d) ⟨by omega,by omega⟩ ⟨by omega,by omega⟩ HGOOD.out HLI3.out (by rw[HRR0.out,HE0.out];exact h1) (by rw[HRR3.out,HE3.out];exact h2)
  rw[HRR0.out,HRR3.out]at h
  exact h)
 have HF:=Lib.hid (HS4.out.trans HS4f3.out)
 have HOa:=Lib.hid (XR.since HO0.out HTA.out)
 have HOb:=Lib.hid (XR.since HO1.out HTB.out)
 have HOc:=Lib.hid (XR.since HO2.out HTW3.out)
 have h9:=HOB0.out.keep HTA.out
 have za0:=h9.cell 0
 have zal:=h9.lt
 have h9:=HOB1.out.keep HTB.out
 have zb0:=h9.cell 0
 have zb1:=h9.cell 1
 have zb2:=h9.cell 2
 have zb3:=h9.cell 3
 have zb4:=h9.cell 4
 have zbl:=h9.lt
 have h9:=HOB2.out.keep HTW3.out
 have zc0:=h9.cell 0
 have zc1:=h9.cell 1
 have zc2:=h9.cell 2
 have zc3:=h9.cell 3
 have zc4:=h9.cell 4
 have zcl:=h9.lt
 have h9:=HOB3.out
 have zd0:=h9.cell 0
 have zdl:=h9.lt
 have h9:=(HH4.out.keep HS4f3.out).bp
 have zp2:=h9.cell 2
 have zpl:=h9.lt
 clear h9
 have d4:(ps==16384)=false:=beq_eq_false_iff_ne.2 (by have:=HPS.out.2;omega)
 by_cases k0:ae0=3
 ·subst k0
  go_wp2_with fail
  go_ret
  exact⟨rfl,HF.out⟩
 have d0:(ae0==3)=false:=beq_eq_false_iff_ne.2 k0
 by_cases k1:ae1=3
 ·subst k1
  clear k0
  go_wp2_with fail
  go_ret
  exact⟨rfl,HF.out⟩
 have d1:(ae1==3)=false:=beq_eq_false_iff_ne.2 k1
 by_cases k2:ae2=3
 ·subst k2
  clear k0 k1
  go_wp2_with fail
  go_ret
  exact⟨rfl,HF.out⟩
 have d2:(ae2==3)=false:=beq_eq_false_iff_ne.2 k2
 by_cases k3:ae3=3
 ·subst k3
  clear k0 k1 k2
  go_wp2_with fail
  go_ret
  exact⟨rfl,HF.out⟩
 have d3:(ae3==3)=false:=beq_eq_false_iff_ne.2 k3
 have HQA:=Lib.hid (HSA.out k1 k2)
 have HQB:=Lib.hid (HSB.out k0 k3)
 clear k0 k1 k2 k3
 go_wp2_with fail
 refine (ZbB R1 R2 _ _ _ _ f3 HOb.out HOc.out HQA.out).mono ?_
 clear za0 zal zb0 zb1 zb2 zb3 zb4 zbl zc0 zc1 zc2 zc3 zc4 zcl zd0 zdl zp2 zpl
 rintro e w7 ⟨rfl,hs7⟩
 have HS7:=Lib.hid hs7
 have h9:=HOB0.out.keep (HTA.out.trans hs7)
 have za0:=h9.cell 0
 have za1:=h9.cell 1
 have za2:=h9.cell 2
 have za3:=h9.cell 3
 have za4:=h9.cell 4
 have zal:=h9.lt
 have h9:=HOB3.out.keep hs7
 have zd0:=h9.cell 0
 have zd1:=h9.cell 1
 have zd2:=h9.cell 2
 have zd3:=h9.cell 3
 have zd4:=h9.cell 4
 have zdl:=h9.lt
 clear h9 hs7
 go_wp2_with fail
 refine (ZbB R0 R3 _ _ _ _ w7 (XR.since HOa.out HS7.out) (XR.since HO3.out HS7.out) HQB.out).mono ?_
 clear za0 za1 za2 za3 za4 zal zd0 zd1 zd2 zd3 zd4 zdl
 rintro e w8 ⟨rfl,hs8⟩
 have HS8:=Lib.hid hs8
 clear hs8
 go_wp2_with fail
 go_ret
 exact⟨rfl,HF.out.trans (HS7.out.trans HS8.out)⟩
end Go.Proofs.YtimpddecdodddaaGreat
namespace Go.Proofs.YtimpddecdodddaaGreat
open Go.RowKit Go.ChangeShapes Go.WideShapes
set_option linter.unusedVariables false
theorem list4 {α:Type} {l : List α} (h:l.length=4):∃ a b c d,l=[a,b,c,d]:=by
 match l,h with
 | [a,b,c,d],_=>exact⟨a,b,c,d,rfl⟩
theorem Tryz.cells4:Tryz.prog.cellsOf 23=4:=by kernel_rfl
set_option maxRecDepth 100000 in
theorem four_open {H : Type} {enc:TypeId × Value→H} {w : World} {base:Nat} {held:Bool} {r : Reach} {b0:Nat} {v : Value} {d : DataW H} {p : List MemPlace} (hv:Value.okWide Tryz.prog w r b0 23 v)
  (h:DataW.Trod enc Tryz.prog w base (fun _=>true) held 23 v d p):∃ x0 x1 x2 x3:Int,v=.agg #[.int .i64 x0,.int .i64 x1,.int .i64 x2,.int .i64 x3]:=by
 have hv':=hv
 simp only[Value.okWide,Tryz.underlying23]at hv'
 obtain⟨cs,rfl,hsz,_⟩:=hv'
 obtain⟨fuel,hf⟩:=h
 obtain⟨xs,m,_,_,hlen,hxs,hel⟩:=DataW.trod_array Tryz.underlying23 hf
 rw[Tryz.cells4]at hlen
 obtain⟨c0,c1,c2,c3,hc⟩:=list4 hlen
 have h0:=hel 0 (by decide)
 have h1:=hel 1 (by decide)
 have h2:=hel 2 (by decide)
 have h3:=hel 3 (by decide)
 rw[Tryz.cellsInt,hc]at h0 h1 h2 h3
 simp only[Nat.mul_one,List.drop_succ_cons,List.drop_zero,List.take_succ_cons,List.take_zero]at h0 h1 h2 h3
 obtain⟨n0,rfl,_⟩:=Zb3 Tryz.underlying3 h0 (by simp[hxs])
 obtain⟨n1,rfl,_⟩:=Zb3 Tryz.underlying3 h1 (by simp[hxs])
 obtain⟨n2,rfl,_⟩:=Zb3 Tryz.underlying3 h2 (by simp[hxs])
 obtain⟨n3,rfl,_⟩:=Zb3 Tryz.underlying3 h3 (by simp[hxs])
 refine⟨n0,n1,n2,n3,?_⟩
 have:cs=#[.int .i64 n0,.int .i64 n1,.int .i64 n2,.int .i64 n3]:=by
  apply Array.ext'
  simpa [Value.cells]using hc
 rw[this]
set_option maxRecDepth 100000 in
theorem law_swaps {H : Type} {enc:TypeId × Value→H} {W : World} {base:Nat} {held:Bool} {r : Reach} {b0:Nat} {d0 d1 d2:DataW H} {p0 p1 p2:List MemPlace} (v0 v1 v2:Value)
  (k0:Value.okWide Tryz.prog W r b0 22 v0) (h0:DataW.Trod enc Tryz.prog W base (fun _=>true) held 22 v0 d0 p0)
  (k1:Value.okWide Tryz.prog W r b0 23 v1) (h1:DataW.Trod enc Tryz.prog W base (fun _=>true) held 23 v1 d1 p1)
  (k2:Value.okWide Tryz.prog W r b0 22 v2) (h2:DataW.Trod enc Tryz.prog W base (fun _=>true) held 22 v2 d2 p2) :
  Calls Tryz.prog 3 #[v0,v1,v2] W (TellsS true W):=by
 obtain⟨l,hl,_⟩:=Zb2 k0 h0
 obtain⟨x0,x1,x2,x3,rfl⟩:=four_open k1 h1
 obtain⟨ns,hns,_⟩:=Zb2 k2 h2
 exact walk_swaps v0 v2 l ns x0 x1 x2 x3 W hl (ZbK Tryz.underlying22 k0) hns
end Go.Proofs.YtimpddecdodddaaGreat